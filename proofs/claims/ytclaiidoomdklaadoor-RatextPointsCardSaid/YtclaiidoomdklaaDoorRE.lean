/-
  What Parse says of the four texts of the law RatextPoints.
-/
import Derived.Test.YtclaiidoomdklaaDoorRD
namespace Go.Proofs.YtclaiidoomdklaaDoor
section
open Go Go.RowKit Go.Proofs Pl
set_option linter.unusedVariables false
theorem i64_and1023 (n : Int) : bits .and .i64 n 1023 = n % 1024 := by
  have h127 : (BitVec.ofInt 64 1023).toNat = 2 ^ 10 - 1 := by decide
  have key : (BitVec.ofInt 64 n &&& BitVec.ofInt 64 1023).toNat = (n % ((2 ^ 64 : Nat) : Int)).toNat % 2 ^ 10 := by
    rw [BitVec.toNat_and, BitVec.toNat_ofInt, h127, Nat.and_two_pow_sub_one_eq_mod]
  show IntKind.i64.wrap ((BitVec.ofInt 64 n &&& BitVec.ofInt 64 1023).toNat : Nat) = n % 1024
  rw [key, IntKind.wrap_i64]
  omega
theorem allDig_app {a b : List UInt8} : allDig (a ++ b) = (allDig a && allDig b) := by unfold allDig; rw [List.all_append]
theorem allDig_zeros (m : Nat) : allDig (List.replicate m 48) = true := by
  unfold allDig
  rw [List.all_eq_true]
  intro x hx
  rw [List.eq_of_mem_replicate hx]
  rfl
theorem decV_zeros (l : List UInt8) (m : Nat) : decV (l ++ List.replicate m 48) = decV l * 10 ^ m := by
  induction m with
  | zero => simp
  | succ m ih =>
    rw [List.replicate_succ', ← List.append_assoc, decV_snoc, ih, Nat.pow_succ, Nat.mul_assoc]
    rfl
theorem valT_digs {l : List UInt8} (h : allDig l = true) (h0 : 0 < l.length) (h1 : l.length ≤ 200) : valT l = decV l := by
  unfold valT
  rw [if_pos (err_good h (by omega) (by omega))]
theorem ne_empty {l : List UInt8} (h : 0 < l.length) : l.isEmpty = false := by
  cases l with
  | nil => simp at h
  | cons _ _ => rfl
theorem head_no {l t : List UInt8} (h : allDig l = true) (h0 : 0 < l.length) : cutC [43, 45] (l ++ t) = (false, l ++ t) ∧ ((l ++ t).head? == some 45) = false := by
  cases l with
  | nil => simp at h0
  | cons c l =>
    have h2 := allDig_get h (k := 0) (by simp)
    simp only [List.getElem_cons_zero] at h2
    have n1 : c ≠ 43 := by rintro rfl; simp at h2
    have n2 : c ≠ 45 := by rintro rfl; simp at h2
    refine ⟨?_, ?_⟩
    · show (if [43, 45].contains c then (true, l ++ t) else (false, c :: (l ++ t))) = _
      rw [if_neg (by simp [n1, n2])]
      rfl
    · show (some c == some 45) = false
      simp [n2]
theorem allDig_cut {d : List UInt8} (h : allDig d = true) (k : Nat) : allDig (d.take k) = true ∧ allDig (d.drop k) = true := by
  have e : allDig (d.take k ++ d.drop k) = true := by rw [List.take_append_drop]; exact h
  rw [allDig_app, Bool.and_eq_true] at e
  exact e
variable {d : List UInt8}
theorem points_a (h : allDig d = true) (h9 : d.length ≤ 90) {k : Nat} (hk : 0 < k) (hk2 : k < d.length) :
    Gives (St (d.take k ++ 46 :: d.drop k)) (qn (sg false (decV d)) (10 ^ (d.length - k))) (qd (sg false (decV d)) (10 ^ (d.length - k))) := by
  obtain ⟨h1, h2⟩ := allDig_cut h k
  have l1 : (d.take k).length = k := by rw [List.length_take]; omega
  have l2 : (d.drop k).length = d.length - k := List.length_drop
  obtain ⟨d1, d2⟩ := digs_app h1 46 (d.drop k) rfl
  obtain ⟨d3, d4⟩ := digs_all h2
  obtain ⟨c1, c2⟩ := head_no (t := 46 :: d.drop k) h1 (by omega)
  have hl : (d.take k ++ 46 :: d.drop k).length ≤ 9223372036854775807 := by rw [List.length_append, List.length_cons]; omega
  have hs : SplitSays (St (d.take k ++ 46 :: d.drop k)) false false (d.take k) (d.drop k) [] [] ((d.take k).length + (d.drop k).length) true := fun W =>
    split_010_112 (w := W) (l5 := []) (l6 := []) (l7 := []) (ex := []) (s5 := false) (sm := false) (yb1 := false) (yb2 := false) (yb3 := false) hl c2 c1 d1 d2 rfl rfl d3 d4 rfl (ne_empty (by omega)) (ne_empty (by omega)) rfl
  have hE : valT (([] : List UInt8) ++ [48]) = 0 := by decide +kernel
  have hv : valT (d.take k ++ d.drop k) = decV d := by rw [List.take_append_drop]; exact valT_digs h (by omega) (by omega)
  intro W
  have g := rparse_none (w := W) hs (by omega) (by simp only [List.length_nil]; omega) (by omega) hE (by omega) rfl rfl
  rw [hv, l2] at g
  exact g
theorem points_b (h : allDig d = true) (h9 : d.length ≤ 90) (h2 : 2 ≤ d.length) {m : Nat} (hm : m ≤ 90) :
    Gives (St (d ++ 47 :: 49 :: List.replicate m 48)) (qn (sg false (decV d)) (10 ^ m)) (qd (sg false (decV d)) (10 ^ m)) := by
  have h1 : allDig (49 :: List.replicate m 48) = true := by
    rw [show (49 : UInt8) :: List.replicate m 48 = [49] ++ List.replicate m 48 from rfl, allDig_app, allDig_zeros]; rfl
  have l1 : (49 :: List.replicate m (48 : UInt8)).length = m + 1 := by simp
  obtain ⟨d1, d2⟩ := digs_app h 47 (49 :: List.replicate m 48) rfl
  obtain ⟨d3, d4⟩ := digs_all h1
  obtain ⟨c1, c2⟩ := head_no (t := 47 :: 49 :: List.replicate m 48) h (by omega)
  have hl : (d ++ 47 :: 49 :: List.replicate m 48).length ≤ 9223372036854775807 := by rw [List.length_append, List.length_cons, l1]; omega
  have hs : SplitSays (St (d ++ 47 :: 49 :: List.replicate m 48)) false false d [] [] (49 :: List.replicate m 48) (d.length + (49 :: List.replicate m (48 : UInt8)).length) true := fun W =>
    split_100_112 (w := W) (l5 := []) (l6 := []) (l7 := []) (ex := []) (s5 := false) (sm := false) (yb1 := false) (yb2 := false) (yb3 := false) hl c2 c1 d1 d2 rfl d3 d4 (ne_empty (by omega)) rfl rfl
  have hE : valT (([] : List UInt8) ++ [48]) = 0 := by decide +kernel
  have hv : valT d = decV d := valT_digs h (by omega) (by omega)
  have ho : valT (49 :: List.replicate m 48) = 10 ^ m := by
    rw [valT_digs h1 (by rw [l1]; omega) (by rw [l1]; omega), show (49 : UInt8) :: List.replicate m 48 = [49] ++ List.replicate m 48 from rfl, decV_zeros, show decV [49] = 1 from rfl, Nat.one_mul]
  have hp : 10 ^ m ≠ 0 := Nat.pos_iff_ne_zero.1 (Nat.pow_pos (by decide))
  intro W
  have g := rparse_over (w := W) hs (by rw [l1]; omega) (by rw [l1]; simp only [List.length_nil]; omega) (by omega) hE (by omega) rfl (by rw [ho]; exact hp)
  rw [hv, ho] at g
  exact g
theorem val_ten : ∀ n : Fin 9, valT ([UInt8.ofNat (48 + n.val)] ++ [48]) = 10 * n.val := by decide +kernel
theorem dig_ten : ∀ n : Fin 9, digB (UInt8.ofNat (48 + n.val)) = true := by decide +kernel
theorem points_c (h : allDig d = true) (h9 : d.length ≤ 90) (h2 : 2 ≤ d.length) {n : Nat} (hn : n < 9) :
    Gives (St (45 :: (d ++ 101 :: [UInt8.ofNat (48 + n)]))) (qn (sg true (decV d * 10 ^ n)) 1) (qd (sg true (decV d * 10 ^ n)) 1) := by
  have hx : allDig [UInt8.ofNat (48 + n)] = true := by
    unfold allDig
    rw [List.all_cons, dig_ten ⟨n, hn⟩]; rfl
  obtain ⟨d1, d2⟩ := digs_app h 101 [UInt8.ofNat (48 + n)] rfl
  obtain ⟨d3, d4⟩ := digs_all hx
  have c5 : cutC [43, 45] [UInt8.ofNat (48 + n)] = (false, [UInt8.ofNat (48 + n)]) ∧ (([UInt8.ofNat (48 + n)] : List UInt8).head? == some 45) = false := by
    have := head_no (t := []) hx (by simp)
    rwa [List.append_nil] at this
  have hl : (45 :: (d ++ 101 :: [UInt8.ofNat (48 + n)])).length ≤ 9223372036854775807 := by simp; omega
  have hs : SplitSays (St (45 :: (d ++ 101 :: [UInt8.ofNat (48 + n)]))) true false d [] [UInt8.ofNat (48 + n)] [] (d.length + [UInt8.ofNat (48 + n)].length) true := fun W =>
    split_001_121 (w := W) (l3 := []) (l4 := []) (pt := []) (yb1 := false) (yb2 := false) (yb3 := false) hl rfl rfl d1 d2 rfl rfl rfl c5.2 c5.1 d3 d4 (ne_empty (by omega)) rfl rfl
  have hE : valT ([UInt8.ofNat (48 + n)] ++ [48]) = 10 * n := val_ten ⟨n, hn⟩
  have hv : valT (d ++ []) = decV d := by rw [List.append_nil]; exact valT_digs h (by omega) (by omega)
  intro W
  by_cases h0 : 10 * n = 0
  · obtain rfl : n = 0 := by omega
    have g := rparse_nil (w := W) hs (by simp; omega) (by simp; omega) (by omega) hE (by omega) rfl rfl h0
    rw [hv, show 10 ^ ([] : List UInt8).length = 1 from rfl] at g
    rw [Nat.pow_zero, Nat.mul_one]
    exact g
  · have g := rparse_big (w := W) hs (by simp; omega) (by simp; omega) (by omega) hE (by omega) rfl rfl h0 rfl
    rw [hv, Nat.mul_div_cancel_left n (by decide), show 10 ^ ([] : List UInt8).length = 1 from rfl] at g
    exact g
theorem points_d (h : allDig d = true) (h9 : d.length ≤ 90) (h2 : 2 ≤ d.length) {n : Nat} (hn : n < 9) :
    Gives (St (45 :: (d ++ List.replicate n 48))) (qn (sg true (decV d * 10 ^ n)) 1) (qd (sg true (decV d * 10 ^ n)) 1) := by
  have hx : allDig (d ++ List.replicate n 48) = true := by rw [allDig_app, h, allDig_zeros]; rfl
  have l1 : (d ++ List.replicate n (48 : UInt8)).length = d.length + n := by simp
  obtain ⟨d1, d2⟩ := digs_all hx
  have hl : (45 :: (d ++ List.replicate n (48 : UInt8))).length ≤ 9223372036854775807 := by rw [List.length_cons, l1]; omega
  have hs : SplitSays (St (45 :: (d ++ List.replicate n 48))) true false (d ++ List.replicate n 48) [] [] [] (d ++ List.replicate n (48 : UInt8)).length true := fun W =>
    split_000_122 (w := W) (l3 := []) (l4 := []) (l5 := []) (l6 := []) (l7 := []) (pt := []) (ex := []) (s5 := false) (sm := false) (yb1 := false) (yb2 := false) (yb3 := false) hl rfl rfl d1 d2 rfl rfl rfl (ne_empty (by omega)) rfl
  have hE : valT (([] : List UInt8) ++ [48]) = 0 := by decide +kernel
  have hv : valT (d ++ List.replicate n 48 ++ []) = decV d * 10 ^ n := by
    rw [List.append_nil, valT_digs hx (by omega) (by omega), decV_zeros]
  intro W
  have g := rparse_none (w := W) hs (by omega) (by rw [l1]; simp only [List.length_nil]; omega) (by omega) hE (by omega) rfl rfl
  rw [hv, show 10 ^ ([] : List UInt8).length = 1 from rfl] at g
  exact g
end
end Go.Proofs.YtclaiidoomdklaaDoor
