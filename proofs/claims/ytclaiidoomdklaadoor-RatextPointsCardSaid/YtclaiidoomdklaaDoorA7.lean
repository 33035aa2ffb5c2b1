/-
  nat: Bits, Parse.
-/
import Derived.Test.YtclaiidoomdklaaDoorA4
import Derived.Test.YtclaiidoomdklaaDoorA6
import Derived.Test.YtclaiidoomdklaaDoorA1
import Derived.Test.YtclaiidoomdklaaDoorA2
import Derived.Lib.ItoaNum
import Derived.Lib.SlTrimSet
import Derived.Lib.Join
import Derived.Lib.ItoaMem
import Derived.Lib.Repeat
import Derived.Shelf.Strconv.Itoa3
import Derived.Lib.AppendIntMem
import Derived.Shelf.Strings.SlTrimAscii
set_option linter.unusedVariables false
namespace Go.Proofs.YtclaiidoomdklaaDoor
namespace Pl

/-- The number of binary digits. -/
def nb (n : Nat) : Nat := if n = 0 then 0 else n.log2 + 1
theorem nb_zero : nb 0 = 0 := rfl
theorem nb_eq_zero {n : Nat} : nb n = 0 ↔ n = 0 := by unfold nb; split <;> simp_all
theorem nb_lt (n : Nat) : n < 2 ^ nb n := by
  unfold nb
  split
  · subst n; decide
  · exact Nat.lt_log2_self
theorem nb_ge {n : Nat} (h : n ≠ 0) : 2 ^ (nb n - 1) ≤ n := by
  unfold nb
  rw [if_neg h, Nat.add_sub_cancel]
  exact Nat.log2_self_le h
theorem nb_le_of_lt {n k : Nat} (h : n < 2 ^ k) : nb n ≤ k := by
  rcases Nat.eq_zero_or_pos n with rfl | hp
  · rw [nb_zero]; omega
  · have := nb_ge (n := n) (by omega)
    rcases Nat.lt_or_ge k (nb n) with hlt | hge
    · have h2 : 2 ^ k ≤ 2 ^ (nb n - 1) := Nat.pow_le_pow_right (by decide) (by omega)
      omega
    · exact hge
theorem nb_unique {n k : Nat} (h0 : n ≠ 0) (h1 : n < 2 ^ k) (h2 : 2 ^ (k - 1) ≤ n) (hk : 0 < k) : nb n = k := by
  have a := nb_le_of_lt h1
  have b := nb_lt n
  rcases Nat.lt_or_ge (nb n) k with hlt | hge
  · have h3 : 2 ^ nb n ≤ 2 ^ (k - 1) := Nat.pow_le_pow_right (by decide) (by omega)
    omega
  · omega
/-- By the highest word. -/
theorem nb_words {B t r n k e : Nat} (hB : B = 2 ^ e) (hn : n = r + B ^ k * t) (hr : r < B ^ k) (ht : t ≠ 0) (b : Nat) (h1 : t < 2 ^ b) (h2 : 2 ^ (b - 1) ≤ t) (hb : 0 < b) : nb n = k * e + b := by
  have hp : B ^ k = 2 ^ (k * e) := by rw [hB, ← Nat.pow_mul, Nat.mul_comm]
  have hpos : 0 < B ^ k := by rw [hp]; exact Nat.pow_pos (by decide)
  have ha : B ^ k * (t + 1) ≤ B ^ k * 2 ^ b := Nat.mul_le_mul_left _ h1
  have hb2 : B ^ k * 2 ^ (b - 1) ≤ B ^ k * t := Nat.mul_le_mul_left _ h2
  have e1 : 2 ^ (k * e + b) = B ^ k * 2 ^ b := by rw [hp, Nat.pow_add]
  have e2 : 2 ^ (k * e + b - 1) = B ^ k * 2 ^ (b - 1) := by rw [hp, ← Nat.pow_add]; congr 1; omega
  have ht1 : B ^ k * 1 ≤ B ^ k * t := Nat.mul_le_mul_left _ (by omega)
  rw [Nat.mul_add] at ha
  exact nb_unique (by omega) (by omega) (by omega) (by omega)
end Pl
end Go.Proofs.YtclaiidoomdklaaDoor
namespace Go.Proofs.YtclaiidoomdklaaDoor
open Go Go.RowKit Go.Proofs Pl
set_option linter.unusedVariables false

theorem top_word {P : List Nat} {m : Nat} (hP : All WB P) (hc : Canon P) (hl : P.length = m + 1) :
    ∃ b : Nat, 0 < b ∧ b ≤ 64 ∧ (∀ w : World, Calls Tryd.prog 65 #[.int .u64 (atD P m : Int)] w fun e w' => e = .returned (.int .i64 (b : Int)) ∧ w = w') ∧ nb (val WB P) = m * 64 + b := by
  have e := val_take_drop WB P m (by omega)
  rw [drop_val WB P m (by omega), List.drop_eq_nil_of_le (by omega), val_nil, Nat.mul_zero, Nat.add_zero] at e
  have ht := atD_lt hP m
  have hr := take_lt hP (m := m) (by omega)
  have h0 : atD P m ≠ 0 := by
    intro h
    rw [h, Nat.mul_zero, Nat.add_zero] at e
    rw [← e] at hr
    have h1 := dg_length_le WB_one hr
    rw [dg_val WB_one hP hc] at h1
    omega
  obtain ⟨b1, b2, b3⟩ := bitLen_spec 64 (atD P m) (by rw [← WB_pow]; exact ht) (Nat.le_refl _)
  obtain ⟨b4, b5⟩ := b3 h0
  refine ⟨Lib.bitLen (atD P m), by omega, b2, fun w => ?_, nb_words WB_pow e hr h0 _ b1 b5 (by omega)⟩
  have hw : (atD P m : Int) ≤ 18446744073709551615 := by have := WB_eq; omega
  exact (Tryd.bits_Len64 (atD P m : Int) w (by omega) hw).mono fun e w' ⟨a, b⟩ => ⟨by rw [a, Int.toNat_natCast], b.symm⟩

set_option maxRecDepth 100000 in
theorem bits_any (A : Option Addr) (c : Nat) (xs : List Nat) (w : World) (hx : Rd w A xs) (hlx : xs.length ≤ c) (hcx : c ≤ maxLen) (hlen : xs.length ≤ 1099511627776) :
    Calls Tryd.prog 39 #[.slice A xs.length c] w fun e w' => e = .returned (.int .i64 (nb (val WB xs) : Int)) ∧ ∃ q, w' = w.drewN q := by
  have hb := bare_any A c xs w hx hlx hcx
  have hle := strip_length_le xs
  obtain ⟨P, hP⟩ : ∃ P, P = strip xs := ⟨_, rfl⟩
  have rP : Rd w A P := hP ▸ hx.strip
  have vP : val WB P = val WB xs := by rw [hP, val_strip]
  have cP : Canon P := hP ▸ canon_strip xs
  rw [← hP] at hb hle
  rw [← vP]
  cases hl : P.length with
  | zero =>
    rw [hl] at hb
    have hz : nb (val WB P) = 0 := by rw [List.eq_nil_of_length_eq_zero hl]; rfl
    rw [hz]
    have HB := Lib.hid hb
    clear hb hx hlx hcx hlen hle hP rP vP cP hl hz
    go_enter Tryd.func39, Tryd.ntmps39
    go_wp2_with fail
    refine HB.out.mono ?_; rintro e w' ⟨rfl, rfl⟩
    go_wp2_with fail
    go_ret
    exact ⟨rfl, 0, rfl⟩
  | succ m =>
    obtain ⟨b, hb0, hb64, hlen64, hnb⟩ := top_word rP.1 cP hl
    rw [hnb]
    rw [hl] at hb
    obtain ⟨bb, o, rfl, hcs⟩ := rP.at_ (j := m) (by omega)
    have hm := hcs m _ (atD_some (by omega))
    have hn1 : ((m + 1 : Nat) : Int) - 1 = (m : Int) := by omega
    have hn0 : (((m + 1 : Nat) : Int) == 0) = false := by simp; omega
    obtain ⟨n, hn⟩ : ∃ n, n = m + 1 := ⟨_, rfl⟩
    rw [← hn] at hb hn1 hn0
    have hmn : m < n := by omega
    have hmb : m < 1099511627776 := by omega
    have HB := Lib.hid hb
    have HL := Lib.hid hlen64
    clear hb hx hlx hcx hlen hle hP rP vP cP hl hnb hlen64 hcs hn
    go_enter Tryd.func39, Tryd.ntmps39
    go_wp2_with fail
    refine HB.out.mono ?_; rintro e w' ⟨rfl, rfl⟩
    go_wp2_with fail
    refine (HL.out _).mono ?_; rintro e w' ⟨rfl, rfl⟩
    go_wp2_with fail
    go_ret
    refine ⟨?_, 0, rfl⟩
    congr 2
end Go.Proofs.YtclaiidoomdklaaDoor
set_option linter.unusedVariables false
namespace Go.Proofs.YtclaiidoomdklaaDoor
namespace Pl
open Go Go.Lib

def digB (c : UInt8) : Bool := decide (48 ≤ c.toNat) && decide (c.toNat ≤ 57)
def allDig (l : List UInt8) : Bool := l.all digB
def digitSet : List UInt8 := [48, 49, 50, 51, 52, 53, 54, 55, 56, 57]
theorem digitSet_contains (c : UInt8) : digitSet.contains c = digB c := by
  have h : ∀ n : Fin 256, digitSet.contains (UInt8.ofNat n.val) = digB (UInt8.ofNat n.val) := by decide +kernel
  have := h ⟨c.toNat, by have := c.toBitVec.isLt; simpa using this⟩
  simpa using this
theorem dropWhile_nil {p : UInt8 → Bool} : ∀ {l : List UInt8}, l.dropWhile p = [] ↔ ∀ x ∈ l, p x = true
  | [] => by simp
  | c :: l => by
    rw [List.dropWhile_cons]
    split
    · rename_i h
      rw [dropWhile_nil]
      simp [h]
    · rename_i h
      simp [h]
theorem trim_nil {l cs : List UInt8} : trimS l cs = [] ↔ l.all (cs.contains ·) = true := by
  unfold trimS trimLeftS trimRightS
  constructor
  · intro h
    rw [List.all_eq_true]
    have h1 : ∀ x ∈ (l.reverse.dropWhile (cs.contains ·)).reverse, cs.contains x = true := dropWhile_nil.1 h
    intro x hx
    have h2 : l.reverse.takeWhile (cs.contains ·) ++ l.reverse.dropWhile (cs.contains ·) = l.reverse := List.takeWhile_append_dropWhile
    have h3 : x ∈ l.reverse := List.mem_reverse.2 hx
    rw [← h2, List.mem_append] at h3
    rcases h3 with h3 | h3
    · have h4 := List.all_eq_true.1 (List.all_takeWhile (p := (cs.contains ·)) (l := l.reverse))
      exact h4 x h3
    · exact h1 x (List.mem_reverse.2 h3)
  · intro h
    rw [List.all_eq_true] at h
    have : l.reverse.dropWhile (cs.contains ·) = [] := dropWhile_nil.2 fun x hx => h x (List.mem_reverse.1 hx)
    rw [this]; rfl
theorem trim_digits (l : List UInt8) : trimS l digitSet = [] ↔ allDig l = true := by
  rw [trim_nil]
  unfold allDig
  rw [show (fun x => digitSet.contains x) = digB from funext digitSet_contains]

/-- What digits are worth. -/
def decV (l : List UInt8) : Nat := l.foldl (fun a c => a * 10 + (c.toNat - 48)) 0
theorem decV_nil : decV [] = 0 := rfl
theorem decV_snoc (l : List UInt8) (c : UInt8) : decV (l ++ [c]) = decV l * 10 + (c.toNat - 48) := by
  unfold decV; rw [List.foldl_append]; rfl
theorem decV_take {l : List UInt8} {k : Nat} (h : k < l.length) : decV (l.take (k + 1)) = decV (l.take k) * 10 + (l[k].toNat - 48) := by
  rw [List.take_succ_eq_append_getElem h, decV_snoc]
theorem decV_lt {B : Nat} (hB : 10 ≤ B) (l : List UInt8) (h : allDig l = true) : ∀ k, k ≤ l.length → decV (l.take k) < B ^ k := by
  intro k
  induction k with
  | zero => intro _; simp [decV]
  | succ k ih =>
    intro hk
    have i1 := ih (by omega)
    rw [decV_take (by omega), Nat.pow_succ]
    have hd : l[k].toNat ≤ 57 := by
      have h1 := List.all_eq_true.1 h l[k] (List.getElem_mem _)
      simp only [digB, Bool.and_eq_true, decide_eq_true_eq] at h1
      exact h1.2
    have h2 : (decV (l.take k) + 1) * 10 ≤ B ^ k * B := Nat.mul_le_mul i1 hB
    omega
/-- The error's number. -/
def parseErr (l : List UInt8) : Nat := if l = [] ∨ allDig l = false then 5 else if 200 < l.length then 1 else 0
theorem allDig_get {l : List UInt8} (h : allDig l = true) {k : Nat} (hk : k < l.length) : 48 ≤ l[k].toNat ∧ l[k].toNat ≤ 57 := by
  have h1 := List.all_eq_true.1 h l[k] (List.getElem_mem _)
  simpa [digB] using h1

/-- Digits behind noughts. -/
def padded : Nat → Nat → List UInt8
  | 0, _ => []
  | k + 1, n => padded k (n / 10) ++ [UInt8.ofNat (48 + n % 10)]
theorem padded_length : ∀ k n, (padded k n).length = k
  | 0, _ => rfl
  | k + 1, n => by rw [padded, List.length_append, padded_length]; rfl
theorem decDigits_split : ∀ (k q r : Nat), 0 < q → r < 10 ^ k → decDigits (q * 10 ^ k + r) = decDigits q ++ padded k r
  | 0, q, r, _, hr => by
    obtain rfl : r = 0 := by simpa using hr
    simp [padded]
  | k + 1, q, r, hq, hr => by
    have h10 : 0 < 10 ^ k := Nat.pow_pos (by decide)
    have e : q * 10 ^ (k + 1) + r = (q * 10 ^ k + r / 10) * 10 + r % 10 := by rw [Nat.pow_succ]; have := Nat.div_add_mod r 10; rw [Nat.add_mul, Nat.mul_assoc]; omega
    have hge : 10 ≤ q * 10 ^ (k + 1) + r := by
      have h1 : 1 * 10 ≤ q * 10 ^ (k + 1) := Nat.mul_le_mul hq (by rw [Nat.pow_succ]; omega)
      omega
    have hr2 : r / 10 < 10 ^ k := by rw [Nat.pow_succ] at hr; omega
    rw [decDigits, dif_neg (by omega), padded, e]
    have e1 : ((q * 10 ^ k + r / 10) * 10 + r % 10) / 10 = q * 10 ^ k + r / 10 := by omega
    have e2 : ((q * 10 ^ k + r / 10) * 10 + r % 10) % 10 = r % 10 := by omega
    rw [e1, e2, decDigits_split k q (r / 10) hq hr2, List.append_assoc]
end Pl
end Go.Proofs.YtclaiidoomdklaaDoor
set_option linter.unusedVariables false
namespace Go.Proofs.YtclaiidoomdklaaDoor
namespace Pl
open Go Go.Lib

def P19 : Nat := 10000000000000000000
theorem P19_eq : P19 = 10000000000000000000 := rfl
theorem P19_pow : P19 = 10 ^ 19 := by decide
theorem P19_int : ((P19 : Nat) : Int) = 10000000000000000000 := rfl
theorem P19_pos : 0 < P19 := by decide
theorem P19_lt : P19 < WB := by rw [WB_eq]; decide
attribute [irreducible] P19

theorem decDigits_len_le : ∀ (k n : Nat), 0 < k → n < 10 ^ k → (decDigits n).length ≤ k
  | 0, _, h, _ => absurd h (by decide)
  | 1, n, _, h => by rw [decDigits, dif_pos (by simpa using h)]; simp
  | k + 2, n, _, h => by
    rw [decDigits]
    split
    · simp
    · rw [List.length_append]
      have := decDigits_len_le (k + 1) (n / 10) (by omega) (by rw [Nat.pow_succ] at h; omega)
      simp; omega
theorem padded_zero : ∀ k, padded k 0 = List.replicate k 48
  | 0 => rfl
  | k + 1 => by rw [padded, Nat.zero_div, padded_zero k, List.replicate_succ']; rfl
theorem padded_eq : ∀ (k n : Nat), 0 < k → n < 10 ^ k → padded k n = List.replicate (k - (decDigits n).length) 48 ++ decDigits n
  | 0, _, h, _ => absurd h (by decide)
  | k + 1, n, _, h => by
    rw [padded, decDigits]
    split
    · rename_i h10
      rw [Nat.div_eq_of_lt h10, Nat.mod_eq_of_lt h10, padded_zero]
      simp
    · rename_i h10
      have hk : 0 < k := by
        rcases Nat.eq_zero_or_pos k with rfl | hp
        · simp at h; omega
        · exact hp
      have hlt : n / 10 < 10 ^ k := by rw [Nat.pow_succ] at h; omega
      rw [padded_eq k (n / 10) hk hlt, List.append_assoc, List.length_append]
      congr 2
      simp
theorem repeat_zero : ∀ c, repeatL [48] c = List.replicate c 48
  | 0 => rfl
  | c + 1 => by rw [repeatL, repeat_zero c, List.replicate_succ]; rfl

/-- A number's text. -/
def textN (n : Nat) : List UInt8 := decDigits n
/-- What is known of the pieces (the last ones first) and of what is left. -/
structure Pieces (n m : Nat) (ss : List (List UInt8)) : Prop where
  some : m ≠ 0 → decDigits n = decDigits m ++ ss.reverse.flatten
  none : m = 0 → n ≠ 0 → ss ≠ [] ∧ decDigits n = ss.reverse.flatten
  zero : n = 0 → ss = []
  len : ∀ s ∈ ss, s.length ≤ 20
  mn : n = 0 → m = 0
  big : m * P19 ^ ss.length ≤ n
theorem Pieces.init (n : Nat) : Pieces n n [] := ⟨fun h => by simp, fun h h' => absurd h h', fun _ => rfl, fun s h => absurd h (by simp), id, by simp⟩
theorem Pieces.next {n m : Nat} {ss : List (List UInt8)} (h : Pieces n m ss) (hm : m ≠ 0) (s : List UInt8) (hs : s.length ≤ 20) (hq : m / P19 ≠ 0 → decDigits m = decDigits (m / P19) ++ s) (hz : m / P19 = 0 → decDigits m = s) : Pieces n (m / P19) (ss ++ [s]) := by
  have h1 := h.some hm
  have hn : n ≠ 0 := fun e => hm (h.mn e)
  refine ⟨fun h0 => ?_, fun h0 _ => ⟨by simp, ?_⟩, fun e => absurd e hn, ?_, fun e => absurd e hn, ?_⟩
  · rw [h1, hq h0]; simp
  · rw [h1, hz h0]; simp
  · intro t ht
    rw [List.mem_append, List.mem_singleton] at ht
    rcases ht with ht | rfl
    · exact h.len t ht
    · exact hs
  · rw [List.length_append, List.length_singleton, Nat.pow_succ, Nat.mul_comm (P19 ^ ss.length), ← Nat.mul_assoc]
    exact Nat.le_trans (Nat.mul_le_mul_right _ (Nat.div_mul_le_self _ _)) h.big
theorem rest_lt (m : Nat) : m % P19 < 10 ^ 19 := by have := Nat.mod_lt m P19_pos; rwa [← P19_pow]
theorem rest_word (m : Nat) : m % P19 < WB := Nat.lt_trans (Nat.mod_lt m P19_pos) P19_lt
theorem Pieces.more {n m : Nat} {ss : List (List UInt8)} (h : Pieces n m ss) (hm : m ≠ 0) (hq : m / P19 ≠ 0) : Pieces n (m / P19) (ss ++ [padded 19 (m % P19)]) := by
  refine h.next hm _ (by rw [padded_length]; decide) (fun _ => ?_) (fun e => absurd e hq)
  have e := decDigits_split 19 (m / P19) (m % P19) (Nat.pos_of_ne_zero hq) (rest_lt m)
  rwa [← P19_pow, Nat.mul_comm, Nat.div_add_mod] at e
theorem Pieces.last {n m : Nat} {ss : List (List UInt8)} (h : Pieces n m ss) (hm : m ≠ 0) (hq : m / P19 = 0) : Pieces n (m / P19) (ss ++ [decDigits (m % P19)]) := by
  have e := Nat.div_add_mod m P19
  rw [hq, Nat.mul_zero, Nat.zero_add] at e
  refine h.next hm _ (Nat.le_trans (decDigits_len_le 19 _ (by decide) (rest_lt m)) (by decide)) (fun e' => absurd hq e') (fun _ => by rw [e])
theorem WB_le_sq : WB ≤ P19 ^ 2 := by rw [WB_eq, P19_eq]; decide
theorem Pieces.short {n m la : Nat} {ss : List (List UInt8)} (h : Pieces n m ss) (hm : m ≠ 0) (hn : n < WB ^ la) : ss.length < 2 * la := by
  have h1 : 1 * P19 ^ ss.length ≤ m * P19 ^ ss.length := Nat.mul_le_mul_right _ (by omega)
  have h2 : WB ^ la ≤ (P19 ^ 2) ^ la := Nat.pow_le_pow_left WB_le_sq _
  rw [← Nat.pow_mul] at h2
  have h3 : P19 ^ ss.length < P19 ^ (2 * la) := by have := h.big; omega
  rcases Nat.lt_or_ge ss.length (2 * la) with hlt | hge
  · exact hlt
  · exact absurd (Nat.pow_le_pow_right P19_pos hge) (by omega)
theorem flat_len (ss : List (List UInt8)) (h : ∀ s ∈ ss, s.length ≤ 20) : ss.flatten.length ≤ 20 * ss.length := by
  induction ss with
  | nil => simp
  | cons s ss ih =>
    have h1 := h s (by simp)
    have h2 := ih fun t ht => h t (by simp [ht])
    rw [List.flatten_cons, List.length_append, List.length_cons]; omega
end Pl
end Go.Proofs.YtclaiidoomdklaaDoor
namespace Go.Proofs.YtclaiidoomdklaaDoor
open Go Go.RowKit Go.Proofs Go.Lib Go.Sort
set_option linter.unusedVariables false

/-- The library's table of powers of ten. -/
def Tab (w : World) : Prop := Lib.TabIs Tryd.prog w "internal/strconv.uint64pow10" .u64 Lib.pow10Tab
theorem Tab.keep {w w' : World} (h : Tab w) (hb : Below w.heap.size w w') : Tab w' := Lib.tabBelow_of_tabIs h w' hb

theorem fmt_small (u : Nat) (hu : u < 100) (w : World) :
    Calls Tryd.prog 76 #[.int .u64 (u : Int), .int .i64 10] w fun e w' => e = .returned (.string ⟨(Lib.decDigits u).toArray⟩) ∧ Below w.heap.size w w' := by
  have iu : (u : Int) < 100 := by omega
  go_enter Tryd.func76, Tryd.ntmps76
  go_wp2_with (go_at_call 84; refine (Tryd.internal_strconv_small u hu _).mono ?_; rintro e w' ⟨rfl, rfl⟩)
  go_ret
  exact ⟨rfl, Below.refl _ _⟩

set_option maxRecDepth 100000 in
theorem fmt_big (u : Nat) (hu : 100 ≤ u) (hu64 : u < WB) (w : World) (htab : Tab w) :
    Calls Tryd.prog 76 #[.int .u64 (u : Int), .int .i64 10] w fun e w' => e = .returned (.string ⟨(Lib.decDigits u).toArray⟩) ∧ Below w.heap.size w w' := by
  have hu1 : 1 ≤ u := by omega
  have hu64' : u < 18446744073709551616 := by rw [← WB_eq]; exact hu64
  have hnd20 : Lib.nDigits u ≤ 20 := by have := Lib.numDigits_eq u hu1 hu64'; split at this <;> omega
  have hal : Tryd.prog.arrayLen 119 = 24 := by simp [Program.arrayLen, Tryd.underlying119]
  have hsl : ∀ W, (Instr.sliceAt 119 (.pointer (some ⟨w.heap.size, 0, none⟩)) none (some (.int .i64 (Lib.nDigits u : Int))) none).run Tryd.prog W = .ok (.slice (some ⟨w.heap.size, 0, none⟩) (Lib.nDigits u) 24) W := fun W => by
    rw [run_sliceAt_array_h W 119 ⟨w.heap.size, 0, none⟩ (by simp [Program.arrayLen, Program.elem, Tryd.underlying119]) .i64 (Lib.nDigits u : Int) (by omega) (by rw [hal]; omega)]
    go_simp
  have hH0 := Lib.holds_zero0 w 119 (Lib.nDigits u) (by omega)
  have hfmt := Tryd.internal_strconv_formatBase10 w.heap.size 0 24 u (Array.replicate (Lib.nDigits u) 0) (w.alloc (.cells Lib.zeros24 119)) hH0 (by rw [Array.size_replicate]; exact Lib.lt_pow_nDigits u) hu64' (by rw [Array.size_replicate]; omega)
  rw [Array.size_replicate] at hfmt
  have HH0 := Lib.hid hH0
  have HT := Lib.hid htab
  have HU := Lib.hid (And.intro hu1 hu64')
  have HF := Lib.hid hfmt
  have iu : (100 : Int) ≤ (u : Int) := by omega
  clear hH0 hal hu64 hu64' htab hfmt hu1
  go_enter Tryd.func76, Tryd.ntmps76
  go_wp2_with fail
  refine (Tryd.internal_strconv_numDigits u HU.out.1 HU.out.2 _ (Lib.tabIs_alloc HT.out _)).mono ?_; rintro e w' ⟨rfl, rfl⟩
  go_wp2_with fail
  refine HF.out.mono ?_
  rintro e w' ⟨rfl, k, v', dk, rfl, hF⟩
  have hcv : (convert 31 9 (.slice (some ⟨w.heap.size, 0, none⟩) (Lib.nDigits u) 24)).run Tryd.prog ((putRow (fun (b : UInt8) => Value.int .u8 (b.toNat : Int)) (w.alloc (.cells Lib.zeros24 119)) w.heap.size 0 dk).drewN k) = .ok (.string ⟨(Lib.decDigits u).toArray⟩) ((putRow (fun (b : UInt8) => Value.int .u8 (b.toNat : Int)) (w.alloc (.cells Lib.zeros24 119)) w.heap.size 0 dk).drewN k) := by
    have h := run_convert_bytes_back (P := Tryd.prog) ((putRow (fun (b : UInt8) => Value.int .u8 (b.toNat : Int)) (w.alloc (.cells Lib.zeros24 119)) w.heap.size 0 dk).drewN k) 31 9 5 ⟨w.heap.size, 0, none⟩ 24 (Lib.decDigits u) Tryd.underlying31 Tryd.underlying5 Tryd.underlying9 (fun j hj => by
      rw [Lib.row_is_numeral hF j hj, Lib.add_plain, World.cell?_drewN]
      exact cell?_putRow (fun (b : UInt8) => Value.int .u8 (b.toNat : Int)) _ w.heap.size 0 _ dk HH0.out (by rw [hF.size, Array.size_replicate]) j (by rw [hF.size]; rw [Lib.decDigits_length] at hj; exact hj))
    rw [Lib.decDigits_length] at h
    exact h
  obtain ⟨os, eo⟩ := Lib.fin_at w (.cells Lib.zeros24 119) dk k 0
  have hb := Lib.below_grow w.heap.size w (Nat.le_refl _) k os
  rw [← eo] at hb
  have HB := Lib.hid hb
  clear eo hb
  generalize (putRow (fun (b : UInt8) => Value.int .u8 (b.toNat : Int)) (w.alloc (.cells Lib.zeros24 119)) w.heap.size 0 dk).drewN k = W2 at hcv HB ⊢
  go_wp2_with fail
  go_ret
  exact ⟨rfl, HB.out⟩

theorem formatUint_any (u : Nat) (hu64 : u < WB) (w : World) (htab : Tab w) :
    Calls Tryd.prog 54 #[.int .u64 (u : Int), .int .i64 10] w fun e w' => e = .returned (.string ⟨(Lib.decDigits u).toArray⟩) ∧ Below w.heap.size w w' := by
  have h : Calls Tryd.prog 76 #[.int .u64 (u : Int), .int .i64 10] w fun e w' => e = .returned (.string ⟨(Lib.decDigits u).toArray⟩) ∧ Below w.heap.size w w' := by
    rcases Nat.lt_or_ge u 100 with hlt | hge
    · exact fmt_small u hlt w
    · exact fmt_big u hge hu64 w htab
  have H := Lib.hid h
  clear h htab
  go_enter Tryd.func54, Tryd.ntmps54
  go_wp2_with fail
  refine H.out.mono ?_; rintro e w' ⟨rfl, hb⟩
  go_wp2_with fail
  go_ret
  exact ⟨rfl, hb⟩
end Go.Proofs.YtclaiidoomdklaaDoor
namespace Go.Proofs.YtclaiidoomdklaaDoor
open Go Go.RowKit Go.Proofs Pl
set_option linter.unusedVariables false

def digitBytes : ByteArray := ⟨#[48, 49, 50, 51, 52, 53, 54, 55, 56, 57]⟩
theorem trim_any' (s : ByteArray) (w : World) (hs : s.size ≤ 9223372036854775807) :
    Calls Tryd.prog 38 #[.string s, .string ⟨#[48, 49, 50, 51, 52, 53, 54, 55, 56, 57]⟩] w fun e w' => e = .returned (.string ⟨(Lib.trimS s.data.toList digitSet).toArray⟩) ∧ Below w.heap.size w w' :=
  Any.strings_Trim_laid Tryd.lays160 (by kernel_rfl) s digitBytes w hs (by decide) (ascii_of_all (by decide))
theorem size_toArray (l : List UInt8) : (⟨l.toArray⟩ : ByteArray).size = l.length := by simp [ByteArray.size]

/-- What Parse answers. -/
def ParseSays (w : World) (l : List UInt8) (e : Ending) (w' : World) : Prop :=
  ∃ v, e = .returned (.tuple #[v, .int .i64 (parseErr l : Int)]) ∧ Ow w' w.heap.size v (if parseErr l = 0 then dg WB (decV l) else []) ∧ Below w.heap.size w w'

theorem parse_empty (s : ByteArray) (w : World) (h : s.size = 0) :
    Calls Tryd.prog 22 #[.string s] w fun e w' => ParseSays w s.data.toList e w' := by
  have h1 := isEmpty_true h
  have h2 : parseErr s.data.toList = 5 := by
    have : s.data.toList = [] := List.eq_nil_of_length_eq_zero (by rw [← Lib.size_eq]; exact h)
    rw [this]; rfl
  have H2 := Lib.hid h2
  clear h2 h
  go_enter Tryd.func22, Tryd.ntmps22
  go_wp2_with fail
  go_ret2
  refine ⟨_, by rw [H2.out]; rfl, by rw [H2.out]; exact Ow.nil _ _, Below.refl _ _⟩

theorem parse_bad (s : ByteArray) (w : World) (h : s.size ≠ 0) (hs : s.size ≤ 9223372036854775807) (hd : allDig s.data.toList = false) :
    Calls Tryd.prog 22 #[.string s] w fun e w' => ParseSays w s.data.toList e w' := by
  have h1 := isEmpty_false h
  have h2 : parseErr s.data.toList = 5 := by simp [parseErr, hd]
  have ht := trim_any' s w hs
  have hne : Lib.trimS s.data.toList digitSet ≠ [] := fun e => by rw [trim_digits, hd] at e; cases e
  obtain ⟨t, htt⟩ : ∃ t : ByteArray, t = ⟨(Lib.trimS s.data.toList digitSet).toArray⟩ := ⟨_, rfl⟩
  have h3 : t.size ≠ 0 := by rw [htt, size_toArray]; exact fun e => hne (List.eq_nil_of_length_eq_zero e)
  rw [← htt] at ht
  have h4 := isEmpty_false h3
  have h5 : (!t.toList.isEmpty) = true := by rw [h4]; rfl
  have H2 := Lib.hid h2
  have HT := Lib.hid ht
  clear h2 h hd hne htt h3 ht hs
  go_enter Tryd.func22, Tryd.ntmps22
  go_wp2_with fail
  refine HT.out.mono ?_; rintro e w' ⟨rfl, hb⟩
  have HB := Lib.hid hb
  clear hb
  go_wp2_with fail
  go_ret2
  refine ⟨_, by rw [H2.out]; rfl, by rw [H2.out]; exact Ow.nil _ _, HB.out⟩

theorem parse_long (s : ByteArray) (w : World) (h : 200 < s.size) (hs : s.size ≤ 9223372036854775807) (hd : allDig s.data.toList = true) :
    Calls Tryd.prog 22 #[.string s] w fun e w' => ParseSays w s.data.toList e w' := by
  have h1 := isEmpty_false (s := s) (by omega)
  have hl : 200 < s.data.toList.length := by rw [← Lib.size_eq]; exact h
  have h2 : parseErr s.data.toList = 1 := by
    unfold parseErr
    rw [if_neg (by rw [hd]; rintro (h | h); · rw [h] at hl; simp at hl
                   · cases h), if_pos hl]
  have ht := trim_any' s w hs
  have he : Lib.trimS s.data.toList digitSet = [] := (trim_digits _).2 hd
  rw [he] at ht
  have hlt : (200 : Int) < (s.size : Int) := by omega
  have H2 := Lib.hid h2
  have HT := Lib.hid ht
  clear h2 h hd he hl ht hs
  go_enter Tryd.func22, Tryd.ntmps22
  go_wp2_with fail
  refine HT.out.mono ?_; rintro e w' ⟨rfl, hb⟩
  have HB := Lib.hid hb
  clear hb
  go_wp2_with fail
  go_ret2
  refine ⟨_, by rw [H2.out]; rfl, by rw [H2.out]; exact Ow.nil _ _, HB.out⟩

theorem rd_one (w : World) (x : Nat) (hx : x < WB) : Rd (w.alloc (.cells #[.int .u64 (x : Int)] 42)) (some ⟨w.heap.size, 0, none⟩) [x] := by
  refine ⟨All.cons hx All.nil, .inr ⟨_, _, rfl, fun j y hj => ?_⟩⟩
  have := cells_new w (wis [x]).toArray 42 j _ (by simpa using wis_get hj)
  have e : (⟨w.heap.size, 0, none⟩ : Addr).add j = ⟨w.heap.size, 0 + j, none⟩ := by unfold Addr.add; split <;> simp_all
  rwa [e] at this
theorem rd_at (w : World) (x b : Nat) (hb : b = w.heap.size) (hx : x < WB) : Rd (w.alloc (.cells #[.int .u64 (x : Int)] 42)) (some ⟨b, 0, none⟩) [x] := by rw [hb]; exact rd_one w x hx
theorem Rd.al {w : World} {A : Option Addr} {xs : List Nat} (h : Rd w A xs) (o : Obj) : Rd (w.alloc o) A xs := h.keep ((Below.refl _ _).alloc (Nat.le_refl _) _)
theorem Rd.dr {w : World} {A : Option Addr} {xs : List Nat} (h : Rd w A xs) : Rd w.drew A xs := h
theorem below_two (w : World) (o o' : Obj) : Below w.heap.size w ((w.alloc o).alloc o').drew := (((Below.refl _ _).alloc (Nat.le_refl _) _).alloc (by simp) _).drew
/-- One word beside another, in whichever order they come up. -/
theorem two_words (w : World) (y x : Nat) (hy : y < WB) (hx : x < WB) :
    (Rd (w.alloc (.cells #[.int .u64 (y : Int)] 42)).drew (some ⟨w.heap.size, 0, none⟩) [y] ∧ Below w.heap.size w (w.alloc (.cells #[.int .u64 (y : Int)] 42)).drew) ∧
    (Rd ((w.alloc (.cells #[.int .u64 (y : Int)] 42)).alloc (.cells #[.int .u64 (x : Int)] 42)).drew (some ⟨w.heap.size, 0, none⟩) [y] ∧ Rd ((w.alloc (.cells #[.int .u64 (y : Int)] 42)).alloc (.cells #[.int .u64 (x : Int)] 42)).drew (some ⟨w.heap.size + 1, 0, none⟩) [x] ∧ Below w.heap.size w ((w.alloc (.cells #[.int .u64 (y : Int)] 42)).alloc (.cells #[.int .u64 (x : Int)] 42)).drew) ∧
    (Rd ((w.alloc (.cells #[.int .u64 (x : Int)] 42)).alloc (.cells #[.int .u64 (y : Int)] 42)).drew (some ⟨w.heap.size + 1, 0, none⟩) [y] ∧ Rd ((w.alloc (.cells #[.int .u64 (x : Int)] 42)).alloc (.cells #[.int .u64 (y : Int)] 42)).drew (some ⟨w.heap.size, 0, none⟩) [x] ∧ Below w.heap.size w ((w.alloc (.cells #[.int .u64 (x : Int)] 42)).alloc (.cells #[.int .u64 (y : Int)] 42)).drew) :=
  ⟨⟨(rd_one w y hy).dr, ((Below.refl _ _).alloc (Nat.le_refl _) _).drew⟩, ⟨((rd_one w y hy).al _).dr, (rd_at _ x _ (by simp) hx).dr, below_two w _ _⟩, ⟨(rd_at _ y _ (by simp) hy).dr, ((rd_one w x hx).al _).dr, below_two w _ _⟩⟩
theorem wrap_digit (c : Nat) (h1 : 48 ≤ c) (h2 : c ≤ 57) : IntKind.u8.wrap ((c : Int) - 48) = ((c - 48 : Nat) : Int) := by rw [IntKind.wrap_u8]; omega

set_option maxRecDepth 100000 in
set_option maxHeartbeats 1000000 in
theorem parse_good (s : ByteArray) (w : World) (h0 : s.size ≠ 0) (h : ¬ 200 < s.size) (hd : allDig s.data.toList = true) :
    Calls Tryd.prog 22 #[.string s] w fun e w' => ParseSays w s.data.toList e w' := by
  have h1 := isEmpty_false h0
  have hl : s.data.toList.length = s.size := (Lib.size_eq s).symm
  have h2 : parseErr s.data.toList = 0 := by
    unfold parseErr
    rw [if_neg (by rw [hd]; rintro (h | h); · rw [h] at hl; simp at hl; omega
                   · cases h), if_neg (by omega)]
  have ht := trim_any' s w (by omega)
  have he : Lib.trimS s.data.toList digitSet = [] := (trim_digits _).2 hd
  rw [he] at ht
  have H2 := Lib.hid (And.intro h2 (And.intro hd hl))
  have HT := Lib.hid ht
  have hle : (s.size : Int) ≤ 200 := by omega
  clear h2 hd he hl ht h h0
  go_enter Tryd.func22, Tryd.ntmps22
  go_wp2_with fail
  refine HT.out.mono ?_; rintro e w1 ⟨rfl, hb⟩
  have HB := Lib.hid hb
  clear hb
  go_wp2_with fail
  go_loopw [4, 5] (fun v i wr => ∃ (k la c : Nat) (A : Option Addr), v = .slice A la c ∧ i = .int .i64 (k : Int) ∧ k ≤ s.size ∧ la ≤ c ∧ c ≤ maxLen ∧ Hid ((dg WB (decV (s.data.toList.take k))).length = la ∧ Ow wr w.heap.size (.slice A la c) (dg WB (decV (s.data.toList.take k))) ∧ Below w.heap.size w wr)) (fun _ i _ => s.size - (intOf i).toNat)
  case atStart => exact ⟨0, 0, 0, none, rfl, rfl, by omega, by omega, by decide, ⟨rfl, Ow.nil _ _, HB.out⟩⟩
  case round =>
    obtain ⟨k, la, c, A, rfl, rfl, hk, hlc, hcm, hO⟩ := hrel
    by_cases hlt : k < s.size
    · obtain ⟨D, hD⟩ : ∃ D, D = decV (s.data.toList.take k) := ⟨_, rfl⟩
      have hDn : D * 10 + (s.data.toList[k]'(by rw [H2.out.2.2]; exact hlt)).toNat - 48 < 0 ∨ True := .inr trivial
      obtain ⟨d1, d2⟩ := allDig_get H2.out.2.1 (k := k) (by rw [H2.out.2.2]; exact hlt)
      have hlw : (dg WB D).length ≤ 200 := by
        have h3 := decV_lt (B := WB) (by rw [WB_eq]; decide) s.data.toList H2.out.2.1 k (by rw [H2.out.2.2]; omega)
        rw [← hD] at h3
        have := dg_length_le WB_one h3
        omega
      rw [← hD] at hO
      have hsk : s.data.toList[k]'(by rw [H2.out.2.2]; exact hlt) = s[k] := rfl
      rw [hsk] at d1 d2
      have hwd := wrap_digit _ d1 d2
      obtain ⟨x, hx⟩ : ∃ x, x = s[k].toNat - 48 := ⟨_, rfl⟩
      rw [← hx] at hwd
      have hxW : x < WB := by rw [hx, WB_eq]; omega
      have hxI : (x : Int) < 256 := by omega
      have hM : ∀ (W : World) (b : Nat), Rd W (some ⟨b, 0, none⟩) [10] → Below wr.heap.size wr W → Calls Tryd.prog 15 #[.slice A la c, .slice (some ⟨b, 0, none⟩) 1 1] W fun e w' => ∃ v, e = .returned v ∧ Ow w' W.heap.size v (dg WB (D * 10)) ∧ Below W.heap.size W w' := by
        intro W b hr hbw
        have h5 := mul_any A (some ⟨b, 0, none⟩) c 1 (dg WB D) [10] W (hO.out.2.1.rd.keep hbw) hr (by rw [hO.out.1]; exact hlc) hcm (by simp) (by decide) (by omega) (by simp)
        rw [hO.out.1, val_dg WB_one, show val WB [10] = 10 from by simp [val]] at h5
        exact h5
      have hA : ∀ (W : World) (b : Nat) (v : Value) (B : Nat), Ow W B v (dg WB (D * 10)) → Rd W (some ⟨b, 0, none⟩) [x] → Calls Tryd.prog 30 #[v, .slice (some ⟨b, 0, none⟩) 1 1] W fun e w' => ∃ v, e = .returned v ∧ Ow w' W.heap.size v (dg WB (D * 10 + x)) ∧ Below W.heap.size W w' := by
        intro W b v B ho hr
        obtain ⟨A2, c2, rfl, h6, h7⟩ := ho.slice
        have h8 : (dg WB (D * 10)).length ≤ 201 := by
          have h3 : D < WB ^ 200 := le_of_dg_length WB_one hlw
          refine dg_length_le WB_one ?_
          rw [Nat.pow_succ]
          refine Nat.lt_of_lt_of_le (Nat.mul_lt_mul_of_pos_right h3 (by decide)) (Nat.mul_le_mul_left _ ?_)
          rw [WB_eq]; decide
        have h5 := add_any A2 (some ⟨b, 0, none⟩) c2 1 (dg WB (D * 10)) [x] W ho.rd hr h6 h7 (by simp) (by decide) (by omega) (by simp)
        rw [val_dg WB_one, show val WB [x] = x from by simp [val]] at h5
        exact h5
      have hxW' := hxW
      have hwx := wrap_u64 x hxW
      have HM := Lib.hid hM
      have HA := Lib.hid hA
      have HX := Lib.hid (And.intro hxW (And.intro hx hD))
      clear hM hA hx hD hxW hlw hsk hDn
      have HR := Lib.hid (two_words wr 10 x (by rw [WB_eq]; decide) hxW')
      clear hxW'
      go_upto_region 9 with (fail)
      go_region_with (first
        | (go_at_call 15; refine (HM.out _ _ (by first | exact HR.out.1.1 | exact HR.out.2.1.1 | exact HR.out.2.2.1) (by first | exact HR.out.1.2 | exact HR.out.2.1.2.2 | exact HR.out.2.2.2.2)).mono ?_; rintro e w3 ⟨v3, rfl, hO3, hb3⟩; have H3 := Lib.hid (And.intro hO3 (And.intro hb3 (show Below wr.heap.size wr w3 by first | exact below_trans HR.out.1.2 hb3 | exact below_trans HR.out.2.1.2.2 hb3 | exact below_trans HR.out.2.2.2.2 hb3))); clear hO3 hb3)
        | (go_at_call 30; refine (HA.out _ _ _ _ (by first | exact H3.out.1 | exact H3.out.1.keep ((Below.refl _ _).alloc (Nat.le_refl _) _)) (by first | exact rd_one _ x HX.out.1 | exact HR.out.2.1.2.1.keep H3.out.2.1 | exact HR.out.2.2.2.1.keep H3.out.2.1)).mono ?_; rintro e w4 ⟨v4, rfl, hO4, hb4⟩; have hb5 : Below wr.heap.size wr w4 := (by first | exact below_trans H3.out.2.2 hb4 | exact below_trans (below_trans H3.out.2.2 ((Below.refl _ _).alloc (Nat.le_refl _) _)) hb4); have hO5 : Ow w4 wr.heap.size v4 (dg WB (D * 10 + x)) := (by first | exact hO4.mono H3.out.2.2.size | exact hO4.mono (Nat.le_trans H3.out.2.2.size ((Below.refl w3.heap.size w3).alloc (Nat.le_refl _) _).size)); have H4 := Lib.hid (And.intro hO5 hb5); clear hO4 hb4 hO5 hb5))
      all_goals
        go_wp2_with fail
        obtain ⟨A4, c4, rfl, h6, h7⟩ := H4.out.1.slice
        go_roundw
        case rel =>
          have hv : decV (s.data.toList.take (k + 1)) = D * 10 + x := by
            rw [decV_take (by rw [H2.out.2.2]; exact hlt), ← HX.out.2.2, HX.out.2.1]; rfl
          exact ⟨k + 1, _, c4, A4, rfl, by go_num, by omega, h6, h7, ⟨by rw [hv], by rw [hv]; exact H4.out.1.mono hO.out.2.2.size, below_trans hO.out.2.2 H4.out.2⟩⟩
        case measure => simp [intOf]; omega
    · go_wp2_with fail
      go_ret2
      have hk2 : s.data.toList.take k = s.data.toList := List.take_of_length_le (by rw [H2.out.2.2]; omega)
      have ho := hO.out
      rw [hk2] at ho
      exact ⟨_, by rw [H2.out.1]; rfl, by rw [H2.out.1, if_pos rfl]; exact ho.2.1, ho.2.2⟩

theorem parse_any (s : ByteArray) (w : World) (hs : s.size ≤ 9223372036854775807) :
    Calls Tryd.prog 22 #[.string s] w fun e w' => ParseSays w s.data.toList e w' := by
  by_cases h0 : s.size = 0
  · exact parse_empty s w h0
  · cases hd : allDig s.data.toList with
    | false => exact parse_bad s w h0 hs hd
    | true =>
      by_cases hl : 200 < s.size
      · exact parse_long s w hl hs hd
      · exact parse_good s w h0 hl hd
end Go.Proofs.YtclaiidoomdklaaDoor
