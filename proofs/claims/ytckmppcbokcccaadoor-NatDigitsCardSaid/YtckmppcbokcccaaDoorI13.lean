/-
  The document's numbers: how many binary digits.
-/
import Derived.Test.YtckmppcbokcccaaDoorI12
namespace Go.Proofs.YtckmppcbokcccaaDoor
open Go Go.RowKit Go.Proofs Pl
set_option linter.unusedVariables false

theorem mask1 (x : Nat) (h : x < WB) : bits .and .u64 (x : Int) 1 = ((x % 2 : Nat) : Int) := by
  unfold WB at h
  have e := u64_and_nat x 1 h (by decide)
  have e2 : x &&& 1 = x % 2 := by
    simp
  rw [e2] at e
  exact e
theorem bit_nums (x k : Nat) (hx : x < WB) (hk : k < 64) : ∃ h : Nat, (x : Int) / 2 ^ k = (h : Int) ∧ bits .and .u64 (h : Int) 1 = ((h % 2 : Nat) : Int) ∧ IntKind.u64.wrap (k : Int) = (k : Int) ∧ x % 2 ^ (k + 1) = x % 2 ^ k + 2 ^ k * (h % 2) := by
  refine ⟨x / 2 ^ k, by simp, mask1 _ (Nat.lt_of_le_of_lt (Nat.div_le_self _ _) hx), wrap_u64 _ (by rw [WB_eq]; omega), ?_⟩
  rw [Nat.mod_pow_succ]
theorem bits_hit {V i x k h : Nat} (hV : V < WB ^ i) (e : x % 2 ^ (k + 1) = x % 2 ^ k + 2 ^ k * (h % 2)) (hb : h % 2 = 1) : nb (V + WB ^ i * (x % 2 ^ (k + 1))) = i * 64 + (k + 1) := by
  have hp : 0 < 2 ^ k := Nat.pow_pos (by decide)
  rw [hb, Nat.mul_one] at e
  exact nb_words WB_pow rfl hV (by omega) (k + 1) (Nat.mod_lt _ (Nat.pow_pos (by decide))) (by rw [Nat.add_sub_cancel]; omega) (by omega)

set_option maxRecDepth 100000 in
set_option maxHeartbeats 1000000 in
theorem bits_doc (A : Option Addr) (c : Nat) (xs : List Nat) (w : World) (hx : Rd w A xs) (hl : xs.length ≤ 1048576) :
    Calls Tryd.prog 42 #[.slice A xs.length c] w fun e w' => e = .returned (.int .i64 (nb (val WB xs) : Int)) ∧ w = w' := by
  obtain ⟨n, hn⟩ : ∃ n, n = xs.length := ⟨_, rfl⟩
  rw [← hn] at hl ⊢
  have HX := Lib.hid hx
  have HN := Lib.hid hn
  clear hx hn
  go_enter Tryd.func42, Tryd.ntmps42
  go_wp2_with fail
  go_loop [3, 4] (fun s i => ∃ k t : Nat, i = .int .i64 (k : Int) ∧ k ≤ n ∧ s = .int .i64 (t : Int) ∧ Hid (t = nb (val WB (xs.take k)))) (fun _ i => n - (intOf i).toNat)
  case atStart => exact ⟨0, 0, rfl, Nat.zero_le _, rfl, rfl⟩
  case round =>
    obtain ⟨i, t, rfl, hi, rfl, ht⟩ := hrel
    by_cases hin : i = n
    · subst hin
      have hfin : Hid (t = nb (val WB xs)) := by show _ = _; rw [ht.out, HN.out, List.take_length]
      clear ht
      go_wp2_with fail
      go_ret
      exact ⟨by rw [← hfin.out]; rfl, rfl⟩
    · have hlt : (i : Int) < (n : Int) := by omega
      have hlt2 : i < xs.length := by rw [← HN.out]; omega
      obtain ⟨V, hV⟩ : ∃ V, V = val WB (xs.take i) := ⟨_, rfl⟩
      obtain ⟨x, hx⟩ : ∃ x, x = atD xs i := ⟨_, rfl⟩
      have hVl : V < WB ^ i := by
        have := val_lt (HX.out.1.take i)
        rw [List.length_take, Nat.min_eq_left (Nat.le_of_lt hlt2)] at this
        rw [hV]; exact this
      have hxl : x < WB := by rw [hx]; exact atD_lt HX.out.1 i
      have hnext : val WB (xs.take (i + 1)) = V + WB ^ i * x := by
        rw [take_snoc hlt2, val_snoc, List.length_take, Nat.min_eq_left (Nat.le_of_lt hlt2), ← hV, ← hx]
      obtain ⟨b, o, rfl, hcell⟩ := HX.out.at_ hlt2
      have hm := hcell i _ (atD_some hlt2)
      rw [← hx] at hm
      have T := Lib.hid (show t = nb V by rw [hV]; exact ht.out)
      have Z := Lib.hid (And.intro hVl (And.intro hxl hnext))
      clear hVl hxl hnext hcell hV hx ht hlt2
      go_wp2_with fail
      go_loop [3, 5] (fun s j => ∃ k t : Nat, j = .int .i64 (k : Int) ∧ k ≤ 64 ∧ s = .int .i64 (t : Int) ∧ Hid (t = nb (V + WB ^ i * (x % 2 ^ k)))) (fun _ j => 64 - (intOf j).toNat)
      case atStart => exact ⟨0, t, rfl, by omega, rfl, by show _ = _; rw [T.out, Nat.pow_zero, Nat.mod_one, Nat.mul_zero, Nat.add_zero]⟩
      case round =>
        obtain ⟨k, s, rfl, hk, rfl, hs⟩ := hrel
        by_cases hk64 : k = 64
        · subst hk64
          have hfin : Hid (s = nb (val WB (xs.take (i + 1)))) := by
            show _ = _
            rw [hs.out, Z.out.2.2, ← WB_pow, Nat.mod_eq_of_lt Z.out.2.1]
          clear hs
          go_wp2_with fail
          go_round
          case rel => exact ⟨i + 1, s, by simp, by omega, rfl, hfin⟩
          case measure => simp [intOf]; omega
        · have hk2 : (k : Int) < 64 := by omega
          obtain ⟨h, e1, e2, e3, e4⟩ := bit_nums x k Z.out.2.1 (by omega)
          have E := Lib.hid e4
          clear e4
          by_cases hb : h % 2 = 1
          · have hfin : Hid (i * 64 + (k + 1) = nb (V + WB ^ i * (x % 2 ^ (k + 1)))) := (bits_hit Z.out.1 E.out hb).symm
            rw [hb] at e2
            have e5 : (i : Int) * 64 = ((i * 64 : Nat) : Int) := by omega
            have e6 : ((i * 64 : Nat) : Int) + (k : Int) = ((i * 64 + k : Nat) : Int) := by omega
            obtain ⟨p, hp⟩ : ∃ p, p = i * 64 := ⟨_, rfl⟩
            obtain ⟨q, hq⟩ : ∃ q, q = p + k := ⟨_, rfl⟩
            have hpl : p ≤ 67108864 := by omega
            rw [← hp] at e5 e6
            rw [← hq] at e6
            have P := Lib.hid (show q + 1 = i * 64 + (k + 1) by omega)
            have hql : q ≤ 134217728 := by omega
            clear hs hp hq
            go_wp2_with fail
            go_round
            case rel => exact ⟨k + 1, q + 1, by simp, by omega, by simp, by show _ = _; rw [← hfin.out]; exact P.out⟩
            case measure => simp [intOf]; omega
          · have hb0 : h % 2 = 0 := by omega
            have hfin : Hid (s = nb (V + WB ^ i * (x % 2 ^ (k + 1)))) := by
              show _ = _
              rw [hs.out, E.out, hb0, Nat.mul_zero, Nat.add_zero]
            rw [hb0] at e2
            clear hs
            go_wp2_with fail
            go_round
            case rel => exact ⟨k + 1, s, by simp, by omega, rfl, hfin⟩
            case measure => simp [intOf]; omega
theorem bits_doc_nl {w : World} {a : Value} {xs : List Nat} (ha : Nl w a xs) (hl : xs.length ≤ 1048576) : Calls Tryd.prog 42 #[a] w fun e w' => e = .returned (.int .i64 (nb (val WB xs) : Int)) ∧ w = w' := by
  obtain ⟨A, c, rfl, h, -⟩ := ha
  exact bits_doc A c xs w h hl
end Go.Proofs.YtckmppcbokcccaaDoor
