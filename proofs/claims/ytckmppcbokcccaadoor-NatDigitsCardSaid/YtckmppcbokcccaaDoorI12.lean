/-
  The document's numbers: powers of two.
-/
import Derived.Test.YtckmppcbokcccaaDoorI11
namespace Go.Proofs.YtckmppcbokcccaaDoor
namespace I
open Go Go.RowKit Go.Proofs Pl
set_option linter.unusedVariables false

theorem lit_own (w : World) {x : Nat} (hx : x < TB) : Ow (w.alloc (.cells #[.int .i64 (x : Int)] 3)) w.heap.size (.slice (some ⟨w.heap.size, 0, none⟩) 1 1) [x] := by
  refine ⟨fun y hy => by rw [List.mem_singleton] at hy; subst hy; exact hx, rfl, .inr ⟨w.heap.size, 1, #[.int .i64 (x : Int)], rfl, Nat.le_refl _, heap_alloc_new _ _, Nat.le_refl _, by decide, rfl, rfl⟩⟩
theorem lit_dn (w : World) {x L : Nat} (hx : x < TB) (h0 : x ≠ 0) (hL : 1 ≤ L) : Dn (w.alloc (.cells #[.int .i64 (x : Int)] 3)) L (.slice (some ⟨w.heap.size, 0, none⟩) 1 1) x := by
  have h := lit_own w hx
  have e : dg TB x = [x] := by
    have h2 := dg_val TB_one h.1 (show Canon [x] by have := canon_snoc (ys := []) h0; exact this)
    simpa [val] using h2
  refine ⟨by rw [e]; exact h.nl, Nat.lt_of_lt_of_le hx ?_⟩
  have := Nat.pow_le_pow_right TB_pos hL
  rwa [Nat.pow_one] at this
theorem two_lt (e L : Nat) (h : e ≤ L) : 2 ^ e < TB ^ (L + 1) := by
  have h1 : 2 ^ e < 2 ^ (L + 1) := Nat.pow_lt_pow_right (by decide) (by omega)
  exact Nat.lt_of_lt_of_le h1 (Nat.pow_le_pow_left (show 2 ≤ TB from TB_one) _)
theorem Dn.two {w : World} {L L' e m : Nat} {v : Value} (h : Dn w L v m) (hm : m = 2 ^ e) (he : e ≤ L') : Dn w (L' + 1) v (2 ^ e) := ⟨by rw [← hm]; exact h.1, two_lt e L' he⟩
def PowRel (n : Nat) (w wr : World) (k : Nat) (o b : Value) : Prop :=
  ∃ e f : Nat, Dn wr (2 * n + 2) o (2 ^ f) ∧ Dn wr (2 * n + 2) b (2 ^ e) ∧ 1 ≤ e ∧ e ≤ 2 * n + 1 ∧ f + e * k = n ∧ Below w.heap.size w wr
theorem pow_nums {n e f k : Nat} (h1 : 1 ≤ e) (h : f + e * k = n) (hk : k ≠ 0) :
    e ≤ n ∧ f ≤ n ∧ (k % 2 = 0 → f + (e + e) * (k / 2) = n) ∧ (k % 2 = 1 → (f + e) + (e + e) * (k / 2) = n ∧ f + e ≤ n) := by
  have h3 : e * 1 ≤ e * k := Nat.mul_le_mul_left _ (by omega)
  have h4 := Nat.div_add_mod k 2
  have h5 : e * k = e * (2 * (k / 2)) + e * (k % 2) := by rw [← Nat.mul_add, h4]
  have h6 : (e + e) * (k / 2) = e * (2 * (k / 2)) := by rw [← Nat.mul_assoc]; congr 1; omega
  refine ⟨by omega, by omega, fun h7 => ?_, fun h7 => ?_⟩
  · rw [h7, Nat.mul_zero] at h5; omega
  · rw [h7, Nat.mul_one] at h5; omega

set_option maxRecDepth 100000 in
set_option maxHeartbeats 1000000 in
theorem power_any (n : Nat) (w : World) (hn : n ≤ 65536) :
    Calls Tryd.prog 43 #[.int .i64 (n : Int)] w fun e w' => ∃ v, e = .returned v ∧ Dn w' (2 * n + 2) v (2 ^ n) ∧ Below w.heap.size w w' := by
  go_enter Tryd.func43, Tryd.ntmps43
  go_wp2_with fail
  go_loopg [0, 3, 4] n (fun k i o b wr => i = .int .i64 (k : Int) ∧ k ≤ 65536 ∧ Hid (PowRel n w wr k o b))
  case atStart =>
    refine ⟨rfl, hn, 1, 0, ?_, ?_, Nat.le_refl _, by omega, by omega, ?_⟩
    · exact (lit_dn w (x := 1) (L := 2 * n + 2) (by rw [TB_eq]; decide) (by decide) (by omega)).keep ((below_al _ _))
    · have h := lit_dn (w.alloc (.cells #[.int .i64 1] 3)) (x := 2) (L := 2 * n + 2) (by rw [TB_eq]; decide) (by decide) (by omega)
      simpa using h
    · exact (below_al w _).alloc (below_al w _).size _
  case round =>
    obtain ⟨rfl, hk, hR⟩ := hrel
    by_cases h0 : gk = 0
    · subst h0
      go_wp2_with fail
      go_ret
      obtain ⟨e, f, h1, h2, h3, h4, h5, h6⟩ := hR.out
      refine ⟨_, rfl, ?_, h6⟩
      have : f = n := by omega
      rw [this] at h1
      exact h1
    · obtain ⟨e, f, h1, h2, h3, h4, h5, h6⟩ := hR.out
      obtain ⟨g1, g2, g3, g4⟩ := pow_nums h3 h5 h0
      have hpos : (0 : Int) < (gk : Int) := by omega
      have e1 : (gk : Int) / 2 = ((gk / 2 : Nat) : Int) := rfl
      obtain ⟨q, hq⟩ : ∃ q, q = gk / 2 := ⟨_, rfl⟩
      rw [← hq] at e1 g3 g4
      have hq2 : q < gk := by omega
      have X := Lib.hid (And.intro h1 (And.intro h2 (And.intro (And.intro h3 (And.intro h4 h5)) (And.intro h6 (And.intro (And.intro g1 g2) (And.intro g3 (And.intro g4 hq2)))))))
      clear h1 h2 h3 h4 h5 h6 g1 g2 g3 g4 hq hR
      by_cases hodd : gk % 2 = 1
      · have e2 : (gk : Int) % 2 = 1 := by omega
        go_wp2_with fail
        refine (mul_dn X.out.1 X.out.2.1 (by omega) (by omega)).mono ?_; rintro e' w1 ⟨v1, rfl, k1, b1⟩
        have K1 := Lib.hid (And.intro (k1.two (e := f + e) (L' := 2 * n + 1) (by rw [Nat.pow_add]) (by have := X.out.2.2.2.2.1; omega)) (And.intro (X.out.2.1.keep b1) (below_trans X.out.2.2.2.1 b1)))
        clear k1 b1
        go_wp2_with fail
        refine (mul_dn K1.out.2.1 K1.out.2.1 (by omega) (by omega)).mono ?_; rintro e' w2 ⟨v2, rfl, k2, b2⟩
        have K2 := Lib.hid (And.intro (k2.two (e := e + e) (L' := 2 * n + 1) (by rw [Nat.pow_add]) (by have := X.out.2.2.2.2.1; omega)) (And.intro (K1.out.1.keep b2) (below_trans K1.out.2.2 b2)))
        clear k2 b2
        go_wp2_with fail
        go_roundg q
        case measure => exact X.out.2.2.2.2.2.2.2
        case rel =>
          refine ⟨rfl, by have := X.out.2.2.2.2.2.2.2; omega, e + e, f + e, K2.out.2.1, K2.out.1, by have := X.out.2.2.1.1; omega, by have := X.out.2.2.2.2.1; omega, (X.out.2.2.2.2.2.2.1 hodd).1, K2.out.2.2⟩
      · have e2 : (gk : Int) % 2 = 0 := by omega
        go_wp2_with fail
        refine (mul_dn X.out.2.1 X.out.2.1 (by omega) (by omega)).mono ?_; rintro e' w2 ⟨v2, rfl, k2, b2⟩
        have K2 := Lib.hid (And.intro (k2.two (e := e + e) (L' := 2 * n + 1) (by rw [Nat.pow_add]) (by have := X.out.2.2.2.2.1; omega)) (And.intro (X.out.1.keep b2) (below_trans X.out.2.2.2.1 b2)))
        clear k2 b2
        go_wp2_with fail
        go_roundg q
        case measure => exact X.out.2.2.2.2.2.2.2
        case rel =>
          refine ⟨rfl, by have := X.out.2.2.2.2.2.2.2; omega, e + e, f, K2.out.2.1, K2.out.1, by have := X.out.2.2.1.1; omega, by have := X.out.2.2.2.2.1; omega, X.out.2.2.2.2.2.1 (by omega), K2.out.2.2⟩
end I
end Go.Proofs.YtckmppcbokcccaaDoor
