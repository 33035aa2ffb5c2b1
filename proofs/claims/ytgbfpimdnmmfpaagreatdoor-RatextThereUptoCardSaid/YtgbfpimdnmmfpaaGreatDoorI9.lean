/-
  The document's numbers: a number that is told by words.
-/
import Derived.Test.YtgbfpimdnmmfpaaGreatDoorI8
namespace Go.Proofs.YtgbfpimdnmmfpaaGreatDoor
namespace I
open Go Go.RowKit Go.Proofs Pl
set_option linter.unusedVariables false

theorem sum_lt {B m n p q r : Nat} (hB : 1 < B) (hm : m < B ^ p) (hn : n < B ^ q) (hp : p + 1 ≤ r) (hq : q + 1 ≤ r) : m + n < B ^ r := by
  have h1 : B ^ p ≤ B ^ (r - 1) := Nat.pow_le_pow_right (by omega) (by omega)
  have h2 : B ^ q ≤ B ^ (r - 1) := Nat.pow_le_pow_right (by omega) (by omega)
  have h3 : B ^ (r - 1) * 2 ≤ B ^ (r - 1) * B := Nat.mul_le_mul_left _ hB
  rw [show r = (r - 1) + 1 from by omega, Nat.pow_succ]
  omega
def HB : Nat := 4294967296
theorem HB_eq : HB = 4294967296 := rfl
theorem HB_sq : HB * HB = WB := by rw [HB_eq, WB_eq]
theorem HB_lt : HB < TB ^ 3 := by rw [HB_eq, TB_eq]; decide
theorem WB_le5 : WB ≤ TB ^ 5 := by rw [WB_eq, TB_eq]; decide
attribute [irreducible] HB
theorem words_lt {X k : Nat} (h : X < WB ^ k) : X < TB ^ (5 * k) := by
  rw [Nat.pow_mul]
  exact Nat.lt_of_lt_of_le h (Nat.pow_le_pow_left WB_le5 k)
/-- The halves of a word, as the walk has them. -/
theorem half_nums (x : Nat) (hx : x < WB) : ∃ h l : Nat, h < HB ∧ l < HB ∧ h * HB + l = x ∧ (x : Int) / 4294967296 = (h : Int) ∧ bits .and .u64 (x : Int) 4294967295 = (l : Int) ∧ IntKind.i64.wrap (h : Int) = (h : Int) ∧ IntKind.i64.wrap (l : Int) = (l : Int) ∧ h < 4294967296 ∧ l < 4294967296 := by
  have hm := mask32 x hx
  rw [DB_eq] at hm
  have hx2 := hx
  rw [WB_eq] at hx2
  have h1 : x / 4294967296 < 4294967296 := by omega
  have h2 : x % 4294967296 < 4294967296 := by omega
  exact ⟨x / 4294967296, x % 4294967296, by rw [HB_eq]; exact h1, by rw [HB_eq]; exact h2, by rw [HB_eq]; omega, by omega, hm, wrap_small _ (by omega), wrap_small _ (by omega), h1, h2⟩

set_option maxRecDepth 100000 in
set_option maxHeartbeats 2000000 in
theorem of_any (A : Option Addr) (c0 : Nat) (xs : List Nat) (w : World) (hx : _root_.Go.Proofs.YtgbfpimdnmmfpaaGreatDoor.Rd w A xs) (hl : xs.length ≤ 1048576) :
    Calls Tryz.prog 52 #[.slice A xs.length c0] w fun e w' => ∃ v, e = .returned v ∧ Rs w w' v (val WB xs) := by
  obtain ⟨n, hn⟩ : ∃ n, n = xs.length := ⟨_, rfl⟩
  rw [← hn] at hl ⊢
  have hX := hx
  have HX := Lib.hid hX
  have HN := Lib.hid hn
  clear hx hX hn
  go_enter Tryz.func52, Tryz.ntmps52
  go_wp2_with fail
  have hw1 : Below w.heap.size w (w.alloc (.cells #[] 3)) := below_al _ _
  have he := ow_empty w w.heap.size rfl
  have hsm := small_any HB (w.alloc (.cells #[] 3)) (by rw [HB_eq]; decide)
  rw [HB_eq] at hsm
  refine hsm.mono ?_; rintro e w1 ⟨vh, rfl, h1⟩
  rw [← HB_eq] at h1
  have H1 := Lib.hid (And.intro (he.keep h1.2) (And.intro (below_trans hw1 h1.2) (h1.nm HB_lt)))
  clear hw1 he hsm h1
  go_wp2_with fail
  go_loopw [3, 5] (fun v i wr => ∃ k : Nat, i = .int .i64 ((k : Int) - 1) ∧ k ≤ n ∧ Hid (Ow wr w.heap.size v (dg TB (val WB (xs.drop k))) ∧ Below w1.heap.size w1 wr)) (fun _ i _ => (intOf i + 1).toNat)
  case atStart => exact ⟨n, rfl, Nat.le_refl _, by rw [HN.out, List.drop_length, val_nil, dg_zero]; exact H1.out.1, Below.refl _ _⟩
  case round =>
    obtain ⟨k, rfl, hk, hO⟩ := hrel
    cases k with
    | zero =>
      have hw0 : (((0 : Nat) : Int) - 1) = -1 := by omega
      rw [hw0]
      clear hw0
      go_wp2_with fail
      go_ret
      have h2 := hO.out.1
      rw [List.drop_zero] at h2
      exact ⟨_, rfl, h2, below_trans H1.out.2.1 hO.out.2⟩
    | succ m =>
      have hkm : (((m + 1 : Nat) : Int) - 1) = (m : Int) := by omega
      rw [hkm]
      clear hkm
      obtain ⟨b, o, rfl, hcell⟩ := (HX.out.keep (below_trans H1.out.2.1 hO.out.2)).at_ (j := m) (by rw [← HN.out]; omega)
      have hm0 := hcell m _ (atD_some (by rw [← HN.out]; omega))
      obtain ⟨x, hx⟩ : ∃ x, x = atD xs m := ⟨_, rfl⟩
      have hxW : x < WB := by rw [hx]; exact _root_.Go.Proofs.YtgbfpimdnmmfpaaGreatDoor.atD_lt HX.out.1 m
      rw [← hx] at hm0
      have e1 := drop_val WB xs m (by rw [← HN.out]; omega)
      rw [← hx] at e1
      obtain ⟨X, hXv⟩ : ∃ X, X = val WB (xs.drop (m + 1)) := ⟨_, rfl⟩
      rw [← hXv] at hO e1
      have hXlt : X < WB ^ n := by
        have h2 := val_lt (HX.out.1.drop (m + 1))
        rw [← hXv] at h2
        exact Nat.lt_of_lt_of_le h2 (Nat.pow_le_pow_right WB_pos (by rw [List.length_drop, ← HN.out]; omega))
      have hXT := words_lt hXlt
      obtain ⟨h, l, hh, hl2, hhl, i1, i2, i3, i4, i5, i6⟩ := half_nums x hxW
      have p1 : X * HB < TB ^ (5 * n + 3) := by rw [Nat.pow_add]; exact Nat.mul_lt_mul'' hXT HB_lt
      have p2 : X * HB + h < TB ^ (5 * n + 4) := sum_lt TB_one p1 (Nat.lt_trans hh HB_lt) (by omega) (by omega)
      have p3 : (X * HB + h) * HB < TB ^ (5 * n + 7) := by
        rw [show 5 * n + 7 = (5 * n + 4) + 3 from by omega, Nat.pow_add]; exact Nat.mul_lt_mul'' p2 HB_lt
      have pv : (X * HB + h) * HB + l = val WB (xs.drop m) := by
        rw [e1, Nat.add_mul, Nat.mul_assoc, HB_sq, Nat.mul_comm X WB, Nat.add_assoc, hhl]; omega
      have hM1 : ∀ W : World, Below wr.heap.size wr W → Calls Tryz.prog 70 #[_, vh] W fun e w' => ∃ v, e = .returned v ∧ Rs W w' v (X * HB) := fun W hb =>
        mul_nm (show Nm W (5 * n) _ X from ⟨_, (hO.out.1.keep hb).nl, dg_length_le TB_one hXT, val_dg TB_one _⟩) (H1.out.2.2.keep (below_trans hO.out.2 hb)) (by omega) (by decide)
      have hS1 : ∀ W : World, Calls Tryz.prog 71 #[.int .i64 (h : Int)] W fun e w' => ∃ v, e = .returned v ∧ Rs W w' v h := fun W => small_any h W (by omega)
      have hS2 : ∀ W : World, Calls Tryz.prog 71 #[.int .i64 (l : Int)] W fun e w' => ∃ v, e = .returned v ∧ Rs W w' v l := fun W => small_any l W (by omega)
      have M1 := Lib.hid hM1
      have S1 := Lib.hid hS1
      have S2 := Lib.hid hS2
      have P := Lib.hid (And.intro p1 (And.intro p2 (And.intro p3 (And.intro pv (And.intro (Nat.lt_trans hh HB_lt) (Nat.lt_trans hl2 HB_lt))))))
      have i7 : (0 : Int) ≤ (m : Int) := by omega
      have i8 : (m : Int) < (n : Int) := by omega
      clear hcell hx hxW e1 hXv hXlt hXT hh hl2 hhl p1 p2 p3 pv hM1 hS1 hS2
      go_upto_region 6 with (fail)
      go_region_held3 (fun w' => w'.cell? ⟨b, o + m, none⟩ = some (.int .u64 (x : Int))) (first | exact hm0 | exact hm3 | exact hm4 | exact hm5)
        (first
          | (go_at_call 70; refine (M1.out _ (by exact below_dr _ 1)).mono ?_; rintro e w3 ⟨v3, rfl, h3⟩; have hm3 : w3.cell? ⟨b, o + m, none⟩ = some (.int .u64 (x : Int)) := ((below_trans (below_dr wr 1) h3.2).cell (p := ⟨b, o + m, none⟩) (cell_lt hm0)).trans hm0; have H3 := Lib.hid h3; clear h3)
          | (go_at_call 71; refine (S1.out _).mono ?_; rintro e w4 ⟨v4, rfl, h4⟩; have hm4 : w4.cell? ⟨b, o + m, none⟩ = some (.int .u64 (x : Int)) := (h4.2.cell (p := ⟨b, o + m, none⟩) (cell_lt hm3)).trans hm3; have H4 := Lib.hid h4; clear h4)
          | (go_at_call 67; refine (add_nm (L1 := 5 * n + 3) (L2 := 3) ((H3.out.nm P.out.1).keep H4.out.2) (H4.out.nm P.out.2.2.2.2.1) (by omega) (by decide)).mono ?_; rintro e w5 ⟨v5, rfl, h5⟩; have hm5 : w5.cell? ⟨b, o + m, none⟩ = some (.int .u64 (x : Int)) := (h5.2.cell (p := ⟨b, o + m, none⟩) (cell_lt hm4)).trans hm4; have H5 := Lib.hid h5; clear h5))
      have hb5 : Below wr.heap.size wr w5 := below_trans (below_trans (below_trans (below_dr wr 1) H3.out.2) H4.out.2) H5.out.2
      have hM2 : ∀ W : World, Below w5.heap.size w5 W → Calls Tryz.prog 70 #[v5, vh] W fun e w' => ∃ v, e = .returned v ∧ Rs W w' v ((X * HB + h) * HB) := fun W hb =>
        mul_nm ((H5.out.nm P.out.2.1).keep hb) (H1.out.2.2.keep (below_trans (below_trans hO.out.2 hb5) hb)) (by omega) (by decide)
      have M2 := Lib.hid hM2
      have B5 := Lib.hid (below_trans hO.out.2 hb5)
      clear hM2 hb5
      go_upto_region 7 with (fail)
      go_region_held3 (fun w' => w'.cell? ⟨b, o + m, none⟩ = some (.int .u64 (x : Int))) (first | exact hm5 | exact hm6 | exact hm7 | exact hm8)
        (first
          | (go_at_call 70; refine (M2.out _ (by exact below_dr _ 1)).mono ?_; rintro e w6 ⟨v6, rfl, h6⟩; have hm6 : w6.cell? ⟨b, o + m, none⟩ = some (.int .u64 (x : Int)) := ((below_trans (below_dr w5 1) h6.2).cell (p := ⟨b, o + m, none⟩) (cell_lt hm5)).trans hm5; have H6 := Lib.hid h6; clear h6)
          | (go_at_call 71; refine (S2.out _).mono ?_; rintro e w7 ⟨v7, rfl, h7⟩; have hm7 : w7.cell? ⟨b, o + m, none⟩ = some (.int .u64 (x : Int)) := (h7.2.cell (p := ⟨b, o + m, none⟩) (cell_lt hm6)).trans hm6; have H7 := Lib.hid h7; clear h7)
          | (go_at_call 67; refine (add_nm (L1 := 5 * n + 7) (L2 := 3) ((H6.out.nm P.out.2.2.1).keep H7.out.2) (H7.out.nm P.out.2.2.2.2.2) (by omega) (by decide)).mono ?_; rintro e w8 ⟨v8, rfl, h8⟩; have hm8 : w8.cell? ⟨b, o + m, none⟩ = some (.int .u64 (x : Int)) := (h8.2.cell (p := ⟨b, o + m, none⟩) (cell_lt hm7)).trans hm7; have H8 := Lib.hid h8; clear h8))
      have hb8 : Below w1.heap.size w1 w8 := below_trans (below_trans (below_trans (below_trans B5.out (below_dr w5 1)) H6.out.2) H7.out.2) H8.out.2
      have h8 := H8.out.1
      rw [P.out.2.2.2.1] at h8
      have K := Lib.hid (And.intro (h8.mono (Nat.le_trans H1.out.2.1.size (below_trans (below_trans (below_trans B5.out (below_dr w5 1)) H6.out.2) H7.out.2).size)) hb8)
      clear h8 hb8
      go_wp2_with fail
      go_roundw
      case rel => exact ⟨m, rfl, by omega, K.out⟩
      case measure => simp [intOf]
theorem of_nl {w : World} {a : Value} {xs : List Nat} (ha : _root_.Go.Proofs.YtgbfpimdnmmfpaaGreatDoor.Nl w a xs) (hl : xs.length ≤ 1048576) : Calls Tryz.prog 52 #[a] w fun e w' => ∃ v, e = .returned v ∧ Rs w w' v (val WB xs) := by
  obtain ⟨A, c, rfl, a1, a2, a3, a4⟩ := ha
  exact of_any A c xs w a1 hl
end I
end Go.Proofs.YtgbfpimdnmmfpaaGreatDoor
