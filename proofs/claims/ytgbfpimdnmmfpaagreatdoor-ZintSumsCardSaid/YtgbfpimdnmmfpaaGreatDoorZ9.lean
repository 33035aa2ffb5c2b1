/-
  What a region that makes variables keeps; numbers that are new, each between two sizes of the heap.
-/
import Derived.Test.YtgbfpimdnmmfpaaGreatDoorZL4
import Derived.Deep.DeepCutAuto
namespace Go.Proofs.YtgbfpimdnmmfpaaGreatDoor
open Go Go.RowKit Go.Proofs Pl
set_option linter.unusedVariables false

/-- What lay in w stands in W. -/
def Since (w W : World) : Prop := Below w.heap.size w W
/-- v's words are a row of its own, in a block from lo on. -/
def Om (W : World) (lo : Nat) (v : Value) : Prop := ∃ p s xs, v = .agg #[.bool p, s] ∧ Ow W lo s xs
/-- Words of a block from lo on were written over. -/
def Hit3 (w w' : World) (lo : Nat) : Prop := Below lo w w' ∧ (∀ (t : TypeId) (g : Nat) (a b : Value), t ≠ 84 → Bx t w g a b → Bx t w' g a b) ∧ ∀ (B : Nat) (u : Value), Om w B u → Om w' B u
section
variable {w W W' : World} {t : TypeId} {g n lo lo' : Nat} {a b x y v : Value} {z : Int}
theorem Since.refl (w : World) : Since w w := Below.refl _ _
theorem Since.out (h : Since w W) : Below w.heap.size w W := h
theorem Since.keep (h : Since w W) (hb : Below W.heap.size W W') : Since w W' := below_trans h hb
theorem Since.put (h : Since w W) (X : Bx t W g a b) (hg : w.heap.size ≤ g) (x y : Value) : Since w ((W.setCell ⟨g, 0, none⟩ x).setCell ⟨g, 1, none⟩ y) := X.below h hg (Nat.le_refl _) x y
theorem Since.hit (h : Since w W) (H : Hit3 W W' lo) (hl : w.heap.size ≤ lo) : Since w W' := by
  have h1 : Below w.heap.size W W' := ⟨H.1.os, H.1.tape, H.1.output, H.1.size, fun k hk => H.1.block k (by omega)⟩
  exact ⟨h1.os.trans h.os, h1.tape.trans h.tape, h1.output.trans h.output, Nat.le_trans h.size h1.size, fun k hk => (h1.block k hk).trans (h.block k hk)⟩
theorem Om.keep (h : Om W lo v) (hb : Below W.heap.size W W') : Om W' lo v := by
  obtain ⟨p, s, xs, h1, h2⟩ := h
  exact ⟨p, s, xs, h1, h2.keep hb⟩
theorem Om.put (h : Om W lo v) (X : Bx t W g a b) (ht : t ≠ 84) (x y : Value) : Om ((W.setCell ⟨g, 0, none⟩ x).setCell ⟨g, 1, none⟩ y) lo v := by
  obtain ⟨p, s, xs, h1, h2⟩ := h
  exact ⟨p, s, xs, h1, ⟨h2.1, own_keepT h2.2 (X.keepT ht x y)⟩⟩
theorem Zs.om (h : Zs w W v z) (hl : lo ≤ w.heap.size) : Om W lo v := by
  obtain ⟨s, h1, h2⟩ := h
  exact ⟨_, s, _, h1, h2.1.mono hl⟩
theorem Om.hit (h : Om W lo' v) (H : Hit3 W W' lo) : Om W' lo' v := H.2.2 _ _ h
theorem Bx.hit (X : Bx t W g a b) (H : Hit3 W W' lo) (ht : t ≠ 84) : Bx t W' g a b := H.2.1 t g a b ht X
theorem Tab.since (h : Tab w) (hs : Since w W) : Tab W := h.keep hs
end
theorem cell_al {W : World} {p : Addr} {v : Value} (o : Obj) (h : W.cell? p = some v) : (W.alloc o).cell? p = some v := by
  rw [World.cell?_alloc_lt _ _ _ (World.block_lt_of_cell? W p h)]; exact h
theorem cell_st {W : World} {b o : Nat} {v x y : Value} (g : Nat) (h : W.cell? ⟨b, o, none⟩ = some v) (hne : b ≠ g) : ((W.setCell ⟨g, 0, none⟩ x).setCell ⟨g, 1, none⟩ y).cell? ⟨b, o, none⟩ = some v := by
  have e : ((W.setCell ⟨g, 0, none⟩ x).setCell ⟨g, 1, none⟩ y).heap[b]? = W.heap[b]? :=
    (Below.heap_setCell _ _ _ _ (by exact hne)).trans (Below.heap_setCell _ _ _ _ (by exact hne))
  exact (World.cell?_of_block (w := W) (a := ⟨b, o, none⟩) e).trans h
theorem zed_word : (33 : TypeId) ≠ 84 := by decide
/-- A block of words is no struct's variable. -/
theorem own_not_box {w : World} {B : Nat} {s : Value} {xs : List Nat} (h : Ow w B s xs) {t : TypeId} {g : Nat} {a b : Value} (ht : t ≠ 84) (X : Bx t w g a b) : s.ownBlock ≠ some g := by
  intro e
  obtain ⟨h1, h2⟩ := h.2
  rcases h2 with ⟨rfl, -⟩ | ⟨g', cap, cur, rfl, hB', hh, r⟩
  · cases e
  · have e' : g' = g := by simpa [Value.ownBlock] using e
    subst e'
    have X' : w.heap[g']? = _ := X
    rw [X'] at hh
    injection hh with hh
    injection hh with _ hh2
    exact ht hh2
/-- A word written anywhere leaves an owned row an owned row. -/
theorem ow_setCell {w : World} {B g k x : Nat} {u : Value} {ys : List Nat} (h : Ow w B u ys) (hx : x < WB) : ∃ zs, Ow (w.setCell ⟨g, k, none⟩ (.int .u64 (x : Int))) B u zs := by
  by_cases hb : u.ownBlock = some g
  · obtain ⟨A, c, rfl, h1, h2⟩ := h.slice
    cases A with
    | none => simp [Value.ownBlock] at hb
    | some ad =>
      obtain ⟨b, o, sp⟩ := ad
      rcases h.2.2 with ⟨hv, h0⟩ | ⟨g', cap, cur, hv, _⟩
      · cases hv
      · injection hv with hv hn hc
        injection hv with hv
        injection hv with hv1 hv2 hv3
        subst hv1; subst hv2; subst hv3
        have hgg : b = g := by simpa [Value.ownBlock] using hb
        subst hgg
        exact ⟨_, h.set_ rfl hx⟩
  · refine ⟨ys, h.1, h.2.kept (Lib.grownBy_setCell w g k _) (.inr ?_)⟩
    exact hb
set_option maxRecDepth 100000 in
theorem spoil_more {B : Nat} {p : Bool} {v : Value} {xs : List Nat} {w : World} (hO : Ow w B v xs) :
    Calls Tryz.prog 21 #[.agg #[.bool p, v]] w fun e w' => e = .returned (.tuple #[]) ∧ w.grownBy w' v.ownBlock ∧ ∀ (B0 : Nat) (u : Value) (ys : List Nat), Ow w B0 u ys → ∃ zs, Ow w' B0 u zs := by
  obtain ⟨A, c, rfl, h1, h2⟩ := hO.slice
  obtain ⟨n, hn⟩ : ∃ n, n = xs.length := ⟨_, rfl⟩
  have hO' := hO
  rw [← hn] at hO' h1 ⊢
  have hnm : n ≤ 9223372036854775807 := by unfold maxLen at h2; omega
  have hlo : ∀ k, (Value.slice A n c).ownBlock = some k → k < w.heap.size := fun k hk => (hO'.lt k hk).2
  have HO := Lib.hid hO'
  have HN := Lib.hid hn
  have HL := Lib.hid hlo
  clear hO hO' hn h1 h2 hlo
  go_enter Tryz.func21, Tryz.ntmps21
  go_wp2_with fail
  go_loopw [6] (fun i wr => ∃ k : Nat, i = .int .i64 (k : Int) ∧ k ≤ n ∧ Hid ((∃ ys : List Nat, ys.length = n ∧ Ow wr B (.slice A n c) ys) ∧ w.grownBy wr (Value.slice A n c).ownBlock ∧ Bx 24 wr w.heap.size (.bool p) (.slice A n c) ∧ ∀ (B0 : Nat) (u : Value) (ys : List Nat), Ow w B0 u ys → ∃ zs, Ow wr B0 u zs)) (fun i _ => n - (intOf i).toNat)
  case atStart => exact ⟨0, rfl, by omega, ⟨xs, HN.out.symm, HO.out.keep (below_al w _)⟩, World.grownBy_alloc w _ _, Bx.new _ w _ _, fun B0 u ys h => ⟨ys, h.keep (below_al w _)⟩⟩
  case round =>
    obtain ⟨k, rfl, hk, hS⟩ := hrel
    by_cases hlt : k < n
    · obtain ⟨⟨ys, hy, hOy⟩, hg, hX, hm⟩ := hS.out
      obtain ⟨c0, c1, -, -⟩ := hX.facts
      obtain ⟨g, rfl, -, -, hgs, -, -, hcs, hfr⟩ := hOy.at_ (j := k) (by omega)
      have hmc := hcs k _ (atD_some (by omega))
      have hf := hfr k
      have h4 := hOy.set_ hy.symm (j := k) (x := 238) (by rw [WB_eq]; decide)
      have h5 : (Value.slice (some ⟨g, 0, none⟩) n c).ownBlock = some g := rfl
      have h7 := HL.out g h5
      rw [h5] at hg
      have h6 := grown_set hg k (.int .u64 238)
      have h8 := hX.other (p := ⟨g, k, none⟩) (by show g ≠ _; omega) (.int .u64 238)
      have h9 : ∀ (B0 : Nat) (u : Value) (ys : List Nat), Ow w B0 u ys → ∃ zs, Ow (wr.setCell ⟨g, k, none⟩ (.int .u64 238)) B0 u zs := fun B0 u ys hu => by
        obtain ⟨zs, hz⟩ := hm B0 u ys hu
        exact ow_setCell (x := 238) hz (by rw [WB_eq]; decide)
      have K := Lib.hid (And.intro h4 (And.intro h6 (And.intro hy (And.intro h5 (And.intro h8 h9)))))
      clear hOy hg hcs hfr h4 h6 hy h5 hS hgs hX h7 h8 HL h9 hm
      go_wp2_with fail
      go_roundw
      case rel => exact ⟨k + 1, by go_num, by omega, ⟨_, by rw [List.length_set]; exact K.out.2.2.1, K.out.1⟩, by rw [K.out.2.2.2.1]; exact K.out.2.1, K.out.2.2.2.2.1, K.out.2.2.2.2.2⟩
      case measure => simp [intOf]; omega
    · obtain ⟨c0, c1, -, -⟩ := hS.out.2.2.1.facts
      go_wp2_with fail
      go_end0
      exact ⟨rfl, hS.out.2.1, hS.out.2.2.2⟩
/-- A number that is new, written over. -/
theorem spoil_om {W : World} {lo : Nat} {v : Value} (h : Om W lo v) (hl : lo ≤ W.heap.size) :
    Calls Tryz.prog 21 #[v] W fun e w' => e = .returned (.tuple #[]) ∧ Hit3 W w' lo := by
  obtain ⟨p, s, xs, rfl, hs⟩ := h
  refine (spoil_more hs).mono ?_
  rintro e w' ⟨he, hg, hm⟩
  refine ⟨he, (Below.refl _ _).grown hg hl (fun k hk => (hs.lt k hk).1), fun t g a b ht X => (hg.block g X.lt (fun e => own_not_box hs ht X e.symm)).trans X, ?_⟩
  rintro B u ⟨p', s', xs', rfl, h'⟩
  obtain ⟨zs, hz⟩ := hm B s' xs' h'
  exact ⟨p', s', zs, rfl, hz⟩
end Go.Proofs.YtgbfpimdnmmfpaaGreatDoor
