/-
  zint: Text, Parse.
-/
import Derived.Test.YtclaiidoomdklaaDoorP8
import Derived.Test.YtclaiidoomdklaaDoorZ2
import Derived.Lib.Strings
namespace Go.Proofs.YtclaiidoomdklaaDoor
open Go Go.RowKit Go.Proofs Pl
set_option linter.unusedVariables false

/-- A return whose first result lies in a struct's variable, just written. -/
theorem ret_bxv {P : Program} {fn : Func} {R : Ending → World → Prop} {act : Act} {t : TypeId} {w : World} {g : Nat} {a b x y V : Value} (X : Bx t w g a b)
    (hr : ∀ W : World, W.cell? ⟨g, 0, none⟩ = some x → W.cell? ⟨g, 1, none⟩ = some y → (results fn act.tmps).run P W = .ok V W) (hd : act.defers = [])
    (hR : R (.returned V) ((w.setCell ⟨g, 0, none⟩ x).setCell ⟨g, 1, none⟩ y)) : bodyPost P fn R .ret act ((w.setCell ⟨g, 0, none⟩ x).setCell ⟨g, 1, none⟩ y) :=
  bodyPost_ret (hr _ (X.set x y).facts.1 (X.set x y).facts.2.1) hd hR
/-- The digits of a whole number, with its sign. -/
def textZ (z : Int) : ByteArray := if z < 0 then ByteArray.mk #[45] ++ ⟨(Lib.decDigits z.natAbs).toArray⟩ else ⟨(Lib.decDigits z.natAbs).toArray⟩
set_option maxRecDepth 100000 in
theorem text_z {w : World} {L : Nat} {a : Value} {z : Int} (ht : Tab w) (ha : Zn w L a z) (hL : L ≤ 1073741824) :
    Calls Tryd.prog 33 #[a] w fun e w' => e = .returned (.string (textZ z)) ∧ Below w.heap.size w w' := by
  have hsg := fun W (hb : Below w.heap.size w W) => sign_z (ha.keep hb) (by omega)
  obtain ⟨p, s, n, rfl, hs, ez⟩ := ha
  have hn : z.natAbs = n := by rw [ez, sg_abs]
  have htx := fun W (hb : Below w.heap.size w W) => text_nm (hs.keep hb) hL (ht.keep hb)
  obtain ⟨d, hd⟩ : ∃ d : ByteArray, (⟨(Lib.decDigits n).toArray⟩ : ByteArray) = d := ⟨_, rfl⟩
  simp only [hd] at htx
  have hsz : d.size ≤ 21474836480 := by
    rw [← hd, size_toArray]
    rcases Nat.eq_zero_or_pos L with h0 | h0
    · have : n < WB ^ 1 := by have := hs.lt; rw [h0, Nat.pow_zero] at this; rw [Nat.pow_one, WB_eq]; omega
      have := dec_short' (by decide) this; omega
    · have := dec_short' h0 hs.lt; omega
  have et : textZ z = if z < 0 then ByteArray.mk #[45] ++ d else d := by rw [← hd, ← hn]; rfl
  have HA := Lib.hid (And.intro hsg htx)
  clear hsg htx hs ht hd hn ez hL
  by_cases hz : z < 0
  · have h1 : signZ z = -1 := by unfold signZ; rw [if_neg (by omega), if_pos hz]
    rw [if_pos hz] at et
    rw [et]
    rw [h1] at HA
    clear et h1 hz
    go_enter Tryd.func33, Tryd.ntmps33
    go_wp2_with fail
    refine (HA.out.1 _ (by go_grown)).mono ?_; rintro e w1 ⟨rfl, hb1⟩
    obtain ⟨c0, c1, -, -⟩ := ((Bx.new 25 w (.bool p) s).keep hb1).facts
    have HB := Lib.hid (below_trans (below_al w _) hb1)
    clear hb1
    go_wp2_with fail
    refine (HA.out.2 _ HB.out).mono ?_; rintro e w2 ⟨rfl, hb2⟩
    have HC := Lib.hid (below_trans HB.out hb2)
    clear hb2
    go_wp2_with fail
    go_ret
    exact ⟨rfl, HC.out⟩
  · have h1 : ¬ signZ z < 0 := by unfold signZ; split <;> (try split) <;> omega
    obtain ⟨k, hk⟩ : ∃ k, signZ z = k := ⟨_, rfl⟩
    rw [hk] at HA h1
    rw [if_neg hz] at et
    rw [et]
    clear et hz hk
    go_enter Tryd.func33, Tryd.ntmps33
    go_wp2_with fail
    refine (HA.out.1 _ (by go_grown)).mono ?_; rintro e w1 ⟨rfl, hb1⟩
    obtain ⟨c0, c1, -, -⟩ := ((Bx.new 25 w (.bool p) s).keep hb1).facts
    have HB := Lib.hid (below_trans (below_al w _) hb1)
    clear hb1
    go_wp2_with fail
    refine (HA.out.2 _ HB.out).mono ?_; rintro e w2 ⟨rfl, hb2⟩
    have HC := Lib.hid (below_trans HB.out hb2)
    clear hb2
    go_wp2_with fail
    go_ret
    exact ⟨rfl, HC.out⟩
theorem pre_one (s : ByteArray) (c : UInt8) : Lib.hasPrefix s.data.toList [c] = (s.data.toList.head? == some c) := by
  cases s.data.toList with
  | nil => rfl
  | cons x t =>
    by_cases h : c = x
    · subst h; simp [Lib.hasPrefix, List.isPrefixOf]
    · have h' : ¬ x = c := fun e => h e.symm
      show ((c == x) && List.isPrefixOf [] t) = (some x == some c)
      rw [beq_eq_false_iff_ne.2 h]
      simp [h']
/-- A text behind its sign. -/
def cutS (s : ByteArray) : Bool × ByteArray :=
  if s.data.toList.head? = some 45 then (true, s.extract 1 s.size) else if s.data.toList.head? = some 43 then (false, s.extract 1 s.size) else (false, s)
theorem cutS_size (s : ByteArray) : (cutS s).2.size ≤ s.size := by
  unfold cutS; split
  · simp
  · split <;> simp
/-- The number that Parse answers. -/
def readZ (s : ByteArray) : Int := if parseErr (cutS s).2.data.toList = 0 then sg (cutS s).1 (decV (cutS s).2.data.toList) else 0
/-- From the digits on. -/
def ParseZ (w : World) (s : ByteArray) (e : Ending) (w' : World) : Prop :=
  ∃ v, e = .returned (.tuple #[v, .int .i64 (parseErr (cutS s).2.data.toList : Int)]) ∧ Zo w' v (readZ s) ∧ Below w.heap.size w w'
theorem Zo.putB {t : TypeId} {w1 : World} {g : Nat} {a b s x y : Value} {z : Int} {p : Bool} {B : Nat} (ht : t ≠ 42) (X : Bx t w1 g a b) (h : Ow w1 B s (dg WB z.natAbs)) (hp : p = decide (z < 0)) : Zo ((w1.setCell ⟨g, 0, none⟩ x).setCell ⟨g, 1, none⟩ y) (.agg #[.bool p, s]) z := by
  subst hp
  exact ⟨s, rfl, Ow.nl ⟨h.1, own_keepT h.2 (X.keepT ht x y)⟩⟩
theorem nil_zo (w : World) : Zo w (.agg #[.bool false, .slice none 0 0]) 0 := ⟨_, rfl, nl_nil w⟩
end Go.Proofs.YtclaiidoomdklaaDoor
