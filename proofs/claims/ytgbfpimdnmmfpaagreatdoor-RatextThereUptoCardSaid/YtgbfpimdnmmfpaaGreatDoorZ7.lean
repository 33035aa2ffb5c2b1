/-
  zint: Text, Parse.
-/
import Derived.Test.YtgbfpimdnmmfpaaGreatDoorP8
import Derived.Test.YtgbfpimdnmmfpaaGreatDoorZ2
import Derived.Lib.Strings
namespace Go.Proofs.YtgbfpimdnmmfpaaGreatDoor
open Go Go.RowKit Go.Proofs Pl
set_option linter.unusedVariables false

/-- A return whose first result lies in a struct's variable, just written. -/
theorem ret_bxv {P : Program} {fn : Func} {R : Ending → World → Prop} {act : Act} {t : TypeId} {w : World} {g : Nat} {a b x y V : Value} (X : Bx t w g a b)
    (hr : ∀ W : World, W.cell? ⟨g, 0, none⟩ = some x → W.cell? ⟨g, 1, none⟩ = some y → (results fn act.tmps).run P W = .ok V W) (hd : act.defers = [])
    (hR : R (.returned V) ((w.setCell ⟨g, 0, none⟩ x).setCell ⟨g, 1, none⟩ y)) : bodyPost P fn R .ret act ((w.setCell ⟨g, 0, none⟩ x).setCell ⟨g, 1, none⟩ y) :=
  bodyPost_ret (hr _ (X.set x y).facts.1 (X.set x y).facts.2.1) hd hR
/-- The digits of a whole number, with its sign. -/
def textZ (z : Int) : ByteArray := if z < 0 then ByteArray.mk #[45] ++ ⟨(Lib.decDigits z.natAbs).toArray⟩ else ⟨(Lib.decDigits z.natAbs).toArray⟩
set_option maxRecDepth 100000 in
theorem text_z {w : World} {L : Nat} {a : Value} {z : Int} (ht : Tab w) (ha : Zn w L a z) (hL : L ≤ 1073741824) :
    Calls Tryz.prog 24 #[a] w fun e w' => e = .returned (.string (textZ z)) ∧ Below w.heap.size w w' := by
  have hsg := fun W (hb : Below w.heap.size w W) => sign_z (ha.keep hb) (by omega)
  obtain ⟨p, s, n, rfl, hs, ez⟩ := ha
  have hn : z.natAbs = n := by rw [ez, sg_abs]
  have htx := fun W (hb : Below w.heap.size w W) => text_nm (hs.keep hb) hL (ht.keep hb)
  obtain ⟨d, hd⟩ : ∃ d : ByteArray, (⟨(Lib.decDigits n).toArray⟩ : ByteArray) = d := ⟨_, rfl⟩
  simp only [hd] at htx
  have hsz : d.size ≤ 21474836480 := by
    rw [← hd, size_toArray]
    rcases Nat.eq_zero_or_pos L with h0 | h0
    · have : n < WB ^ 1 := by have := hs.lt; rw [h0, Nat.pow_zero] at this; rw [Nat.pow_one, WB_eq]; omega
      have := dec_short' (by decide) this; omega
    · have := dec_short' h0 hs.lt; omega
  have et : textZ z = if z < 0 then ByteArray.mk #[45] ++ d else d := by rw [← hd, ← hn]; rfl
  have HA := Lib.hid (And.intro hsg htx)
  clear hsg htx hs ht hd hn ez hL
  by_cases hz : z < 0
  · have h1 : signZ z = -1 := by unfold signZ; rw [if_neg (by omega), if_pos hz]
    rw [if_pos hz] at et
    rw [et]
    rw [h1] at HA
    clear et h1 hz
    go_enter Tryz.func24, Tryz.ntmps24
    go_wp2_with fail
    refine (HA.out.1 _ (by go_grown)).mono ?_; rintro e w1 ⟨rfl, hb1⟩
    obtain ⟨c0, c1, -, -⟩ := ((Bx.new 24 w (.bool p) s).keep hb1).facts
    have HB := Lib.hid (below_trans (below_al w _) hb1)
    clear hb1
    go_wp2_with fail
    refine (HA.out.2 _ HB.out).mono ?_; rintro e w2 ⟨rfl, hb2⟩
    have HC := Lib.hid (below_trans HB.out hb2)
    clear hb2
    go_wp2_with fail
    go_ret
    exact ⟨rfl, HC.out⟩
  · have h1 : ¬ signZ z < 0 := by unfold signZ; split <;> (try split) <;> omega
    obtain ⟨k, hk⟩ : ∃ k, signZ z = k := ⟨_, rfl⟩
    rw [hk] at HA h1
    rw [if_neg hz] at et
    rw [et]
    clear et hz hk
    go_enter Tryz.func24, Tryz.ntmps24
    go_wp2_with fail
    refine (HA.out.1 _ (by go_grown)).mono ?_; rintro e w1 ⟨rfl, hb1⟩
    obtain ⟨c0, c1, -, -⟩ := ((Bx.new 24 w (.bool p) s).keep hb1).facts
    have HB := Lib.hid (below_trans (below_al w _) hb1)
    clear hb1
    go_wp2_with fail
    refine (HA.out.2 _ HB.out).mono ?_; rintro e w2 ⟨rfl, hb2⟩
    have HC := Lib.hid (below_trans HB.out hb2)
    clear hb2
    go_wp2_with fail
    go_ret
    exact ⟨rfl, HC.out⟩
theorem pre_one (s : ByteArray) (c : UInt8) : Lib.hasPrefix s.data.toList [c] = (s.data.toList.head? == some c) := by
  cases s.data.toList with
  | nil => rfl
  | cons x t =>
    by_cases h : c = x
    · subst h; simp [Lib.hasPrefix, List.isPrefixOf]
    · have h' : ¬ x = c := fun e => h e.symm
      show ((c == x) && List.isPrefixOf [] t) = (some x == some c)
      rw [beq_eq_false_iff_ne.2 h]
      simp [h']
set_option maxRecDepth 100000 in
theorem cut_yes (s p : ByteArray) (w : World) (hp : p.size = 1) (hs : s.size ≤ 9223372036854775807) (h : Lib.hasPrefix s.data.toList p.data.toList = true) :
    Calls Tryz.prog 56 #[.string s, .string p] w fun e w' => e = .returned (.tuple #[.string (s.extract 1 s.size), .bool true]) ∧ w = w' := by
  have h0 : 1 ≤ s.size := by
    rw [Lib.size_eq]
    cases hl : s.data.toList with
    | nil => rw [hl] at h; cases hp2 : p.data.toList with
      | nil => rw [Lib.size_eq, hp2] at hp; simp at hp
      | cons a t => rw [hp2] at h; simp [Lib.hasPrefix] at h
    | cons a t => simp
  have H := Lib.hid h
  clear h
  have inner : Calls Tryz.prog 91 #[.string s, .string p] w fun e w' => e = .returned (.tuple #[.string (s.extract 1 s.size), .bool true]) ∧ w = w' := by
    go_enter Tryz.func91, Tryz.ntmps91
    go_wp2_with fail
    refine (Tryz.stringslite_HasPrefix s p w).mono ?_; rintro e w' ⟨rfl, rfl⟩
    rw [H.out]
    go_wp2_with fail
    go_ret2
    exact ⟨rfl, rfl⟩
  go_enter Tryz.func56, Tryz.ntmps56
  go_wp2_with fail
  refine inner.mono ?_; rintro e w' ⟨rfl, rfl⟩
  go_wp2_with fail
  go_ret2
  exact ⟨rfl, rfl⟩
set_option maxRecDepth 100000 in
theorem cut_no (s p : ByteArray) (w : World) (h : Lib.hasPrefix s.data.toList p.data.toList = false) :
    Calls Tryz.prog 56 #[.string s, .string p] w fun e w' => e = .returned (.tuple #[.string s, .bool false]) ∧ w = w' := by
  have H := Lib.hid h
  clear h
  have inner : Calls Tryz.prog 91 #[.string s, .string p] w fun e w' => e = .returned (.tuple #[.string s, .bool false]) ∧ w = w' := by
    go_enter Tryz.func91, Tryz.ntmps91
    go_wp2_with fail
    refine (Tryz.stringslite_HasPrefix s p w).mono ?_; rintro e w' ⟨rfl, rfl⟩
    rw [H.out]
    go_wp2_with fail
    go_ret2
    exact ⟨rfl, rfl⟩
  go_enter Tryz.func56, Tryz.ntmps56
  go_wp2_with fail
  refine inner.mono ?_; rintro e w' ⟨rfl, rfl⟩
  go_wp2_with fail
  go_ret2
  exact ⟨rfl, rfl⟩
/-- A text behind its sign. -/
def cutS (s : ByteArray) : Bool × ByteArray :=
  if s.data.toList.head? = some 45 then (true, s.extract 1 s.size) else if s.data.toList.head? = some 43 then (false, s.extract 1 s.size) else (false, s)
theorem cutS_size (s : ByteArray) : (cutS s).2.size ≤ s.size := by
  unfold cutS; split
  · simp
  · split <;> simp
/-- The number that Parse answers. -/
def readZ (s : ByteArray) : Int := if parseErr (cutS s).2.data.toList = 0 then sg (cutS s).1 (decV (cutS s).2.data.toList) else 0
/-- From the digits on. -/
def ParseZ (w : World) (s : ByteArray) (e : Ending) (w' : World) : Prop :=
  ∃ v, e = .returned (.tuple #[v, .int .i64 (parseErr (cutS s).2.data.toList : Int)]) ∧ Zo w' v (readZ s) ∧ Below w.heap.size w w'
theorem Zo.putB {t : TypeId} {w1 : World} {g : Nat} {a b s x y : Value} {z : Int} {p : Bool} {B : Nat} (ht : t ≠ 84) (X : Bx t w1 g a b) (h : Ow w1 B s (dg WB z.natAbs)) (hp : p = decide (z < 0)) : Zo ((w1.setCell ⟨g, 0, none⟩ x).setCell ⟨g, 1, none⟩ y) (.agg #[.bool p, s]) z := by
  subst hp
  exact ⟨s, rfl, Ow.nl ⟨h.1, own_keepT h.2 (X.keepT ht x y)⟩⟩
theorem nil_zo (w : World) : Zo w (.agg #[.bool false, .slice none 0 0]) 0 := ⟨_, rfl, nl_nil w⟩
set_option maxRecDepth 100000 in
set_option maxHeartbeats 1000000 in
theorem parse_z (s : ByteArray) (w : World) (hs : s.size ≤ 9223372036854775807) :
    Calls Tryz.prog 22 #[.string s] w (ParseZ w s) := by
  have m45 : (ByteArray.mk #[45]).size = 1 := rfl
  have m43 : (ByteArray.mk #[43]).size = 1 := rfl
  have p45 := pre_one s 45
  have p43 := pre_one s 43
  obtain ⟨b, hb⟩ : ∃ b, (cutS s).1 = b := ⟨_, rfl⟩
  obtain ⟨t, et⟩ : ∃ t, (cutS s).2 = t := ⟨_, rfl⟩
  obtain ⟨l, hl⟩ : ∃ l, t.data.toList = l := ⟨_, rfl⟩
  obtain ⟨pe, hpe⟩ : ∃ pe, parseErr l = pe := ⟨_, rfl⟩
  have hts : t.size ≤ 9223372036854775807 := by rw [← et]; exact Nat.le_trans (cutS_size s) hs
  have hpr := fun W => parse_any t W hts
  have hZ : ∀ (e : Ending) (w' : World), (∃ v, e = .returned (.tuple #[v, .int .i64 (pe : Int)]) ∧ Zo w' v (if pe = 0 then sg b (decV l) else 0) ∧ Below w.heap.size w w') → ParseZ w s e w' := by
    intro e w' h
    unfold ParseZ readZ
    rw [et, hb, hl, hpe]; exact h
  have hmk := fun W w1 v1 (h0 : pe = 0) (hv : Ow w1 W.heap.size v1 (dg WB (decV l))) (hb1 : Below W.heap.size W w1) =>
    make_z b (L := 200) ((show Rs W w1 v1 (decV l) from ⟨hv, hb1⟩).nm (by have := parse_lt (l := l); rw [hpe, if_pos h0] at this; exact this)) (by decide)
  have hK : (b = true ∧ t = s.extract 1 s.size ∧ Lib.hasPrefix s.data.toList [45] = true) ∨ (b = false ∧ t = s.extract 1 s.size ∧ Lib.hasPrefix s.data.toList [45] = false ∧ Lib.hasPrefix s.data.toList [43] = true) ∨ (b = false ∧ t = s ∧ Lib.hasPrefix s.data.toList [45] = false ∧ Lib.hasPrefix s.data.toList [43] = false) := by
    rw [p45, p43]
    unfold cutS at hb et
    by_cases h1 : s.data.toList.head? = some 45
    · rw [if_pos h1] at hb et; exact .inl ⟨hb.symm, et.symm, by rw [h1]; rfl⟩
    · rw [if_neg h1] at hb et
      by_cases h2 : s.data.toList.head? = some 43
      · rw [if_pos h2] at hb et; exact .inr (.inl ⟨hb.symm, et.symm, by simpa using h1, by rw [h2]; rfl⟩)
      · rw [if_neg h2] at hb et; exact .inr (.inr ⟨hb.symm, et.symm, by simpa using h1, by simpa using h2⟩)
  simp only [ParseSays, hl, hpe] at hpr
  have HA := Lib.hid (And.intro hpr (And.intro hmk hZ))
  refine Calls.mono (R := fun e w' => ∃ v, e = .returned (.tuple #[v, .int .i64 (pe : Int)]) ∧ Zo w' v (if pe = 0 then sg b (decV l) else 0) ∧ Below w.heap.size w w') ?_ hZ
  have HP := Lib.hid p45
  clear p45 p43 hpr hmk hZ hpe hl et hb hts HP
  have HS := Lib.hid hs
  clear hs
  rcases hK with ⟨rfl, rfl, k1⟩ | ⟨rfl, rfl, k1, k2⟩ | ⟨rfl, rfl, k1, k2⟩
  · have C1 := Lib.hid (fun W => cut_yes s ⟨#[45]⟩ W m45 HS.out k1)
    clear k1 m45 m43
    go_enter Tryz.func22, Tryz.ntmps22
    go_wp2_with fail
    refine (C1.out _).mono ?_; rintro e w' ⟨rfl, rfl⟩
    go_wp2_with fail
    refine (HA.out.1 _).mono ?_; rintro e w1 ⟨v1, rfl, hv, hb1⟩
    have X := (Bx.new 24 w (.bool false) (.slice none 0 0)).keep hb1
    obtain ⟨c0, c1, f0, f1⟩ := X.facts
    by_cases h0 : pe = 0
    · subst h0
      rw [if_pos rfl] at hv
      have HM := Lib.hid (HA.out.2.1 _ _ _ rfl hv hb1)
      have HX := Lib.hid (And.intro X (below_trans (below_al w _) hb1))
      clear X hv hb1 c0 c1 f0 f1 HA
      go_wp2_with fail
      refine HM.out.mono ?_; rintro e w2 ⟨v2, rfl, h2⟩
      obtain ⟨pz, A, la, c, rfl, H2⟩ := h2.parts
      have X := HX.out.1.keep h2.below
      obtain ⟨c0, c1, f0, f1⟩ := X.facts
      have HY := Lib.hid (And.intro X (h2.from HX.out.2))
      clear X h2 H2 HX HM
      go_wp2_with fail
      refine ret_bxv HY.out.1 (fun W d0 d1 => by simp [results, Tryz.results22, go_sem, d0, d1]; try rfl) rfl ?_
      have hz := HY.out.2.put int_word HY.out.1 (Nat.le_refl _) (.bool pz) (.slice A la c)
      exact ⟨_, rfl, hz.zo, hz.below⟩
    · have hpi : (pe : Int) ≠ 0 := by omega
      have HX := Lib.hid (And.intro X (And.intro (below_trans (below_al w _) hb1) h0))
      clear X hv hb1 HA h0
      go_wp2_with fail
      refine ret_bxv HX.out.1 (fun W d0 d1 => by simp [results, Tryz.results22, go_sem, d0, d1]; try rfl) rfl ?_
      exact ⟨_, rfl, nil_zo _, HX.out.1.below HX.out.2.1 (Nat.le_refl _) (Nat.le_refl _) _ _⟩
  · have C1 := Lib.hid (fun W => cut_no s ⟨#[45]⟩ W k1)
    have C2 := Lib.hid (fun W => cut_yes s ⟨#[43]⟩ W m43 HS.out k2)
    clear k1 k2 m45 m43
    go_enter Tryz.func22, Tryz.ntmps22
    go_wp2_with fail
    refine (C1.out _).mono ?_; rintro e w' ⟨rfl, rfl⟩
    go_wp2_with fail
    refine (C2.out _).mono ?_; rintro e w' ⟨rfl, rfl⟩
    go_wp2_with fail
    refine (HA.out.1 _).mono ?_; rintro e w1 ⟨v1, rfl, hv, hb1⟩
    have X := (Bx.new 24 w (.bool false) (.slice none 0 0)).keep hb1
    obtain ⟨c0, c1, f0, f1⟩ := X.facts
    by_cases h0 : pe = 0
    · subst h0
      rw [if_pos rfl] at hv
      have HM := Lib.hid (HA.out.2.1 _ _ _ rfl hv hb1)
      have HX := Lib.hid (And.intro X (below_trans (below_al w _) hb1))
      clear X hv hb1 c0 c1 f0 f1 HA
      go_wp2_with fail
      refine HM.out.mono ?_; rintro e w2 ⟨v2, rfl, h2⟩
      obtain ⟨pz, A, la, c, rfl, H2⟩ := h2.parts
      have X := HX.out.1.keep h2.below
      obtain ⟨c0, c1, f0, f1⟩ := X.facts
      have HY := Lib.hid (And.intro X (h2.from HX.out.2))
      clear X h2 H2 HX HM
      go_wp2_with fail
      refine ret_bxv HY.out.1 (fun W d0 d1 => by simp [results, Tryz.results22, go_sem, d0, d1]; try rfl) rfl ?_
      have hz := HY.out.2.put int_word HY.out.1 (Nat.le_refl _) (.bool pz) (.slice A la c)
      exact ⟨_, rfl, hz.zo, hz.below⟩
    · have hpi : (pe : Int) ≠ 0 := by omega
      have HX := Lib.hid (And.intro X (And.intro (below_trans (below_al w _) hb1) h0))
      clear X hv hb1 HA h0
      go_wp2_with fail
      refine ret_bxv HX.out.1 (fun W d0 d1 => by simp [results, Tryz.results22, go_sem, d0, d1]; try rfl) rfl ?_
      exact ⟨_, rfl, nil_zo _, HX.out.1.below HX.out.2.1 (Nat.le_refl _) (Nat.le_refl _) _ _⟩
  · have C1 := Lib.hid (fun W => cut_no t ⟨#[45]⟩ W k1)
    have C2 := Lib.hid (fun W => cut_no t ⟨#[43]⟩ W k2)
    clear k1 k2 m45 m43
    go_enter Tryz.func22, Tryz.ntmps22
    go_wp2_with fail
    refine (C1.out _).mono ?_; rintro e w' ⟨rfl, rfl⟩
    go_wp2_with fail
    refine (C2.out _).mono ?_; rintro e w' ⟨rfl, rfl⟩
    go_wp2_with fail
    refine (HA.out.1 _).mono ?_; rintro e w1 ⟨v1, rfl, hv, hb1⟩
    have X := (Bx.new 24 w (.bool false) (.slice none 0 0)).keep hb1
    obtain ⟨c0, c1, f0, f1⟩ := X.facts
    by_cases h0 : pe = 0
    · subst h0
      rw [if_pos rfl] at hv
      have HM := Lib.hid (HA.out.2.1 _ _ _ rfl hv hb1)
      have HX := Lib.hid (And.intro X (below_trans (below_al w _) hb1))
      clear X hv hb1 c0 c1 f0 f1 HA
      go_wp2_with fail
      refine HM.out.mono ?_; rintro e w2 ⟨v2, rfl, h2⟩
      obtain ⟨pz, A, la, c, rfl, H2⟩ := h2.parts
      have X := HX.out.1.keep h2.below
      obtain ⟨c0, c1, f0, f1⟩ := X.facts
      have HY := Lib.hid (And.intro X (h2.from HX.out.2))
      clear X h2 H2 HX HM
      go_wp2_with fail
      refine ret_bxv HY.out.1 (fun W d0 d1 => by simp [results, Tryz.results22, go_sem, d0, d1]; try rfl) rfl ?_
      have hz := HY.out.2.put int_word HY.out.1 (Nat.le_refl _) (.bool pz) (.slice A la c)
      exact ⟨_, rfl, hz.zo, hz.below⟩
    · have hpi : (pe : Int) ≠ 0 := by omega
      have HX := Lib.hid (And.intro X (And.intro (below_trans (below_al w _) hb1) h0))
      clear X hv hb1 HA h0
      go_wp2_with fail
      refine ret_bxv HX.out.1 (fun W d0 d1 => by simp [results, Tryz.results22, go_sem, d0, d1]; try rfl) rfl ?_
      exact ⟨_, rfl, nil_zo _, HX.out.1.below HX.out.2.1 (Nat.le_refl _) (Nat.le_refl _) _ _⟩
end Go.Proofs.YtgbfpimdnmmfpaaGreatDoor
