/-
  Numbers as they are handed in: Same, Copy; the document's Parse.
-/
import Derived.Test.YtgbfpimdnmmfpaaGreatDoorY3
import Derived.Test.YtgbfpimdnmmfpaaGreatDoorZ8
namespace Go.Proofs.YtgbfpimdnmmfpaaGreatDoor
open Go Go.RowKit Go.Proofs Pl
set_option linter.unusedVariables false

section
variable {w w' : World} {v : Value} {b : Bool} {xs : List Nat} {L : Nat} {z : Int}
theorem Zl.put {t : TypeId} {g : Nat} {p0 : Bool} {A0 : Option Addr} {l0 c0 : Nat} (h : Zl w v b xs) (X : Bx t w g (.bool p0) (.slice A0 l0 c0)) (x y : Value) : Zl ((w.setCell ⟨g, 0, none⟩ x).setCell ⟨g, 1, none⟩ y) v b xs := by
  obtain ⟨s, h1, h2⟩ := h
  exact ⟨s, h1, h2.put X x y⟩
end
set_option maxRecDepth 100000 in
theorem same_z {w : World} {a c : Value} {b : Bool} {xs : List Nat} (ha : Zl w a b xs) (hc : Zl w c b xs) :
    Calls Tryz.prog 18 #[a, c] w fun e w' => e = .returned (.bool true) ∧ Below w.heap.size w w' := by
  obtain ⟨s, rfl, hs⟩ := ha
  obtain ⟨t, rfl, ht⟩ := hc
  have hsm := fun W (hb : Below w.heap.size w W) => same_yes (hs.keep hb) (ht.keep hb) rfl
  have HS := Lib.hid hsm
  have hbb : (b == b) = true := by cases b <;> rfl
  clear hsm hs ht
  go_enter Tryz.func18, Tryz.ntmps18
  go_wp2_with fail
  refine (HS.out _ (by go_grown)).mono ?_; rintro e w1 ⟨rfl, hb1⟩
  have HB := Lib.hid (below_trans (below_trans (below_al w _) (below_al _ _)) hb1)
  clear hb1
  go_wp2_with fail
  go_ret
  exact ⟨rfl, HB.out⟩
theorem same_zo {w : World} {a c : Value} {x y : Int} (ha : Zo w a x) (hc : Zo w c y) (h : x = y) :
    Calls Tryz.prog 18 #[a, c] w fun e w' => e = .returned (.bool true) ∧ Below w.heap.size w w' := by
  subst h
  exact same_z ha.zl hc.zl
set_option maxRecDepth 100000 in
theorem copy_z {w : World} {a : Value} {b : Bool} {xs : List Nat} (ha : Zl w a b xs) (hl : xs.length ≤ 274877906944) :
    Calls Tryz.prog 14 #[a] w fun e w' => ∃ v, e = .returned v ∧ Zl w' v b xs ∧ Below w.heap.size w w' := by
  obtain ⟨s, rfl, hs⟩ := ha
  have hto := fun W (hb : Below w.heap.size w W) => copy_nl (hs.keep hb) hl
  have HT := Lib.hid hto
  clear hto hs hl
  have N0 := new2 24 24 w (.bool b) s (.bool false) (.slice none 0 0)
  go_enter Tryz.func14, Tryz.ntmps14
  go_upto_region 1 with (fail)
  generalize (w.alloc _).alloc _ = W0 at N0 ⊢
  have HN := Lib.hid N0
  have HS0 := (N0.drew 1).ld
  have HS1 := HS0
  have HS2 := HS0
  have HS3 := HS0
  clear N0
  go_region_held3 (fun W => W.cell? ⟨w.heap.size, 0, none⟩ = some (.bool b) ∧ W.cell? ⟨w.heap.size, 1, none⟩ = some s) (first | with_reducible exact HS1 | with_reducible exact HS2 | with_reducible exact HS3 | exact HS0)
    (first
      | (go_at_call 49; refine (HT.out _ (by exact below_trans HN.out.2.2 (below_dr _ 1))).mono ?_; rintro e w1 ⟨v1, rfl, h1, hb1⟩; have h1' := h1.nl; obtain ⟨A, c, rfl, h1b⟩ := h1'; obtain ⟨la, hla⟩ : ∃ la, la = xs.length := ⟨_, rfl⟩; have h1' : Nl w1 (.slice A xs.length c) xs := ⟨A, c, rfl, h1b⟩; rw [← hla] at h1' ⊢; have N1 := (HN.out.drew 1).keep hb1; have HS1 := N1.ld; have HS2 := (N1.st (.bool b) (.slice A la c)).ld; obtain ⟨k0, k1, k2, k3⟩ := N1.2.1.facts; have H1 := Lib.hid (And.intro N1 h1'); clear N1 h1 h1b hb1 h1' hla))
  go_wp2_with fail
  refine ret_bx H1.out.1.2.1 (fun W d0 d1 => by simp [results, Tryz.results14, go_sem, d0, d1]) rfl ?_
  exact ⟨_, rfl, ⟨_, rfl, H1.out.2.put H1.out.1.2.1 _ _⟩, (H1.out.1.st _ _).2.2⟩
theorem head_at {s : ByteArray} (h : 0 < s.size) : s.data.toList.head? = some s[0] := by
  have h' : 0 < s.data.toList.length := by rw [← Lib.size_eq]; exact h
  rw [List.head?_eq_getElem?, List.getElem?_eq_getElem h']
  rfl
namespace I
/-- What the document's Parse answers. -/
def ParseD (w : World) (s : ByteArray) (e : Ending) (w' : World) : Prop :=
  ∃ v, e = .returned (.tuple #[v, .int .i64 (parseErr (cutS s).2.data.toList : Int)]) ∧ Zd w' 200 v (readZ s) ∧ Below w.heap.size w w'
theorem readZ_eq (s : ByteArray) : readZ s = sg (cutS s).1 (if parseErr (cutS s).2.data.toList = 0 then decV (cutS s).2.data.toList else 0) := by
  unfold readZ
  split
  · rfl
  · rw [sg_zero]
/-- How a text begins. -/
theorem cut_cases (s : ByteArray) : (∃ h : 0 < s.size, s[0].toNat = 45 ∧ cutS s = (true, s.extract 1 s.size)) ∨ (∃ h : 0 < s.size, s[0].toNat = 43 ∧ cutS s = (false, s.extract 1 s.size)) ∨ (∃ h : 0 < s.size, s[0].toNat ≠ 45 ∧ s[0].toNat ≠ 43 ∧ cutS s = (false, s)) ∨ (s.size = 0 ∧ cutS s = (false, s)) := by
  rcases Nat.eq_zero_or_pos s.size with h0 | h0
  · refine .inr (.inr (.inr ⟨h0, ?_⟩))
    have : s.data.toList = [] := List.eq_nil_of_length_eq_zero (by rw [← Lib.size_eq]; exact h0)
    unfold cutS
    rw [this]
    rfl
  · have hh := head_at h0
    unfold cutS
    rw [hh]
    by_cases h1 : s[0].toNat = 45
    · have e1 : s[0] = 45 := UInt8.toNat_inj.1 h1
      exact .inl ⟨h0, h1, by rw [e1, if_pos rfl]⟩
    · have e1 : ¬ (some s[0] = some 45) := fun e => h1 (by injection e with e; rw [e]; rfl)
      by_cases h2 : s[0].toNat = 43
      · have e2 : s[0] = 43 := UInt8.toNat_inj.1 h2
        exact .inr (.inl ⟨h0, h2, by rw [if_neg e1, e2, if_pos rfl]⟩)
      · have e2 : ¬ (some s[0] = some 43) := fun e => h2 (by injection e with e; rw [e]; rfl)
        exact .inr (.inr (.inl ⟨h0, h1, h2, by rw [if_neg e1, if_neg e2]⟩))
set_option maxRecDepth 100000 in
set_option maxHeartbeats 1000000 in
theorem parse_d (s : ByteArray) (w : World) (hs : s.size ≤ 9223372036854775807) :
    Calls Tryz.prog 23 #[.string s] w (ParseD w s) := by
  have hc := cut_cases s
  have hts : (cutS s).2.size ≤ 9223372036854775807 := Nat.le_trans (cutS_size s) hs
  have hz := readZ_eq s
  obtain ⟨b, hb⟩ : ∃ b, (cutS s).1 = b := ⟨_, rfl⟩
  obtain ⟨t, et⟩ : ∃ t, (cutS s).2 = t := ⟨_, rfl⟩
  obtain ⟨n, hn⟩ : ∃ n, (if parseErr (cutS s).2.data.toList = 0 then decV (cutS s).2.data.toList else 0) = n := ⟨_, rfl⟩
  obtain ⟨pe, hpe⟩ : ∃ pe, parseErr (cutS s).2.data.toList = pe := ⟨_, rfl⟩
  have hpr := fun W => parse_any (cutS s).2 W hts
  have hf := fun w1 v1 (h : Dn w1 200 v1 n) => form_d b h (by decide)
  unfold ParseD
  unfold ParseSays at hpr
  rw [hn] at hpr
  rw [hz, hn]
  rw [hpe] at hpr ⊢
  rw [et] at hpr
  rw [hb]
  have hK : (∃ h : 0 < s.size, s[0].toNat = 45 ∧ b = true ∧ t = s.extract 1 s.size) ∨ (∃ h : 0 < s.size, s[0].toNat = 43 ∧ b = false ∧ t = s.extract 1 s.size) ∨ (∃ h : 0 < s.size, s[0].toNat ≠ 45 ∧ s[0].toNat ≠ 43 ∧ b = false ∧ t = s) ∨ (s.size = 0 ∧ b = false ∧ t = s) := by
    rcases hc with ⟨h0, h1, h2⟩ | ⟨h0, h1, h2⟩ | ⟨h0, h1, h1', h2⟩ | ⟨h0, h2⟩
    · rw [h2] at hb et; exact .inl ⟨h0, h1, hb.symm, et.symm⟩
    · rw [h2] at hb et; exact .inr (.inl ⟨h0, h1, hb.symm, et.symm⟩)
    · rw [h2] at hb et; exact .inr (.inr (.inl ⟨h0, h1, h1', hb.symm, et.symm⟩))
    · rw [h2] at hb et; exact .inr (.inr (.inr ⟨h0, hb.symm, et.symm⟩))
  have HA := Lib.hid (And.intro hpr hf)
  clear hc hts hz hb et hn hpe hpr hf hs
  rcases hK with ⟨h0, h1, rfl, rfl⟩ | ⟨h0, h1, rfl, rfl⟩ | ⟨h0, h1, h1', rfl, rfl⟩ | ⟨h0, rfl, rfl⟩
  · have h0I : (0 : Int) < (s.size : Int) := by omega
    go_enter Tryz.func23, Tryz.ntmps23
    go_wp2_with fail
    refine (HA.out.1 _).mono ?_; rintro e w1 ⟨v1, rfl, h1, hb1⟩
    have X := (Bx.new 33 w (.bool false) (.slice none 0 0)).keep hb1
    have H1 := Lib.hid (And.intro X (And.intro (HA.out.2 _ _ h1) (below_trans (below_al w _) hb1)))
    clear X h1 hb1 HA
    go_wp2_with fail
    refine H1.out.2.1.mono ?_; rintro e w2 ⟨v2, rfl, h2, hb2⟩
    obtain ⟨p, A, la, c, rfl, H2'⟩ := h2.parts
    have X := H1.out.1.keep hb2
    obtain ⟨c0, c1, f0, f1⟩ := X.facts
    have H2 := Lib.hid (And.intro X (And.intro h2 (below_trans H1.out.2.2 hb2)))
    clear X h2 H2' hb2 H1
    go_wp2_with fail
    refine ret_bxv H2.out.1 (fun W d0 d1 => by simp [results, Tryz.results23, go_sem, d0, d1]; try rfl) rfl ?_
    exact ⟨_, rfl, H2.out.2.1.put H2.out.1 _ _, H2.out.1.below H2.out.2.2 (Nat.le_refl _) (Nat.le_refl _) _ _⟩
  · have h0I : (0 : Int) < (s.size : Int) := by omega
    go_enter Tryz.func23, Tryz.ntmps23
    go_wp2_with fail
    refine (HA.out.1 _).mono ?_; rintro e w1 ⟨v1, rfl, h1, hb1⟩
    have X := (Bx.new 33 w (.bool false) (.slice none 0 0)).keep hb1
    have H1 := Lib.hid (And.intro X (And.intro (HA.out.2 _ _ h1) (below_trans (below_al w _) hb1)))
    clear X h1 hb1 HA
    go_wp2_with fail
    refine H1.out.2.1.mono ?_; rintro e w2 ⟨v2, rfl, h2, hb2⟩
    obtain ⟨p, A, la, c, rfl, H2'⟩ := h2.parts
    have X := H1.out.1.keep hb2
    obtain ⟨c0, c1, f0, f1⟩ := X.facts
    have H2 := Lib.hid (And.intro X (And.intro h2 (below_trans H1.out.2.2 hb2)))
    clear X h2 H2' hb2 H1
    go_wp2_with fail
    refine ret_bxv H2.out.1 (fun W d0 d1 => by simp [results, Tryz.results23, go_sem, d0, d1]; try rfl) rfl ?_
    exact ⟨_, rfl, H2.out.2.1.put H2.out.1 _ _, H2.out.1.below H2.out.2.2 (Nat.le_refl _) (Nat.le_refl _) _ _⟩
  · have h0I : (0 : Int) < (t.size : Int) := by omega
    have e1 : (((t[0].toNat : Nat) : Int) == 45) = false := beq_eq_false_iff_ne.2 (by omega)
    have e2 : (((t[0].toNat : Nat) : Int) == 43) = false := beq_eq_false_iff_ne.2 (by omega)
    clear h1 h1'
    go_enter Tryz.func23, Tryz.ntmps23
    go_wp2_with fail
    refine (HA.out.1 _).mono ?_; rintro e w1 ⟨v1, rfl, h1, hb1⟩
    have X := (Bx.new 33 w (.bool false) (.slice none 0 0)).keep hb1
    have H1 := Lib.hid (And.intro X (And.intro (HA.out.2 _ _ h1) (below_trans (below_al w _) hb1)))
    clear X h1 hb1 HA
    go_wp2_with fail
    refine H1.out.2.1.mono ?_; rintro e w2 ⟨v2, rfl, h2, hb2⟩
    obtain ⟨p, A, la, c, rfl, H2'⟩ := h2.parts
    have X := H1.out.1.keep hb2
    obtain ⟨c0, c1, f0, f1⟩ := X.facts
    have H2 := Lib.hid (And.intro X (And.intro h2 (below_trans H1.out.2.2 hb2)))
    clear X h2 H2' hb2 H1
    go_wp2_with fail
    refine ret_bxv H2.out.1 (fun W d0 d1 => by simp [results, Tryz.results23, go_sem, d0, d1]; try rfl) rfl ?_
    exact ⟨_, rfl, H2.out.2.1.put H2.out.1 _ _, H2.out.1.below H2.out.2.2 (Nat.le_refl _) (Nat.le_refl _) _ _⟩
  · have h0I : decide ((0 : Int) < (t.size : Int)) = false := decide_eq_false (by omega)
    go_enter Tryz.func23, Tryz.ntmps23
    go_wp2_with fail
    refine (HA.out.1 _).mono ?_; rintro e w1 ⟨v1, rfl, h1, hb1⟩
    have X := (Bx.new 33 w (.bool false) (.slice none 0 0)).keep hb1
    have H1 := Lib.hid (And.intro X (And.intro (HA.out.2 _ _ h1) (below_trans (below_al w _) hb1)))
    clear X h1 hb1 HA
    go_wp2_with fail
    refine H1.out.2.1.mono ?_; rintro e w2 ⟨v2, rfl, h2, hb2⟩
    obtain ⟨p, A, la, c, rfl, H2'⟩ := h2.parts
    have X := H1.out.1.keep hb2
    obtain ⟨c0, c1, f0, f1⟩ := X.facts
    have H2 := Lib.hid (And.intro X (And.intro h2 (below_trans H1.out.2.2 hb2)))
    clear X h2 H2' hb2 H1
    go_wp2_with fail
    refine ret_bxv H2.out.1 (fun W d0 d1 => by simp [results, Tryz.results23, go_sem, d0, d1]; try rfl) rfl ?_
    exact ⟨_, rfl, H2.out.2.1.put H2.out.1 _ _, H2.out.1.below H2.out.2.2 (Nat.le_refl _) (Nat.le_refl _) _ _⟩
end I
end Go.Proofs.YtgbfpimdnmmfpaaGreatDoor
