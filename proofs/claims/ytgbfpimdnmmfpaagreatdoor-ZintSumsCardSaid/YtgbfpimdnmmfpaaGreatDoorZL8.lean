/-
  The law ZintSums, walked.
-/
import Derived.Test.YtgbfpimdnmmfpaaGreatDoorZ9
import Derived.Test.YtgbfpimdnmmfpaaGreatDoorY4
import Derived.Test.YtgbfpimdnmmfpaaGreatDoorRg
namespace Go.Proofs.YtgbfpimdnmmfpaaGreatDoor
open Go Go.RowKit Go.Proofs Pl
set_option linter.unusedVariables false
set_option linter.unusedSimpArgs false

theorem sign_dk {w : World} {L : Nat} {a : Value} {x o : Int} (ho : signZ x = o) (ha : I.Zd w L a x) :
    Calls Tryz.prog 17 #[a] w fun e w' => e = .returned (.int .i64 o) ∧ Below w.heap.size w w' := by
  subst ho; exact I.sign_d ha
set_option maxRecDepth 100000 in
set_option maxHeartbeats 4000000 in
theorem zintSums_main (w : World) (ht : Tab w) {a : Value} {pa : Bool} {xa : List Nat} {b : Value} {pb : Bool} {xb : List Nat} (ha : Zl w a pa xa) (la : xa.length ≤ 12) (hb : Zl w b pb xb) (lb : xb.length ≤ 12) :
    Calls Tryz.prog 5 #[a, b] w fun e w' => e = .returned (.bool true) ∧ Below w.heap.size w w' := by
  obtain ⟨x, hx⟩ : ∃ x, x = sg pa (val WB xa) := ⟨_, rfl⟩
  obtain ⟨y, hy⟩ : ∃ y, y = sg pb (val WB xb) := ⟨_, rfl⟩
  have bx := zl_abs ha la
  have bv := zl_abs hb lb
  rw [← hx] at bx
  rw [← hy] at bv
  have hza := ha.zn la
  have hzb := hb.zn lb
  rw [← hx] at hza
  rw [← hy] at hzb
  have HG := Lib.hid (And.intro la lb)
  have HX := Lib.hid (And.intro hx hy)
  obtain ⟨sx, hsx⟩ : ∃ sx, signZ x = sx := ⟨_, rfl⟩
  obtain ⟨cx_, hcx⟩ : ∃ c, cmpZ x y = c := ⟨_, rfl⟩
  have HE := Lib.hid (And.intro hsx hcx)
  have hnx : (-x).natAbs < WB ^ 12 := by rw [Int.natAbs_neg]; exact bx
  have HB := Lib.hid (And.intro bx (And.intro hnx (And.intro (abs_add WB_one bx bv) (And.intro (abs_sub WB_one bx bv) (abs_mul bx bv)))))
  clear hsx hcx hnx bx bv
  obtain ⟨Aa, na, ca, rfl, ea, ha⟩ := ha.parts
  obtain ⟨Ab, nb, cb, rfl, eb, hb⟩ := hb.parts
  have S0 := Lib.hid (And.intro (ht) (And.intro (ha.out) (And.intro (hb.out) (And.intro (hza) (And.intro (hzb) (Below.refl w.heap.size w))))))
  clear ht hza hzb ha hb la lb ea eb hx hy
  go_enter Tryz.func5, Tryz.ntmps5
  go_upto_region 1 with (fail)
  obtain ⟨h0, h1, hb⟩ := box2 w 24 24 (.bool pa) (.slice Aa na ca) (.bool pb) (.slice Ab nb cb)
  have S1 := Lib.hid (And.intro (S0.out.1.keep (hb)) (And.intro (S0.out.2.1.keep (hb)) (And.intro (S0.out.2.2.1.keep (hb)) (And.intro (S0.out.2.2.2.1.keep (hb)) (And.intro (S0.out.2.2.2.2.1.keep (hb)) (And.intro (h0) (And.intro (h1) (below_trans (S0.out.2.2.2.2.2) (hb)))))))))
  clear hb h0 h1 S0
  generalize (w.alloc _).alloc _ = W0 at S1 ⊢
  go_wp2_with fail
  refine (speaks_z _ S1.out.1).mono ?_; rintro e w2 ⟨rfl, hb⟩
  have S2 := Lib.hid (And.intro (S1.out.1.keep (hb)) (And.intro (S1.out.2.1.keep (hb)) (And.intro (S1.out.2.2.1.keep (hb)) (And.intro (S1.out.2.2.2.1.keep (hb)) (And.intro (S1.out.2.2.2.2.1.keep (hb)) (And.intro (S1.out.2.2.2.2.2.1.keep (hb)) (And.intro (S1.out.2.2.2.2.2.2.1.keep (hb)) (below_trans (S1.out.2.2.2.2.2.2.2) (hb)))))))))
  clear hb  S1
  obtain ⟨aa, ab, -, -⟩ := S2.out.2.2.2.2.2.1.facts
  obtain ⟨ba, bb, -, -⟩ := S2.out.2.2.2.2.2.2.1.facts
  go_wp2_with fail
  refine (big_no S2.out.2.1 S2.out.2.2.1 HG.out.1 HG.out.2).mono ?_; rintro e w3 ⟨rfl, hb⟩
  have S3 := Lib.hid (And.intro (S2.out.1.keep (hb)) (And.intro (S2.out.2.1.keep (hb)) (And.intro (S2.out.2.2.1.keep (hb)) (And.intro (S2.out.2.2.2.1.keep (hb)) (And.intro (S2.out.2.2.2.2.1.keep (hb)) (And.intro (S2.out.2.2.2.2.2.1.keep (hb)) (And.intro (S2.out.2.2.2.2.2.2.1.keep (hb)) (below_trans (S2.out.2.2.2.2.2.2.2) (hb)))))))))
  clear hb aa ab ba bb S2
  have HW := Lib.hid (Since.refl w3)
  go_upto_region 5 with (fail)
  go_cut [5, 6] (fun s5 s6 wx => ∃ (gx : Nat) (gy : Nat) (Ax : Option Addr) (lx : Nat) (cx : Nat) (Ay : Option Addr) (ly : Nat) (cy : Nat), s5 = .pointer (some ⟨gx, 0, none⟩) ∧ s6 = .pointer (some ⟨gy, 0, none⟩) ∧ Since w3 wx ∧ Bx 24 wx gx (.bool pa) (.slice Ax lx cx) ∧ Bx 24 wx gy (.bool pb) (.slice Ay ly cy) ∧ Zl wx (.agg #[.bool pa, .slice Ax lx cx]) pa xa ∧ Zl wx (.agg #[.bool pb, .slice Ay ly cy]) pb xb)
  case first =>
    refine wp_region_held_drew (S := fun W => W.cell? ⟨w.heap.size, 0, none⟩ = some (.bool pa) ∧ W.cell? ⟨w.heap.size, 1, none⟩ = some (.slice Aa na ca) ∧ W.cell? ⟨w.heap.size + 1, 0, none⟩ = some (.bool pb) ∧ W.cell? ⟨w.heap.size + 1, 1, none⟩ = some (.slice Ab nb cb)) (by kernel_rfl) ⟨(S3.out.2.2.2.2.2.1.keep (below_dr _ 1)).facts.1, (S3.out.2.2.2.2.2.1.keep (below_dr _ 1)).facts.2.1, (S3.out.2.2.2.2.2.2.1.keep (below_dr _ 1)).facts.1, (S3.out.2.2.2.2.2.2.1.keep (below_dr _ 1)).facts.2.1⟩ (fun hHeld => ?_)
    refine rgTake 0 hHeld ?_; try simp only [Act.put, List.setIfInBounds_toArray, List.set_cons_zero, List.set_cons_succ]
    refine rgTake 2 hHeld ?_; try simp only [Act.put, List.setIfInBounds_toArray, List.set_cons_zero, List.set_cons_succ]
    have R0 := Lib.hid (show Since w3 w3.drew from HW.out.keep (below_dr _ 1))
    generalize w3.drew = Wd at R0 hHeld ⊢
    refine wpAnyH_ctx (fun F hF => ?_)
    have HF := Lib.hid hF
    clear hF
    refine act_ctx (G := fun a => F _ _ a Wd) (fun a0 ha0 => ?_)
    have HA := Lib.hid ha0
    clear ha0 hHeld
    have st2xy2 : ∀ (W : World) (Ax : Option Addr) (lx : Nat) (cx : Nat) (Ay : Option Addr) (ly : Nat) (cy : Nat) (gx : Nat) (gy : Nat), Hid (Since w3 W ∧ Zl W (.agg #[.bool pa, .slice Ax lx cx]) pa xa ∧ Zl W (.agg #[.bool pb, .slice Ay ly cy]) pb xb ∧ Bx 24 W gx (.bool pa) (.slice Ax lx cx) ∧ w3.heap.size ≤ gx ∧ Bx 24 W gy (.bool pb) (.slice Ay ly cy) ∧ w3.heap.size ≤ gy ∧ gx ≠ gy) → F 0 #[true, true, true, true, true, true, true, true] ((((a0.put (some 5) (.pointer (some ⟨gx, 0, none⟩))).put (some 6) (.pointer (some ⟨gy, 0, none⟩))).put (some 19) (.agg #[.bool pa, .slice Ax lx cx])).put (some 21) (.agg #[.bool pb, .slice Ay ly cy])) W := by
      intro W Ax lx cx Ay ly cy gx gy R
      refine (HF.out _ _ _ _).2 ?_; rw [HA.out]; try simp only [Act.put, List.setIfInBounds_toArray, List.set_cons_zero, List.set_cons_succ]
      obtain ⟨rW, rLx, rLy, rXx, rPx, rXy, rPy, rNxy⟩ := R.out
      refine wpAnyH_done (by kernel_rfl) ?_ _; go_wp2_with fail; go_meet
      exact ⟨_, _, _, _, _, _, _, _, rfl, rfl, rW, rXx, rXy, rLx, rLy⟩
    have st2xy1 : ∀ (W : World) (Ax : Option Addr) (lx : Nat) (cx : Nat) (Ay : Option Addr) (ly : Nat) (cy : Nat) (gx : Nat) (gy : Nat), Hid (Since w3 W ∧ Zl W (.agg #[.bool pa, .slice Ax lx cx]) pa xa ∧ Zl W (.agg #[.bool pb, .slice Ay ly cy]) pb xb ∧ Bx 24 W gx (.bool pa) (.slice Ax lx cx) ∧ w3.heap.size ≤ gx ∧ Bx 24 W gy (.bool false) (.slice none 0 0) ∧ w3.heap.size ≤ gy ∧ gx ≠ gy) → F 1 #[true, true, true, true, true, true, true, false] ((((a0.put (some 5) (.pointer (some ⟨gx, 0, none⟩))).put (some 6) (.pointer (some ⟨gy, 0, none⟩))).put (some 19) (.agg #[.bool pa, .slice Ax lx cx])).put (some 21) (.agg #[.bool pb, .slice Ay ly cy])) W := by
      intro W Ax lx cx Ay ly cy gx gy R
      refine (HF.out _ _ _ _).2 ?_; rw [HA.out]; try simp only [Act.put, List.setIfInBounds_toArray, List.set_cons_zero, List.set_cons_succ]
      obtain ⟨rW, rLx, rLy, rXx, rPx, rXy, rPy, rNxy⟩ := R.out
      refine rgReady [7] (rgOne (fun K hK => ?_) rgNil)
      obtain ⟨fa, fb, fc, fd⟩ := rXy.facts; go_simp; clear fa fb fc fd
      have rW2 := rW.put rXy rPy (.bool pb) (.slice Ay ly cy)
      refine hK.out _ _ ⟨(S3.out.2.2.2.2.2.1.keep rW2).facts.1, (S3.out.2.2.2.2.2.1.keep rW2).facts.2.1, (S3.out.2.2.2.2.2.2.1.keep rW2).facts.1, (S3.out.2.2.2.2.2.2.1.keep rW2).facts.2.1⟩ (fun _ => ?_); clear hK K
      have q := (HF.out _ _ _ _).1 (st2xy2 _ Ax lx cx Ay ly cy gx gy (Lib.hid ⟨rW2, rLx.put rXy (.bool pb) (.slice Ay ly cy), rLy.put rXy (.bool pb) (.slice Ay ly cy), rXx.other2 (Ne.symm rNxy) (.bool pb) (.slice Ay ly cy), rPx, rXy.set (.bool pb) (.slice Ay ly cy), rPy, rNxy⟩)); rw [HA.out] at q; simp only [Act.put, List.setIfInBounds_toArray, List.set_cons_zero, List.set_cons_succ] at q; try simp only [Act.put, List.setIfInBounds_toArray, List.set_cons_zero, List.set_cons_succ]; exact q
    have st2xy : ∀ (W : World) (Ax : Option Addr) (lx : Nat) (cx : Nat) (Ay : Option Addr) (ly : Nat) (cy : Nat) (gx : Nat) (gy : Nat), Hid (Since w3 W ∧ Zl W (.agg #[.bool pa, .slice Ax lx cx]) pa xa ∧ Zl W (.agg #[.bool pb, .slice Ay ly cy]) pb xb ∧ Bx 24 W gx (.bool false) (.slice none 0 0) ∧ w3.heap.size ≤ gx ∧ Bx 24 W gy (.bool false) (.slice none 0 0) ∧ w3.heap.size ≤ gy ∧ gx ≠ gy) → F 2 #[true, true, true, true, true, true, false, false] ((((a0.put (some 5) (.pointer (some ⟨gx, 0, none⟩))).put (some 6) (.pointer (some ⟨gy, 0, none⟩))).put (some 19) (.agg #[.bool pa, .slice Ax lx cx])).put (some 21) (.agg #[.bool pb, .slice Ay ly cy])) W := by
      intro W Ax lx cx Ay ly cy gx gy R
      refine (HF.out _ _ _ _).2 ?_; rw [HA.out]; try simp only [Act.put, List.setIfInBounds_toArray, List.set_cons_zero, List.set_cons_succ]
      obtain ⟨rW, rLx, rLy, rXx, rPx, rXy, rPy, rNxy⟩ := R.out
      refine rgReady [6] (rgOne (fun K hK => ?_) rgNil)
      obtain ⟨fa, fb, fc, fd⟩ := rXx.facts; go_simp; clear fa fb fc fd
      have rW2 := rW.put rXx rPx (.bool pa) (.slice Ax lx cx)
      refine hK.out _ _ ⟨(S3.out.2.2.2.2.2.1.keep rW2).facts.1, (S3.out.2.2.2.2.2.1.keep rW2).facts.2.1, (S3.out.2.2.2.2.2.2.1.keep rW2).facts.1, (S3.out.2.2.2.2.2.2.1.keep rW2).facts.2.1⟩ (fun _ => ?_); clear hK K
      have q := (HF.out _ _ _ _).1 (st2xy1 _ Ax lx cx Ay ly cy gx gy (Lib.hid ⟨rW2, rLx.put rXx (.bool pa) (.slice Ax lx cx), rLy.put rXx (.bool pa) (.slice Ax lx cx), rXx.set (.bool pa) (.slice Ax lx cx), rPx, rXy.other2 (rNxy) (.bool pa) (.slice Ax lx cx), rPy, rNxy⟩)); rw [HA.out] at q; simp only [Act.put, List.setIfInBounds_toArray, List.set_cons_zero, List.set_cons_succ] at q; try simp only [Act.put, List.setIfInBounds_toArray, List.set_cons_zero, List.set_cons_succ]; exact q
    have st2x : ∀ (W : World) (Ax : Option Addr) (lx : Nat) (cx : Nat) (Ay : Option Addr) (ly : Nat) (cy : Nat) (gx : Nat), Hid (Since w3 W ∧ Zl W (.agg #[.bool pa, .slice Ax lx cx]) pa xa ∧ Zl W (.agg #[.bool pb, .slice Ay ly cy]) pb xb ∧ Bx 24 W gx (.bool false) (.slice none 0 0) ∧ w3.heap.size ≤ gx) → F 3 #[true, true, true, true, true, false, false, false] (((a0.put (some 5) (.pointer (some ⟨gx, 0, none⟩))).put (some 19) (.agg #[.bool pa, .slice Ax lx cx])).put (some 21) (.agg #[.bool pb, .slice Ay ly cy])) W := by
      intro W Ax lx cx Ay ly cy gx R
      refine (HF.out _ _ _ _).2 ?_; rw [HA.out]; try simp only [Act.put, List.setIfInBounds_toArray, List.set_cons_zero, List.set_cons_succ]
      obtain ⟨rW, rLx, rLy, rXx, rPx⟩ := R.out
      refine rgReady [5] (rgOne (fun K hK => ?_) rgNil)
      have hal := below_al W (.cells #[.bool false, .slice none 0 0] 24); have rW2 := rW.keep hal
      go_simp; refine hK.out _ _ ⟨(S3.out.2.2.2.2.2.1.keep rW2).facts.1, (S3.out.2.2.2.2.2.1.keep rW2).facts.2.1, (S3.out.2.2.2.2.2.2.1.keep rW2).facts.1, (S3.out.2.2.2.2.2.2.1.keep rW2).facts.2.1⟩ (fun _ => ?_); clear hK K
      obtain ⟨gy, hg⟩ : ∃ g, g = W.heap.size := ⟨_, rfl⟩; rw [← hg]
      have q := (HF.out _ _ _ _).1 (st2xy _ Ax lx cx Ay ly cy gx gy (Lib.hid ⟨rW2, rLx.keep hal, rLy.keep hal, rXx.keep hal, rPx, by rw [hg]; exact Bx.new _ W _ _, by rw [hg]; exact rW.out.size, by rw [hg]; exact Nat.ne_of_lt rXx.lt⟩)); rw [HA.out] at q; simp only [Act.put, List.setIfInBounds_toArray, List.set_cons_zero, List.set_cons_succ] at q; try simp only [Act.put, List.setIfInBounds_toArray, List.set_cons_zero, List.set_cons_succ]; exact q
    have st2y : ∀ (W : World) (Ax : Option Addr) (lx : Nat) (cx : Nat) (Ay : Option Addr) (ly : Nat) (cy : Nat) (gy : Nat), Hid (Since w3 W ∧ Zl W (.agg #[.bool pa, .slice Ax lx cx]) pa xa ∧ Zl W (.agg #[.bool pb, .slice Ay ly cy]) pb xb ∧ Bx 24 W gy (.bool false) (.slice none 0 0) ∧ w3.heap.size ≤ gy) → F 3 #[true, true, true, true, false, true, false, false] (((a0.put (some 6) (.pointer (some ⟨gy, 0, none⟩))).put (some 19) (.agg #[.bool pa, .slice Ax lx cx])).put (some 21) (.agg #[.bool pb, .slice Ay ly cy])) W := by
      intro W Ax lx cx Ay ly cy gy R
      refine (HF.out _ _ _ _).2 ?_; rw [HA.out]; try simp only [Act.put, List.setIfInBounds_toArray, List.set_cons_zero, List.set_cons_succ]
      obtain ⟨rW, rLx, rLy, rXy, rPy⟩ := R.out
      refine rgReady [4] (rgOne (fun K hK => ?_) rgNil)
      have hal := below_al W (.cells #[.bool false, .slice none 0 0] 24); have rW2 := rW.keep hal
      go_simp; refine hK.out _ _ ⟨(S3.out.2.2.2.2.2.1.keep rW2).facts.1, (S3.out.2.2.2.2.2.1.keep rW2).facts.2.1, (S3.out.2.2.2.2.2.2.1.keep rW2).facts.1, (S3.out.2.2.2.2.2.2.1.keep rW2).facts.2.1⟩ (fun _ => ?_); clear hK K
      obtain ⟨gx, hg⟩ : ∃ g, g = W.heap.size := ⟨_, rfl⟩; rw [← hg]
      have q := (HF.out _ _ _ _).1 (st2xy _ Ax lx cx Ay ly cy gx gy (Lib.hid ⟨rW2, rLx.keep hal, rLy.keep hal, by rw [hg]; exact Bx.new _ W _ _, by rw [hg]; exact rW.out.size, rXy.keep hal, rPy, by rw [hg]; exact Nat.ne_of_gt rXy.lt⟩)); rw [HA.out] at q; simp only [Act.put, List.setIfInBounds_toArray, List.set_cons_zero, List.set_cons_succ] at q; try simp only [Act.put, List.setIfInBounds_toArray, List.set_cons_zero, List.set_cons_succ]; exact q
    have st2 : ∀ (W : World) (Ax : Option Addr) (lx : Nat) (cx : Nat) (Ay : Option Addr) (ly : Nat) (cy : Nat), Hid (Since w3 W ∧ Zl W (.agg #[.bool pa, .slice Ax lx cx]) pa xa ∧ Zl W (.agg #[.bool pb, .slice Ay ly cy]) pb xb) → F 4 #[true, true, true, true, false, false, false, false] ((a0.put (some 19) (.agg #[.bool pa, .slice Ax lx cx])).put (some 21) (.agg #[.bool pb, .slice Ay ly cy])) W := by
      intro W Ax lx cx Ay ly cy R
      refine (HF.out _ _ _ _).2 ?_; rw [HA.out]; try simp only [Act.put, List.setIfInBounds_toArray, List.set_cons_zero, List.set_cons_succ]
      obtain ⟨rW, rLx, rLy⟩ := R.out
      refine rgReady [4, 5] (rgOne (fun K hK => ?_) (rgOne (fun K hK => ?_) rgNil))
      ·
        have hal := below_al W (.cells #[.bool false, .slice none 0 0] 24); have rW2 := rW.keep hal
        go_simp; refine hK.out _ _ ⟨(S3.out.2.2.2.2.2.1.keep rW2).facts.1, (S3.out.2.2.2.2.2.1.keep rW2).facts.2.1, (S3.out.2.2.2.2.2.2.1.keep rW2).facts.1, (S3.out.2.2.2.2.2.2.1.keep rW2).facts.2.1⟩ (fun _ => ?_); clear hK K
        obtain ⟨gx, hg⟩ : ∃ g, g = W.heap.size := ⟨_, rfl⟩; rw [← hg]
        have q := (HF.out _ _ _ _).1 (st2x _ Ax lx cx Ay ly cy gx (Lib.hid ⟨rW2, rLx.keep hal, rLy.keep hal, by rw [hg]; exact Bx.new _ W _ _, by rw [hg]; exact rW.out.size⟩)); rw [HA.out] at q; simp only [Act.put, List.setIfInBounds_toArray, List.set_cons_zero, List.set_cons_succ] at q; try simp only [Act.put, List.setIfInBounds_toArray, List.set_cons_zero, List.set_cons_succ]; exact q
      ·
        have hal := below_al W (.cells #[.bool false, .slice none 0 0] 24); have rW2 := rW.keep hal
        go_simp; refine hK.out _ _ ⟨(S3.out.2.2.2.2.2.1.keep rW2).facts.1, (S3.out.2.2.2.2.2.1.keep rW2).facts.2.1, (S3.out.2.2.2.2.2.2.1.keep rW2).facts.1, (S3.out.2.2.2.2.2.2.1.keep rW2).facts.2.1⟩ (fun _ => ?_); clear hK K
        obtain ⟨gy, hg⟩ : ∃ g, g = W.heap.size := ⟨_, rfl⟩; rw [← hg]
        have q := (HF.out _ _ _ _).1 (st2y _ Ax lx cx Ay ly cy gy (Lib.hid ⟨rW2, rLx.keep hal, rLy.keep hal, by rw [hg]; exact Bx.new _ W _ _, by rw [hg]; exact rW.out.size⟩)); rw [HA.out] at q; simp only [Act.put, List.setIfInBounds_toArray, List.set_cons_zero, List.set_cons_succ] at q; try simp only [Act.put, List.setIfInBounds_toArray, List.set_cons_zero, List.set_cons_succ]; exact q
    have st1xy : ∀ (W : World) (Ax : Option Addr) (lx : Nat) (cx : Nat) (gx : Nat) (gy : Nat), Hid (Since w3 W ∧ Zl W (.agg #[.bool pa, .slice Ax lx cx]) pa xa ∧ Bx 24 W gx (.bool false) (.slice none 0 0) ∧ w3.heap.size ≤ gx ∧ Bx 24 W gy (.bool false) (.slice none 0 0) ∧ w3.heap.size ≤ gy ∧ gx ≠ gy) → F 3 #[true, true, true, false, true, true, false, false] (((a0.put (some 5) (.pointer (some ⟨gx, 0, none⟩))).put (some 6) (.pointer (some ⟨gy, 0, none⟩))).put (some 19) (.agg #[.bool pa, .slice Ax lx cx])) W := by
      intro W Ax lx cx gx gy R
      refine (HF.out _ _ _ _).2 ?_; rw [HA.out]; try simp only [Act.put, List.setIfInBounds_toArray, List.set_cons_zero, List.set_cons_succ]
      obtain ⟨rW, rLx, rXx, rPx, rXy, rPy, rNxy⟩ := R.out
      refine rgReady [3] (rgOne (fun K hK => ?_) rgNil)
      go_simp; go_at_call 14; refine (copy_z (S3.out.2.2.1.keep rW) (by have := HG.out; omega)).mono ?_; rintro e W2 ⟨v, rfl, h, hb⟩
      obtain ⟨Ay, ly, cy, rfl, -, h⟩ := h.parts
      have rW2 := rW.keep (hb)
      go_wp2_with fail
      refine hK.out _ _ ⟨(S3.out.2.2.2.2.2.1.keep rW2).facts.1, (S3.out.2.2.2.2.2.1.keep rW2).facts.2.1, (S3.out.2.2.2.2.2.2.1.keep rW2).facts.1, (S3.out.2.2.2.2.2.2.1.keep rW2).facts.2.1⟩ (fun _ => ?_); clear hK K
      have q := (HF.out _ _ _ _).1 (st2xy _ Ax lx cx Ay ly cy gx gy (Lib.hid ⟨rW2, rLx.keep (hb), h.out, rXx.keep (hb), rPx, rXy.keep (hb), rPy, rNxy⟩)); rw [HA.out] at q; simp only [Act.put, List.setIfInBounds_toArray, List.set_cons_zero, List.set_cons_succ] at q; try simp only [Act.put, List.setIfInBounds_toArray, List.set_cons_zero, List.set_cons_succ]; exact q
    have st1x : ∀ (W : World) (Ax : Option Addr) (lx : Nat) (cx : Nat) (gx : Nat), Hid (Since w3 W ∧ Zl W (.agg #[.bool pa, .slice Ax lx cx]) pa xa ∧ Bx 24 W gx (.bool false) (.slice none 0 0) ∧ w3.heap.size ≤ gx) → F 4 #[true, true, true, false, true, false, false, false] ((a0.put (some 5) (.pointer (some ⟨gx, 0, none⟩))).put (some 19) (.agg #[.bool pa, .slice Ax lx cx])) W := by
      intro W Ax lx cx gx R
      refine (HF.out _ _ _ _).2 ?_; rw [HA.out]; try simp only [Act.put, List.setIfInBounds_toArray, List.set_cons_zero, List.set_cons_succ]
      obtain ⟨rW, rLx, rXx, rPx⟩ := R.out
      refine rgReady [3, 5] (rgOne (fun K hK => ?_) (rgOne (fun K hK => ?_) rgNil))
      ·
        go_simp; go_at_call 14; refine (copy_z (S3.out.2.2.1.keep rW) (by have := HG.out; omega)).mono ?_; rintro e W2 ⟨v, rfl, h, hb⟩
        obtain ⟨Ay, ly, cy, rfl, -, h⟩ := h.parts
        have rW2 := rW.keep (hb)
        go_wp2_with fail
        refine hK.out _ _ ⟨(S3.out.2.2.2.2.2.1.keep rW2).facts.1, (S3.out.2.2.2.2.2.1.keep rW2).facts.2.1, (S3.out.2.2.2.2.2.2.1.keep rW2).facts.1, (S3.out.2.2.2.2.2.2.1.keep rW2).facts.2.1⟩ (fun _ => ?_); clear hK K
        have q := (HF.out _ _ _ _).1 (st2x _ Ax lx cx Ay ly cy gx (Lib.hid ⟨rW2, rLx.keep (hb), h.out, rXx.keep (hb), rPx⟩)); rw [HA.out] at q; simp only [Act.put, List.setIfInBounds_toArray, List.set_cons_zero, List.set_cons_succ] at q; try simp only [Act.put, List.setIfInBounds_toArray, List.set_cons_zero, List.set_cons_succ]; exact q
      ·
        have hal := below_al W (.cells #[.bool false, .slice none 0 0] 24); have rW2 := rW.keep hal
        go_simp; refine hK.out _ _ ⟨(S3.out.2.2.2.2.2.1.keep rW2).facts.1, (S3.out.2.2.2.2.2.1.keep rW2).facts.2.1, (S3.out.2.2.2.2.2.2.1.keep rW2).facts.1, (S3.out.2.2.2.2.2.2.1.keep rW2).facts.2.1⟩ (fun _ => ?_); clear hK K
        obtain ⟨gy, hg⟩ : ∃ g, g = W.heap.size := ⟨_, rfl⟩; rw [← hg]
        have q := (HF.out _ _ _ _).1 (st1xy _ Ax lx cx gx gy (Lib.hid ⟨rW2, rLx.keep hal, rXx.keep hal, rPx, by rw [hg]; exact Bx.new _ W _ _, by rw [hg]; exact rW.out.size, by rw [hg]; exact Nat.ne_of_lt rXx.lt⟩)); rw [HA.out] at q; simp only [Act.put, List.setIfInBounds_toArray, List.set_cons_zero, List.set_cons_succ] at q; try simp only [Act.put, List.setIfInBounds_toArray, List.set_cons_zero, List.set_cons_succ]; exact q
    have st1y : ∀ (W : World) (Ax : Option Addr) (lx : Nat) (cx : Nat) (gy : Nat), Hid (Since w3 W ∧ Zl W (.agg #[.bool pa, .slice Ax lx cx]) pa xa ∧ Bx 24 W gy (.bool false) (.slice none 0 0) ∧ w3.heap.size ≤ gy) → F 4 #[true, true, true, false, false, true, false, false] ((a0.put (some 6) (.pointer (some ⟨gy, 0, none⟩))).put (some 19) (.agg #[.bool pa, .slice Ax lx cx])) W := by
      intro W Ax lx cx gy R
      refine (HF.out _ _ _ _).2 ?_; rw [HA.out]; try simp only [Act.put, List.setIfInBounds_toArray, List.set_cons_zero, List.set_cons_succ]
      obtain ⟨rW, rLx, rXy, rPy⟩ := R.out
      refine rgReady [3, 4] (rgOne (fun K hK => ?_) (rgOne (fun K hK => ?_) rgNil))
      ·
        go_simp; go_at_call 14; refine (copy_z (S3.out.2.2.1.keep rW) (by have := HG.out; omega)).mono ?_; rintro e W2 ⟨v, rfl, h, hb⟩
        obtain ⟨Ay, ly, cy, rfl, -, h⟩ := h.parts
        have rW2 := rW.keep (hb)
        go_wp2_with fail
        refine hK.out _ _ ⟨(S3.out.2.2.2.2.2.1.keep rW2).facts.1, (S3.out.2.2.2.2.2.1.keep rW2).facts.2.1, (S3.out.2.2.2.2.2.2.1.keep rW2).facts.1, (S3.out.2.2.2.2.2.2.1.keep rW2).facts.2.1⟩ (fun _ => ?_); clear hK K
        have q := (HF.out _ _ _ _).1 (st2y _ Ax lx cx Ay ly cy gy (Lib.hid ⟨rW2, rLx.keep (hb), h.out, rXy.keep (hb), rPy⟩)); rw [HA.out] at q; simp only [Act.put, List.setIfInBounds_toArray, List.set_cons_zero, List.set_cons_succ] at q; try simp only [Act.put, List.setIfInBounds_toArray, List.set_cons_zero, List.set_cons_succ]; exact q
      ·
        have hal := below_al W (.cells #[.bool false, .slice none 0 0] 24); have rW2 := rW.keep hal
        go_simp; refine hK.out _ _ ⟨(S3.out.2.2.2.2.2.1.keep rW2).facts.1, (S3.out.2.2.2.2.2.1.keep rW2).facts.2.1, (S3.out.2.2.2.2.2.2.1.keep rW2).facts.1, (S3.out.2.2.2.2.2.2.1.keep rW2).facts.2.1⟩ (fun _ => ?_); clear hK K
        obtain ⟨gx, hg⟩ : ∃ g, g = W.heap.size := ⟨_, rfl⟩; rw [← hg]
        have q := (HF.out _ _ _ _).1 (st1xy _ Ax lx cx gx gy (Lib.hid ⟨rW2, rLx.keep hal, by rw [hg]; exact Bx.new _ W _ _, by rw [hg]; exact rW.out.size, rXy.keep hal, rPy, by rw [hg]; exact Nat.ne_of_gt rXy.lt⟩)); rw [HA.out] at q; simp only [Act.put, List.setIfInBounds_toArray, List.set_cons_zero, List.set_cons_succ] at q; try simp only [Act.put, List.setIfInBounds_toArray, List.set_cons_zero, List.set_cons_succ]; exact q
    have st1 : ∀ (W : World) (Ax : Option Addr) (lx : Nat) (cx : Nat), Hid (Since w3 W ∧ Zl W (.agg #[.bool pa, .slice Ax lx cx]) pa xa) → F 5 #[true, true, true, false, false, false, false, false] (a0.put (some 19) (.agg #[.bool pa, .slice Ax lx cx])) W := by
      intro W Ax lx cx R
      refine (HF.out _ _ _ _).2 ?_; rw [HA.out]; try simp only [Act.put, List.setIfInBounds_toArray, List.set_cons_zero, List.set_cons_succ]
      obtain ⟨rW, rLx⟩ := R.out
      refine rgReady [3, 4, 5] (rgOne (fun K hK => ?_) (rgOne (fun K hK => ?_) (rgOne (fun K hK => ?_) rgNil)))
      ·
        go_simp; go_at_call 14; refine (copy_z (S3.out.2.2.1.keep rW) (by have := HG.out; omega)).mono ?_; rintro e W2 ⟨v, rfl, h, hb⟩
        obtain ⟨Ay, ly, cy, rfl, -, h⟩ := h.parts
        have rW2 := rW.keep (hb)
        go_wp2_with fail
        refine hK.out _ _ ⟨(S3.out.2.2.2.2.2.1.keep rW2).facts.1, (S3.out.2.2.2.2.2.1.keep rW2).facts.2.1, (S3.out.2.2.2.2.2.2.1.keep rW2).facts.1, (S3.out.2.2.2.2.2.2.1.keep rW2).facts.2.1⟩ (fun _ => ?_); clear hK K
        have q := (HF.out _ _ _ _).1 (st2 _ Ax lx cx Ay ly cy (Lib.hid ⟨rW2, rLx.keep (hb), h.out⟩)); rw [HA.out] at q; simp only [Act.put, List.setIfInBounds_toArray, List.set_cons_zero, List.set_cons_succ] at q; try simp only [Act.put, List.setIfInBounds_toArray, List.set_cons_zero, List.set_cons_succ]; exact q
      ·
        have hal := below_al W (.cells #[.bool false, .slice none 0 0] 24); have rW2 := rW.keep hal
        go_simp; refine hK.out _ _ ⟨(S3.out.2.2.2.2.2.1.keep rW2).facts.1, (S3.out.2.2.2.2.2.1.keep rW2).facts.2.1, (S3.out.2.2.2.2.2.2.1.keep rW2).facts.1, (S3.out.2.2.2.2.2.2.1.keep rW2).facts.2.1⟩ (fun _ => ?_); clear hK K
        obtain ⟨gx, hg⟩ : ∃ g, g = W.heap.size := ⟨_, rfl⟩; rw [← hg]
        have q := (HF.out _ _ _ _).1 (st1x _ Ax lx cx gx (Lib.hid ⟨rW2, rLx.keep hal, by rw [hg]; exact Bx.new _ W _ _, by rw [hg]; exact rW.out.size⟩)); rw [HA.out] at q; simp only [Act.put, List.setIfInBounds_toArray, List.set_cons_zero, List.set_cons_succ] at q; try simp only [Act.put, List.setIfInBounds_toArray, List.set_cons_zero, List.set_cons_succ]; exact q
      ·
        have hal := below_al W (.cells #[.bool false, .slice none 0 0] 24); have rW2 := rW.keep hal
        go_simp; refine hK.out _ _ ⟨(S3.out.2.2.2.2.2.1.keep rW2).facts.1, (S3.out.2.2.2.2.2.1.keep rW2).facts.2.1, (S3.out.2.2.2.2.2.2.1.keep rW2).facts.1, (S3.out.2.2.2.2.2.2.1.keep rW2).facts.2.1⟩ (fun _ => ?_); clear hK K
        obtain ⟨gy, hg⟩ : ∃ g, g = W.heap.size := ⟨_, rfl⟩; rw [← hg]
        have q := (HF.out _ _ _ _).1 (st1y _ Ax lx cx gy (Lib.hid ⟨rW2, rLx.keep hal, by rw [hg]; exact Bx.new _ W _ _, by rw [hg]; exact rW.out.size⟩)); rw [HA.out] at q; simp only [Act.put, List.setIfInBounds_toArray, List.set_cons_zero, List.set_cons_succ] at q; try simp only [Act.put, List.setIfInBounds_toArray, List.set_cons_zero, List.set_cons_succ]; exact q
    have st0xy : ∀ (W : World) (gx : Nat) (gy : Nat), Hid (Since w3 W ∧ Bx 24 W gx (.bool false) (.slice none 0 0) ∧ w3.heap.size ≤ gx ∧ Bx 24 W gy (.bool false) (.slice none 0 0) ∧ w3.heap.size ≤ gy ∧ gx ≠ gy) → F 4 #[true, false, true, false, true, true, false, false] ((a0.put (some 5) (.pointer (some ⟨gx, 0, none⟩))).put (some 6) (.pointer (some ⟨gy, 0, none⟩))) W := by
      intro W gx gy R
      refine (HF.out _ _ _ _).2 ?_; rw [HA.out]; try simp only [Act.put, List.setIfInBounds_toArray, List.set_cons_zero, List.set_cons_succ]
      obtain ⟨rW, rXx, rPx, rXy, rPy, rNxy⟩ := R.out
      refine rgReady [1] (rgOne (fun K hK => ?_) rgNil)
      go_simp; go_at_call 14; refine (copy_z (S3.out.2.1.keep rW) (by have := HG.out; omega)).mono ?_; rintro e W2 ⟨v, rfl, h, hb⟩
      obtain ⟨Ax, lx, cx, rfl, -, h⟩ := h.parts
      have rW2 := rW.keep (hb)
      go_wp2_with fail
      refine hK.out _ _ ⟨(S3.out.2.2.2.2.2.1.keep rW2).facts.1, (S3.out.2.2.2.2.2.1.keep rW2).facts.2.1, (S3.out.2.2.2.2.2.2.1.keep rW2).facts.1, (S3.out.2.2.2.2.2.2.1.keep rW2).facts.2.1⟩ (fun _ => ?_); clear hK K
      have q := (HF.out _ _ _ _).1 (st1xy _ Ax lx cx gx gy (Lib.hid ⟨rW2, h.out, rXx.keep (hb), rPx, rXy.keep (hb), rPy, rNxy⟩)); rw [HA.out] at q; simp only [Act.put, List.setIfInBounds_toArray, List.set_cons_zero, List.set_cons_succ] at q; try simp only [Act.put, List.setIfInBounds_toArray, List.set_cons_zero, List.set_cons_succ]; exact q
    have st0x : ∀ (W : World) (gx : Nat), Hid (Since w3 W ∧ Bx 24 W gx (.bool false) (.slice none 0 0) ∧ w3.heap.size ≤ gx) → F 5 #[true, false, true, false, true, false, false, false] (a0.put (some 5) (.pointer (some ⟨gx, 0, none⟩))) W := by
      intro W gx R
      refine (HF.out _ _ _ _).2 ?_; rw [HA.out]; try simp only [Act.put, List.setIfInBounds_toArray, List.set_cons_zero, List.set_cons_succ]
      obtain ⟨rW, rXx, rPx⟩ := R.out
      refine rgReady [1, 5] (rgOne (fun K hK => ?_) (rgOne (fun K hK => ?_) rgNil))
      ·
        go_simp; go_at_call 14; refine (copy_z (S3.out.2.1.keep rW) (by have := HG.out; omega)).mono ?_; rintro e W2 ⟨v, rfl, h, hb⟩
        obtain ⟨Ax, lx, cx, rfl, -, h⟩ := h.parts
        have rW2 := rW.keep (hb)
        go_wp2_with fail
        refine hK.out _ _ ⟨(S3.out.2.2.2.2.2.1.keep rW2).facts.1, (S3.out.2.2.2.2.2.1.keep rW2).facts.2.1, (S3.out.2.2.2.2.2.2.1.keep rW2).facts.1, (S3.out.2.2.2.2.2.2.1.keep rW2).facts.2.1⟩ (fun _ => ?_); clear hK K
        have q := (HF.out _ _ _ _).1 (st1x _ Ax lx cx gx (Lib.hid ⟨rW2, h.out, rXx.keep (hb), rPx⟩)); rw [HA.out] at q; simp only [Act.put, List.setIfInBounds_toArray, List.set_cons_zero, List.set_cons_succ] at q; try simp only [Act.put, List.setIfInBounds_toArray, List.set_cons_zero, List.set_cons_succ]; exact q
      ·
        have hal := below_al W (.cells #[.bool false, .slice none 0 0] 24); have rW2 := rW.keep hal
        go_simp; refine hK.out _ _ ⟨(S3.out.2.2.2.2.2.1.keep rW2).facts.1, (S3.out.2.2.2.2.2.1.keep rW2).facts.2.1, (S3.out.2.2.2.2.2.2.1.keep rW2).facts.1, (S3.out.2.2.2.2.2.2.1.keep rW2).facts.2.1⟩ (fun _ => ?_); clear hK K
        obtain ⟨gy, hg⟩ : ∃ g, g = W.heap.size := ⟨_, rfl⟩; rw [← hg]
        have q := (HF.out _ _ _ _).1 (st0xy _ gx gy (Lib.hid ⟨rW2, rXx.keep hal, rPx, by rw [hg]; exact Bx.new _ W _ _, by rw [hg]; exact rW.out.size, by rw [hg]; exact Nat.ne_of_lt rXx.lt⟩)); rw [HA.out] at q; simp only [Act.put, List.setIfInBounds_toArray, List.set_cons_zero, List.set_cons_succ] at q; try simp only [Act.put, List.setIfInBounds_toArray, List.set_cons_zero, List.set_cons_succ]; exact q
    have st0y : ∀ (W : World) (gy : Nat), Hid (Since w3 W ∧ Bx 24 W gy (.bool false) (.slice none 0 0) ∧ w3.heap.size ≤ gy) → F 5 #[true, false, true, false, false, true, false, false] (a0.put (some 6) (.pointer (some ⟨gy, 0, none⟩))) W := by
      intro W gy R
      refine (HF.out _ _ _ _).2 ?_; rw [HA.out]; try simp only [Act.put, List.setIfInBounds_toArray, List.set_cons_zero, List.set_cons_succ]
      obtain ⟨rW, rXy, rPy⟩ := R.out
      refine rgReady [1, 4] (rgOne (fun K hK => ?_) (rgOne (fun K hK => ?_) rgNil))
      ·
        go_simp; go_at_call 14; refine (copy_z (S3.out.2.1.keep rW) (by have := HG.out; omega)).mono ?_; rintro e W2 ⟨v, rfl, h, hb⟩
        obtain ⟨Ax, lx, cx, rfl, -, h⟩ := h.parts
        have rW2 := rW.keep (hb)
        go_wp2_with fail
        refine hK.out _ _ ⟨(S3.out.2.2.2.2.2.1.keep rW2).facts.1, (S3.out.2.2.2.2.2.1.keep rW2).facts.2.1, (S3.out.2.2.2.2.2.2.1.keep rW2).facts.1, (S3.out.2.2.2.2.2.2.1.keep rW2).facts.2.1⟩ (fun _ => ?_); clear hK K
        have q := (HF.out _ _ _ _).1 (st1y _ Ax lx cx gy (Lib.hid ⟨rW2, h.out, rXy.keep (hb), rPy⟩)); rw [HA.out] at q; simp only [Act.put, List.setIfInBounds_toArray, List.set_cons_zero, List.set_cons_succ] at q; try simp only [Act.put, List.setIfInBounds_toArray, List.set_cons_zero, List.set_cons_succ]; exact q
      ·
        have hal := below_al W (.cells #[.bool false, .slice none 0 0] 24); have rW2 := rW.keep hal
        go_simp; refine hK.out _ _ ⟨(S3.out.2.2.2.2.2.1.keep rW2).facts.1, (S3.out.2.2.2.2.2.1.keep rW2).facts.2.1, (S3.out.2.2.2.2.2.2.1.keep rW2).facts.1, (S3.out.2.2.2.2.2.2.1.keep rW2).facts.2.1⟩ (fun _ => ?_); clear hK K
        obtain ⟨gx, hg⟩ : ∃ g, g = W.heap.size := ⟨_, rfl⟩; rw [← hg]
        have q := (HF.out _ _ _ _).1 (st0xy _ gx gy (Lib.hid ⟨rW2, by rw [hg]; exact Bx.new _ W _ _, by rw [hg]; exact rW.out.size, rXy.keep hal, rPy, by rw [hg]; exact Nat.ne_of_gt rXy.lt⟩)); rw [HA.out] at q; simp only [Act.put, List.setIfInBounds_toArray, List.set_cons_zero, List.set_cons_succ] at q; try simp only [Act.put, List.setIfInBounds_toArray, List.set_cons_zero, List.set_cons_succ]; exact q
    have st0 : ∀ (W : World), Hid (Since w3 W) → F 6 #[true, false, true, false, false, false, false, false] a0 W := by
      intro W  R
      refine (HF.out _ _ _ _).2 ?_; rw [HA.out]; try simp only [Act.put, List.setIfInBounds_toArray, List.set_cons_zero, List.set_cons_succ]
      have rW := R.out
      refine rgReady [1, 4, 5] (rgOne (fun K hK => ?_) (rgOne (fun K hK => ?_) (rgOne (fun K hK => ?_) rgNil)))
      ·
        go_simp; go_at_call 14; refine (copy_z (S3.out.2.1.keep rW) (by have := HG.out; omega)).mono ?_; rintro e W2 ⟨v, rfl, h, hb⟩
        obtain ⟨Ax, lx, cx, rfl, -, h⟩ := h.parts
        have rW2 := rW.keep (hb)
        go_wp2_with fail
        refine hK.out _ _ ⟨(S3.out.2.2.2.2.2.1.keep rW2).facts.1, (S3.out.2.2.2.2.2.1.keep rW2).facts.2.1, (S3.out.2.2.2.2.2.2.1.keep rW2).facts.1, (S3.out.2.2.2.2.2.2.1.keep rW2).facts.2.1⟩ (fun _ => ?_); clear hK K
        have q := (HF.out _ _ _ _).1 (st1 _ Ax lx cx (Lib.hid ⟨rW2, h.out⟩)); rw [HA.out] at q; simp only [Act.put, List.setIfInBounds_toArray, List.set_cons_zero, List.set_cons_succ] at q; try simp only [Act.put, List.setIfInBounds_toArray, List.set_cons_zero, List.set_cons_succ]; exact q
      ·
        have hal := below_al W (.cells #[.bool false, .slice none 0 0] 24); have rW2 := rW.keep hal
        go_simp; refine hK.out _ _ ⟨(S3.out.2.2.2.2.2.1.keep rW2).facts.1, (S3.out.2.2.2.2.2.1.keep rW2).facts.2.1, (S3.out.2.2.2.2.2.2.1.keep rW2).facts.1, (S3.out.2.2.2.2.2.2.1.keep rW2).facts.2.1⟩ (fun _ => ?_); clear hK K
        obtain ⟨gx, hg⟩ : ∃ g, g = W.heap.size := ⟨_, rfl⟩; rw [← hg]
        have q := (HF.out _ _ _ _).1 (st0x _ gx (Lib.hid ⟨rW2, by rw [hg]; exact Bx.new _ W _ _, by rw [hg]; exact rW.out.size⟩)); rw [HA.out] at q; simp only [Act.put, List.setIfInBounds_toArray, List.set_cons_zero, List.set_cons_succ] at q; try simp only [Act.put, List.setIfInBounds_toArray, List.set_cons_zero, List.set_cons_succ]; exact q
      ·
        have hal := below_al W (.cells #[.bool false, .slice none 0 0] 24); have rW2 := rW.keep hal
        go_simp; refine hK.out _ _ ⟨(S3.out.2.2.2.2.2.1.keep rW2).facts.1, (S3.out.2.2.2.2.2.1.keep rW2).facts.2.1, (S3.out.2.2.2.2.2.2.1.keep rW2).facts.1, (S3.out.2.2.2.2.2.2.1.keep rW2).facts.2.1⟩ (fun _ => ?_); clear hK K
        obtain ⟨gy, hg⟩ : ∃ g, g = W.heap.size := ⟨_, rfl⟩; rw [← hg]
        have q := (HF.out _ _ _ _).1 (st0y _ gy (Lib.hid ⟨rW2, by rw [hg]; exact Bx.new _ W _ _, by rw [hg]; exact rW.out.size⟩)); rw [HA.out] at q; simp only [Act.put, List.setIfInBounds_toArray, List.set_cons_zero, List.set_cons_succ] at q; try simp only [Act.put, List.setIfInBounds_toArray, List.set_cons_zero, List.set_cons_succ]; exact q
    exact st0 Wd R0
  case rest =>
    obtain ⟨gx, gy, Ax, lx, cx, Ay, ly, cy, rfl, rfl, hs, h0, h1, h2, h3⟩ := hcut
    have S4 := Lib.hid (And.intro (S3.out.1.keep hs) (And.intro (S3.out.2.1.keep hs) (And.intro (S3.out.2.2.1.keep hs) (And.intro (S3.out.2.2.2.1.keep hs) (And.intro (S3.out.2.2.2.2.1.keep hs) (And.intro (S3.out.2.2.2.2.2.1.keep hs) (And.intro (S3.out.2.2.2.2.2.2.1.keep hs) (And.intro (hs) (And.intro (h0) (And.intro (h1) (And.intro (h2) (And.intro (h3) (below_trans (S3.out.2.2.2.2.2.2.2) hs)))))))))))))
    clear hs h0 h1 h2 h3 HW S3
    generalize wc = V4 at S4 ⊢
    have HW := Lib.hid (Since.refl V4)
    go_upto_region 6 with (fail)
    go_cut [7, 8] (fun s7 s8 wx => ∃ (gm : Nat) (gn : Nat) (pm : Bool) (Am : Option Addr) (lm : Nat) (cm : Nat) (pn : Bool) (An : Option Addr) (ln : Nat) (cn : Nat), s7 = .pointer (some ⟨gm, 0, none⟩) ∧ s8 = .pointer (some ⟨gn, 0, none⟩) ∧ Since V4 wx ∧ Bx 33 wx gm (.bool pm) (.slice Am lm cm) ∧ Bx 33 wx gn (.bool pn) (.slice An ln cn) ∧ I.Zd wx 60 (.agg #[.bool pm, .slice Am lm cm]) x ∧ I.Zd wx 60 (.agg #[.bool pn, .slice An ln cn]) y)
    case first =>
      refine wp_region_held_drew (S := fun W => W.cell? ⟨w.heap.size, 0, none⟩ = some (.bool pa) ∧ W.cell? ⟨w.heap.size, 1, none⟩ = some (.slice Aa na ca) ∧ W.cell? ⟨w.heap.size + 1, 0, none⟩ = some (.bool pb) ∧ W.cell? ⟨w.heap.size + 1, 1, none⟩ = some (.slice Ab nb cb)) (by kernel_rfl) ⟨(S4.out.2.2.2.2.2.1.keep (below_dr _ 1)).facts.1, (S4.out.2.2.2.2.2.1.keep (below_dr _ 1)).facts.2.1, (S4.out.2.2.2.2.2.2.1.keep (below_dr _ 1)).facts.1, (S4.out.2.2.2.2.2.2.1.keep (below_dr _ 1)).facts.2.1⟩ (fun hHeld => ?_)
      refine rgTake 0 hHeld ?_; try simp only [Act.put, List.setIfInBounds_toArray, List.set_cons_zero, List.set_cons_succ]
      refine rgTake 2 hHeld ?_; try simp only [Act.put, List.setIfInBounds_toArray, List.set_cons_zero, List.set_cons_succ]
      have R0 := Lib.hid (show Since V4 V4.drew from HW.out.keep (below_dr _ 1))
      generalize V4.drew = Wd at R0 hHeld ⊢
      refine wpAnyH_ctx (fun F hF => ?_)
      have HF := Lib.hid hF
      clear hF
      refine act_ctx (G := fun a => F _ _ a Wd) (fun a0 ha0 => ?_)
      have HA := Lib.hid ha0
      clear ha0 hHeld
      have st2mn2 : ∀ (W : World) (pm : Bool) (Am : Option Addr) (lm : Nat) (cm : Nat) (pn : Bool) (An : Option Addr) (ln : Nat) (cn : Nat) (gm : Nat) (gn : Nat), Hid (Since V4 W ∧ I.Zd W 60 (.agg #[.bool pm, .slice Am lm cm]) x ∧ I.Zd W 60 (.agg #[.bool pn, .slice An ln cn]) y ∧ Bx 33 W gm (.bool pm) (.slice Am lm cm) ∧ V4.heap.size ≤ gm ∧ Bx 33 W gn (.bool pn) (.slice An ln cn) ∧ V4.heap.size ≤ gn ∧ gm ≠ gn) → F 0 #[true, true, true, true, true, true, true, true] ((((a0.put (some 7) (.pointer (some ⟨gm, 0, none⟩))).put (some 8) (.pointer (some ⟨gn, 0, none⟩))).put (some 23) (.agg #[.bool pm, .slice Am lm cm])).put (some 25) (.agg #[.bool pn, .slice An ln cn])) W := by
        intro W pm Am lm cm pn An ln cn gm gn R
        refine (HF.out _ _ _ _).2 ?_; rw [HA.out]; try simp only [Act.put, List.setIfInBounds_toArray, List.set_cons_zero, List.set_cons_succ]
        obtain ⟨rW, rdm, rdn, rXm, rPm, rXn, rPn, rNmn⟩ := R.out
        refine wpAnyH_done (by kernel_rfl) ?_ _; go_wp2_with fail; go_meet
        exact ⟨_, _, _, _, _, _, _, _, _, _, rfl, rfl, rW, rXm, rXn, rdm, rdn⟩
      have st2mn1 : ∀ (W : World) (pm : Bool) (Am : Option Addr) (lm : Nat) (cm : Nat) (pn : Bool) (An : Option Addr) (ln : Nat) (cn : Nat) (gm : Nat) (gn : Nat), Hid (Since V4 W ∧ I.Zd W 60 (.agg #[.bool pm, .slice Am lm cm]) x ∧ I.Zd W 60 (.agg #[.bool pn, .slice An ln cn]) y ∧ Bx 33 W gm (.bool pm) (.slice Am lm cm) ∧ V4.heap.size ≤ gm ∧ Bx 33 W gn (.bool false) (.slice none 0 0) ∧ V4.heap.size ≤ gn ∧ gm ≠ gn) → F 1 #[true, true, true, true, true, true, true, false] ((((a0.put (some 7) (.pointer (some ⟨gm, 0, none⟩))).put (some 8) (.pointer (some ⟨gn, 0, none⟩))).put (some 23) (.agg #[.bool pm, .slice Am lm cm])).put (some 25) (.agg #[.bool pn, .slice An ln cn])) W := by
        intro W pm Am lm cm pn An ln cn gm gn R
        refine (HF.out _ _ _ _).2 ?_; rw [HA.out]; try simp only [Act.put, List.setIfInBounds_toArray, List.set_cons_zero, List.set_cons_succ]
        obtain ⟨rW, rdm, rdn, rXm, rPm, rXn, rPn, rNmn⟩ := R.out
        refine rgReady [7] (rgOne (fun K hK => ?_) rgNil)
        obtain ⟨fa, fb, fc, fd⟩ := rXn.facts; go_simp; clear fa fb fc fd
        have rW2 := rW.put rXn rPn (.bool pn) (.slice An ln cn)
        refine hK.out _ _ ⟨(S4.out.2.2.2.2.2.1.keep rW2).facts.1, (S4.out.2.2.2.2.2.1.keep rW2).facts.2.1, (S4.out.2.2.2.2.2.2.1.keep rW2).facts.1, (S4.out.2.2.2.2.2.2.1.keep rW2).facts.2.1⟩ (fun _ => ?_); clear hK K
        have q := (HF.out _ _ _ _).1 (st2mn2 _ pm Am lm cm pn An ln cn gm gn (Lib.hid ⟨rW2, rdm.put rXn (.bool pn) (.slice An ln cn), rdn.put rXn (.bool pn) (.slice An ln cn), rXm.other2 (Ne.symm rNmn) (.bool pn) (.slice An ln cn), rPm, rXn.set (.bool pn) (.slice An ln cn), rPn, rNmn⟩)); rw [HA.out] at q; simp only [Act.put, List.setIfInBounds_toArray, List.set_cons_zero, List.set_cons_succ] at q; try simp only [Act.put, List.setIfInBounds_toArray, List.set_cons_zero, List.set_cons_succ]; exact q
      have st2mn : ∀ (W : World) (pm : Bool) (Am : Option Addr) (lm : Nat) (cm : Nat) (pn : Bool) (An : Option Addr) (ln : Nat) (cn : Nat) (gm : Nat) (gn : Nat), Hid (Since V4 W ∧ I.Zd W 60 (.agg #[.bool pm, .slice Am lm cm]) x ∧ I.Zd W 60 (.agg #[.bool pn, .slice An ln cn]) y ∧ Bx 33 W gm (.bool false) (.slice none 0 0) ∧ V4.heap.size ≤ gm ∧ Bx 33 W gn (.bool false) (.slice none 0 0) ∧ V4.heap.size ≤ gn ∧ gm ≠ gn) → F 2 #[true, true, true, true, true, true, false, false] ((((a0.put (some 7) (.pointer (some ⟨gm, 0, none⟩))).put (some 8) (.pointer (some ⟨gn, 0, none⟩))).put (some 23) (.agg #[.bool pm, .slice Am lm cm])).put (some 25) (.agg #[.bool pn, .slice An ln cn])) W := by
        intro W pm Am lm cm pn An ln cn gm gn R
        refine (HF.out _ _ _ _).2 ?_; rw [HA.out]; try simp only [Act.put, List.setIfInBounds_toArray, List.set_cons_zero, List.set_cons_succ]
        obtain ⟨rW, rdm, rdn, rXm, rPm, rXn, rPn, rNmn⟩ := R.out
        refine rgReady [6] (rgOne (fun K hK => ?_) rgNil)
        obtain ⟨fa, fb, fc, fd⟩ := rXm.facts; go_simp; clear fa fb fc fd
        have rW2 := rW.put rXm rPm (.bool pm) (.slice Am lm cm)
        refine hK.out _ _ ⟨(S4.out.2.2.2.2.2.1.keep rW2).facts.1, (S4.out.2.2.2.2.2.1.keep rW2).facts.2.1, (S4.out.2.2.2.2.2.2.1.keep rW2).facts.1, (S4.out.2.2.2.2.2.2.1.keep rW2).facts.2.1⟩ (fun _ => ?_); clear hK K
        have q := (HF.out _ _ _ _).1 (st2mn1 _ pm Am lm cm pn An ln cn gm gn (Lib.hid ⟨rW2, rdm.put rXm (.bool pm) (.slice Am lm cm), rdn.put rXm (.bool pm) (.slice Am lm cm), rXm.set (.bool pm) (.slice Am lm cm), rPm, rXn.other2 (rNmn) (.bool pm) (.slice Am lm cm), rPn, rNmn⟩)); rw [HA.out] at q; simp only [Act.put, List.setIfInBounds_toArray, List.set_cons_zero, List.set_cons_succ] at q; try simp only [Act.put, List.setIfInBounds_toArray, List.set_cons_zero, List.set_cons_succ]; exact q
      have st2m : ∀ (W : World) (pm : Bool) (Am : Option Addr) (lm : Nat) (cm : Nat) (pn : Bool) (An : Option Addr) (ln : Nat) (cn : Nat) (gm : Nat), Hid (Since V4 W ∧ I.Zd W 60 (.agg #[.bool pm, .slice Am lm cm]) x ∧ I.Zd W 60 (.agg #[.bool pn, .slice An ln cn]) y ∧ Bx 33 W gm (.bool false) (.slice none 0 0) ∧ V4.heap.size ≤ gm) → F 3 #[true, true, true, true, true, false, false, false] (((a0.put (some 7) (.pointer (some ⟨gm, 0, none⟩))).put (some 23) (.agg #[.bool pm, .slice Am lm cm])).put (some 25) (.agg #[.bool pn, .slice An ln cn])) W := by
        intro W pm Am lm cm pn An ln cn gm R
        refine (HF.out _ _ _ _).2 ?_; rw [HA.out]; try simp only [Act.put, List.setIfInBounds_toArray, List.set_cons_zero, List.set_cons_succ]
        obtain ⟨rW, rdm, rdn, rXm, rPm⟩ := R.out
        refine rgReady [5] (rgOne (fun K hK => ?_) rgNil)
        have hal := below_al W (.cells #[.bool false, .slice none 0 0] 33); have rW2 := rW.keep hal
        go_simp; refine hK.out _ _ ⟨(S4.out.2.2.2.2.2.1.keep rW2).facts.1, (S4.out.2.2.2.2.2.1.keep rW2).facts.2.1, (S4.out.2.2.2.2.2.2.1.keep rW2).facts.1, (S4.out.2.2.2.2.2.2.1.keep rW2).facts.2.1⟩ (fun _ => ?_); clear hK K
        obtain ⟨gn, hg⟩ : ∃ g, g = W.heap.size := ⟨_, rfl⟩; rw [← hg]
        have q := (HF.out _ _ _ _).1 (st2mn _ pm Am lm cm pn An ln cn gm gn (Lib.hid ⟨rW2, rdm.keep hal, rdn.keep hal, rXm.keep hal, rPm, by rw [hg]; exact Bx.new _ W _ _, by rw [hg]; exact rW.out.size, by rw [hg]; exact Nat.ne_of_lt rXm.lt⟩)); rw [HA.out] at q; simp only [Act.put, List.setIfInBounds_toArray, List.set_cons_zero, List.set_cons_succ] at q; try simp only [Act.put, List.setIfInBounds_toArray, List.set_cons_zero, List.set_cons_succ]; exact q
      have st2n : ∀ (W : World) (pm : Bool) (Am : Option Addr) (lm : Nat) (cm : Nat) (pn : Bool) (An : Option Addr) (ln : Nat) (cn : Nat) (gn : Nat), Hid (Since V4 W ∧ I.Zd W 60 (.agg #[.bool pm, .slice Am lm cm]) x ∧ I.Zd W 60 (.agg #[.bool pn, .slice An ln cn]) y ∧ Bx 33 W gn (.bool false) (.slice none 0 0) ∧ V4.heap.size ≤ gn) → F 3 #[true, true, true, true, false, true, false, false] (((a0.put (some 8) (.pointer (some ⟨gn, 0, none⟩))).put (some 23) (.agg #[.bool pm, .slice Am lm cm])).put (some 25) (.agg #[.bool pn, .slice An ln cn])) W := by
        intro W pm Am lm cm pn An ln cn gn R
        refine (HF.out _ _ _ _).2 ?_; rw [HA.out]; try simp only [Act.put, List.setIfInBounds_toArray, List.set_cons_zero, List.set_cons_succ]
        obtain ⟨rW, rdm, rdn, rXn, rPn⟩ := R.out
        refine rgReady [4] (rgOne (fun K hK => ?_) rgNil)
        have hal := below_al W (.cells #[.bool false, .slice none 0 0] 33); have rW2 := rW.keep hal
        go_simp; refine hK.out _ _ ⟨(S4.out.2.2.2.2.2.1.keep rW2).facts.1, (S4.out.2.2.2.2.2.1.keep rW2).facts.2.1, (S4.out.2.2.2.2.2.2.1.keep rW2).facts.1, (S4.out.2.2.2.2.2.2.1.keep rW2).facts.2.1⟩ (fun _ => ?_); clear hK K
        obtain ⟨gm, hg⟩ : ∃ g, g = W.heap.size := ⟨_, rfl⟩; rw [← hg]
        have q := (HF.out _ _ _ _).1 (st2mn _ pm Am lm cm pn An ln cn gm gn (Lib.hid ⟨rW2, rdm.keep hal, rdn.keep hal, by rw [hg]; exact Bx.new _ W _ _, by rw [hg]; exact rW.out.size, rXn.keep hal, rPn, by rw [hg]; exact Nat.ne_of_gt rXn.lt⟩)); rw [HA.out] at q; simp only [Act.put, List.setIfInBounds_toArray, List.set_cons_zero, List.set_cons_succ] at q; try simp only [Act.put, List.setIfInBounds_toArray, List.set_cons_zero, List.set_cons_succ]; exact q
      have st2 : ∀ (W : World) (pm : Bool) (Am : Option Addr) (lm : Nat) (cm : Nat) (pn : Bool) (An : Option Addr) (ln : Nat) (cn : Nat), Hid (Since V4 W ∧ I.Zd W 60 (.agg #[.bool pm, .slice Am lm cm]) x ∧ I.Zd W 60 (.agg #[.bool pn, .slice An ln cn]) y) → F 4 #[true, true, true, true, false, false, false, false] ((a0.put (some 23) (.agg #[.bool pm, .slice Am lm cm])).put (some 25) (.agg #[.bool pn, .slice An ln cn])) W := by
        intro W pm Am lm cm pn An ln cn R
        refine (HF.out _ _ _ _).2 ?_; rw [HA.out]; try simp only [Act.put, List.setIfInBounds_toArray, List.set_cons_zero, List.set_cons_succ]
        obtain ⟨rW, rdm, rdn⟩ := R.out
        refine rgReady [4, 5] (rgOne (fun K hK => ?_) (rgOne (fun K hK => ?_) rgNil))
        ·
          have hal := below_al W (.cells #[.bool false, .slice none 0 0] 33); have rW2 := rW.keep hal
          go_simp; refine hK.out _ _ ⟨(S4.out.2.2.2.2.2.1.keep rW2).facts.1, (S4.out.2.2.2.2.2.1.keep rW2).facts.2.1, (S4.out.2.2.2.2.2.2.1.keep rW2).facts.1, (S4.out.2.2.2.2.2.2.1.keep rW2).facts.2.1⟩ (fun _ => ?_); clear hK K
          obtain ⟨gm, hg⟩ : ∃ g, g = W.heap.size := ⟨_, rfl⟩; rw [← hg]
          have q := (HF.out _ _ _ _).1 (st2m _ pm Am lm cm pn An ln cn gm (Lib.hid ⟨rW2, rdm.keep hal, rdn.keep hal, by rw [hg]; exact Bx.new _ W _ _, by rw [hg]; exact rW.out.size⟩)); rw [HA.out] at q; simp only [Act.put, List.setIfInBounds_toArray, List.set_cons_zero, List.set_cons_succ] at q; try simp only [Act.put, List.setIfInBounds_toArray, List.set_cons_zero, List.set_cons_succ]; exact q
        ·
          have hal := below_al W (.cells #[.bool false, .slice none 0 0] 33); have rW2 := rW.keep hal
          go_simp; refine hK.out _ _ ⟨(S4.out.2.2.2.2.2.1.keep rW2).facts.1, (S4.out.2.2.2.2.2.1.keep rW2).facts.2.1, (S4.out.2.2.2.2.2.2.1.keep rW2).facts.1, (S4.out.2.2.2.2.2.2.1.keep rW2).facts.2.1⟩ (fun _ => ?_); clear hK K
          obtain ⟨gn, hg⟩ : ∃ g, g = W.heap.size := ⟨_, rfl⟩; rw [← hg]
          have q := (HF.out _ _ _ _).1 (st2n _ pm Am lm cm pn An ln cn gn (Lib.hid ⟨rW2, rdm.keep hal, rdn.keep hal, by rw [hg]; exact Bx.new _ W _ _, by rw [hg]; exact rW.out.size⟩)); rw [HA.out] at q; simp only [Act.put, List.setIfInBounds_toArray, List.set_cons_zero, List.set_cons_succ] at q; try simp only [Act.put, List.setIfInBounds_toArray, List.set_cons_zero, List.set_cons_succ]; exact q
      have st1mn : ∀ (W : World) (pm : Bool) (Am : Option Addr) (lm : Nat) (cm : Nat) (gm : Nat) (gn : Nat), Hid (Since V4 W ∧ I.Zd W 60 (.agg #[.bool pm, .slice Am lm cm]) x ∧ Bx 33 W gm (.bool false) (.slice none 0 0) ∧ V4.heap.size ≤ gm ∧ Bx 33 W gn (.bool false) (.slice none 0 0) ∧ V4.heap.size ≤ gn ∧ gm ≠ gn) → F 3 #[true, true, true, false, true, true, false, false] (((a0.put (some 7) (.pointer (some ⟨gm, 0, none⟩))).put (some 8) (.pointer (some ⟨gn, 0, none⟩))).put (some 23) (.agg #[.bool pm, .slice Am lm cm])) W := by
        intro W pm Am lm cm gm gn R
        refine (HF.out _ _ _ _).2 ?_; rw [HA.out]; try simp only [Act.put, List.setIfInBounds_toArray, List.set_cons_zero, List.set_cons_succ]
        obtain ⟨rW, rdm, rXm, rPm, rXn, rPn, rNmn⟩ := R.out
        refine rgReady [3] (rgOne (fun K hK => ?_) rgNil)
        go_simp; go_at_call 16; refine (I.of_d (S4.out.2.2.2.2.1.keep rW) (by decide)).mono ?_; rintro e W2 ⟨v, rfl, h, hb⟩
        obtain ⟨pn, An, ln, cn, rfl⟩ := Zd.pat h
        have rW2 := rW.keep (hb)
        go_wp2_with fail
        refine hK.out _ _ ⟨(S4.out.2.2.2.2.2.1.keep rW2).facts.1, (S4.out.2.2.2.2.2.1.keep rW2).facts.2.1, (S4.out.2.2.2.2.2.2.1.keep rW2).facts.1, (S4.out.2.2.2.2.2.2.1.keep rW2).facts.2.1⟩ (fun _ => ?_); clear hK K
        have q := (HF.out _ _ _ _).1 (st2mn _ pm Am lm cm pn An ln cn gm gn (Lib.hid ⟨rW2, rdm.keep (hb), h, rXm.keep (hb), rPm, rXn.keep (hb), rPn, rNmn⟩)); rw [HA.out] at q; simp only [Act.put, List.setIfInBounds_toArray, List.set_cons_zero, List.set_cons_succ] at q; try simp only [Act.put, List.setIfInBounds_toArray, List.set_cons_zero, List.set_cons_succ]; exact q
      have st1m : ∀ (W : World) (pm : Bool) (Am : Option Addr) (lm : Nat) (cm : Nat) (gm : Nat), Hid (Since V4 W ∧ I.Zd W 60 (.agg #[.bool pm, .slice Am lm cm]) x ∧ Bx 33 W gm (.bool false) (.slice none 0 0) ∧ V4.heap.size ≤ gm) → F 4 #[true, true, true, false, true, false, false, false] ((a0.put (some 7) (.pointer (some ⟨gm, 0, none⟩))).put (some 23) (.agg #[.bool pm, .slice Am lm cm])) W := by
        intro W pm Am lm cm gm R
        refine (HF.out _ _ _ _).2 ?_; rw [HA.out]; try simp only [Act.put, List.setIfInBounds_toArray, List.set_cons_zero, List.set_cons_succ]
        obtain ⟨rW, rdm, rXm, rPm⟩ := R.out
        refine rgReady [3, 5] (rgOne (fun K hK => ?_) (rgOne (fun K hK => ?_) rgNil))
        ·
          go_simp; go_at_call 16; refine (I.of_d (S4.out.2.2.2.2.1.keep rW) (by decide)).mono ?_; rintro e W2 ⟨v, rfl, h, hb⟩
          obtain ⟨pn, An, ln, cn, rfl⟩ := Zd.pat h
          have rW2 := rW.keep (hb)
          go_wp2_with fail
          refine hK.out _ _ ⟨(S4.out.2.2.2.2.2.1.keep rW2).facts.1, (S4.out.2.2.2.2.2.1.keep rW2).facts.2.1, (S4.out.2.2.2.2.2.2.1.keep rW2).facts.1, (S4.out.2.2.2.2.2.2.1.keep rW2).facts.2.1⟩ (fun _ => ?_); clear hK K
          have q := (HF.out _ _ _ _).1 (st2m _ pm Am lm cm pn An ln cn gm (Lib.hid ⟨rW2, rdm.keep (hb), h, rXm.keep (hb), rPm⟩)); rw [HA.out] at q; simp only [Act.put, List.setIfInBounds_toArray, List.set_cons_zero, List.set_cons_succ] at q; try simp only [Act.put, List.setIfInBounds_toArray, List.set_cons_zero, List.set_cons_succ]; exact q
        ·
          have hal := below_al W (.cells #[.bool false, .slice none 0 0] 33); have rW2 := rW.keep hal
          go_simp; refine hK.out _ _ ⟨(S4.out.2.2.2.2.2.1.keep rW2).facts.1, (S4.out.2.2.2.2.2.1.keep rW2).facts.2.1, (S4.out.2.2.2.2.2.2.1.keep rW2).facts.1, (S4.out.2.2.2.2.2.2.1.keep rW2).facts.2.1⟩ (fun _ => ?_); clear hK K
          obtain ⟨gn, hg⟩ : ∃ g, g = W.heap.size := ⟨_, rfl⟩; rw [← hg]
          have q := (HF.out _ _ _ _).1 (st1mn _ pm Am lm cm gm gn (Lib.hid ⟨rW2, rdm.keep hal, rXm.keep hal, rPm, by rw [hg]; exact Bx.new _ W _ _, by rw [hg]; exact rW.out.size, by rw [hg]; exact Nat.ne_of_lt rXm.lt⟩)); rw [HA.out] at q; simp only [Act.put, List.setIfInBounds_toArray, List.set_cons_zero, List.set_cons_succ] at q; try simp only [Act.put, List.setIfInBounds_toArray, List.set_cons_zero, List.set_cons_succ]; exact q
      have st1n : ∀ (W : World) (pm : Bool) (Am : Option Addr) (lm : Nat) (cm : Nat) (gn : Nat), Hid (Since V4 W ∧ I.Zd W 60 (.agg #[.bool pm, .slice Am lm cm]) x ∧ Bx 33 W gn (.bool false) (.slice none 0 0) ∧ V4.heap.size ≤ gn) → F 4 #[true, true, true, false, false, true, false, false] ((a0.put (some 8) (.pointer (some ⟨gn, 0, none⟩))).put (some 23) (.agg #[.bool pm, .slice Am lm cm])) W := by
        intro W pm Am lm cm gn R
        refine (HF.out _ _ _ _).2 ?_; rw [HA.out]; try simp only [Act.put, List.setIfInBounds_toArray, List.set_cons_zero, List.set_cons_succ]
        obtain ⟨rW, rdm, rXn, rPn⟩ := R.out
        refine rgReady [3, 4] (rgOne (fun K hK => ?_) (rgOne (fun K hK => ?_) rgNil))
        ·
          go_simp; go_at_call 16; refine (I.of_d (S4.out.2.2.2.2.1.keep rW) (by decide)).mono ?_; rintro e W2 ⟨v, rfl, h, hb⟩
          obtain ⟨pn, An, ln, cn, rfl⟩ := Zd.pat h
          have rW2 := rW.keep (hb)
          go_wp2_with fail
          refine hK.out _ _ ⟨(S4.out.2.2.2.2.2.1.keep rW2).facts.1, (S4.out.2.2.2.2.2.1.keep rW2).facts.2.1, (S4.out.2.2.2.2.2.2.1.keep rW2).facts.1, (S4.out.2.2.2.2.2.2.1.keep rW2).facts.2.1⟩ (fun _ => ?_); clear hK K
          have q := (HF.out _ _ _ _).1 (st2n _ pm Am lm cm pn An ln cn gn (Lib.hid ⟨rW2, rdm.keep (hb), h, rXn.keep (hb), rPn⟩)); rw [HA.out] at q; simp only [Act.put, List.setIfInBounds_toArray, List.set_cons_zero, List.set_cons_succ] at q; try simp only [Act.put, List.setIfInBounds_toArray, List.set_cons_zero, List.set_cons_succ]; exact q
        ·
          have hal := below_al W (.cells #[.bool false, .slice none 0 0] 33); have rW2 := rW.keep hal
          go_simp; refine hK.out _ _ ⟨(S4.out.2.2.2.2.2.1.keep rW2).facts.1, (S4.out.2.2.2.2.2.1.keep rW2).facts.2.1, (S4.out.2.2.2.2.2.2.1.keep rW2).facts.1, (S4.out.2.2.2.2.2.2.1.keep rW2).facts.2.1⟩ (fun _ => ?_); clear hK K
          obtain ⟨gm, hg⟩ : ∃ g, g = W.heap.size := ⟨_, rfl⟩; rw [← hg]
          have q := (HF.out _ _ _ _).1 (st1mn _ pm Am lm cm gm gn (Lib.hid ⟨rW2, rdm.keep hal, by rw [hg]; exact Bx.new _ W _ _, by rw [hg]; exact rW.out.size, rXn.keep hal, rPn, by rw [hg]; exact Nat.ne_of_gt rXn.lt⟩)); rw [HA.out] at q; simp only [Act.put, List.setIfInBounds_toArray, List.set_cons_zero, List.set_cons_succ] at q; try simp only [Act.put, List.setIfInBounds_toArray, List.set_cons_zero, List.set_cons_succ]; exact q
      have st1 : ∀ (W : World) (pm : Bool) (Am : Option Addr) (lm : Nat) (cm : Nat), Hid (Since V4 W ∧ I.Zd W 60 (.agg #[.bool pm, .slice Am lm cm]) x) → F 5 #[true, true, true, false, false, false, false, false] (a0.put (some 23) (.agg #[.bool pm, .slice Am lm cm])) W := by
        intro W pm Am lm cm R
        refine (HF.out _ _ _ _).2 ?_; rw [HA.out]; try simp only [Act.put, List.setIfInBounds_toArray, List.set_cons_zero, List.set_cons_succ]
        obtain ⟨rW, rdm⟩ := R.out
        refine rgReady [3, 4, 5] (rgOne (fun K hK => ?_) (rgOne (fun K hK => ?_) (rgOne (fun K hK => ?_) rgNil)))
        ·
          go_simp; go_at_call 16; refine (I.of_d (S4.out.2.2.2.2.1.keep rW) (by decide)).mono ?_; rintro e W2 ⟨v, rfl, h, hb⟩
          obtain ⟨pn, An, ln, cn, rfl⟩ := Zd.pat h
          have rW2 := rW.keep (hb)
          go_wp2_with fail
          refine hK.out _ _ ⟨(S4.out.2.2.2.2.2.1.keep rW2).facts.1, (S4.out.2.2.2.2.2.1.keep rW2).facts.2.1, (S4.out.2.2.2.2.2.2.1.keep rW2).facts.1, (S4.out.2.2.2.2.2.2.1.keep rW2).facts.2.1⟩ (fun _ => ?_); clear hK K
          have q := (HF.out _ _ _ _).1 (st2 _ pm Am lm cm pn An ln cn (Lib.hid ⟨rW2, rdm.keep (hb), h⟩)); rw [HA.out] at q; simp only [Act.put, List.setIfInBounds_toArray, List.set_cons_zero, List.set_cons_succ] at q; try simp only [Act.put, List.setIfInBounds_toArray, List.set_cons_zero, List.set_cons_succ]; exact q
        ·
          have hal := below_al W (.cells #[.bool false, .slice none 0 0] 33); have rW2 := rW.keep hal
          go_simp; refine hK.out _ _ ⟨(S4.out.2.2.2.2.2.1.keep rW2).facts.1, (S4.out.2.2.2.2.2.1.keep rW2).facts.2.1, (S4.out.2.2.2.2.2.2.1.keep rW2).facts.1, (S4.out.2.2.2.2.2.2.1.keep rW2).facts.2.1⟩ (fun _ => ?_); clear hK K
          obtain ⟨gm, hg⟩ : ∃ g, g = W.heap.size := ⟨_, rfl⟩; rw [← hg]
          have q := (HF.out _ _ _ _).1 (st1m _ pm Am lm cm gm (Lib.hid ⟨rW2, rdm.keep hal, by rw [hg]; exact Bx.new _ W _ _, by rw [hg]; exact rW.out.size⟩)); rw [HA.out] at q; simp only [Act.put, List.setIfInBounds_toArray, List.set_cons_zero, List.set_cons_succ] at q; try simp only [Act.put, List.setIfInBounds_toArray, List.set_cons_zero, List.set_cons_succ]; exact q
        ·
          have hal := below_al W (.cells #[.bool false, .slice none 0 0] 33); have rW2 := rW.keep hal
          go_simp; refine hK.out _ _ ⟨(S4.out.2.2.2.2.2.1.keep rW2).facts.1, (S4.out.2.2.2.2.2.1.keep rW2).facts.2.1, (S4.out.2.2.2.2.2.2.1.keep rW2).facts.1, (S4.out.2.2.2.2.2.2.1.keep rW2).facts.2.1⟩ (fun _ => ?_); clear hK K
          obtain ⟨gn, hg⟩ : ∃ g, g = W.heap.size := ⟨_, rfl⟩; rw [← hg]
          have q := (HF.out _ _ _ _).1 (st1n _ pm Am lm cm gn (Lib.hid ⟨rW2, rdm.keep hal, by rw [hg]; exact Bx.new _ W _ _, by rw [hg]; exact rW.out.size⟩)); rw [HA.out] at q; simp only [Act.put, List.setIfInBounds_toArray, List.set_cons_zero, List.set_cons_succ] at q; try simp only [Act.put, List.setIfInBounds_toArray, List.set_cons_zero, List.set_cons_succ]; exact q
      have st0mn : ∀ (W : World) (gm : Nat) (gn : Nat), Hid (Since V4 W ∧ Bx 33 W gm (.bool false) (.slice none 0 0) ∧ V4.heap.size ≤ gm ∧ Bx 33 W gn (.bool false) (.slice none 0 0) ∧ V4.heap.size ≤ gn ∧ gm ≠ gn) → F 4 #[true, false, true, false, true, true, false, false] ((a0.put (some 7) (.pointer (some ⟨gm, 0, none⟩))).put (some 8) (.pointer (some ⟨gn, 0, none⟩))) W := by
        intro W gm gn R
        refine (HF.out _ _ _ _).2 ?_; rw [HA.out]; try simp only [Act.put, List.setIfInBounds_toArray, List.set_cons_zero, List.set_cons_succ]
        obtain ⟨rW, rXm, rPm, rXn, rPn, rNmn⟩ := R.out
        refine rgReady [1] (rgOne (fun K hK => ?_) rgNil)
        go_simp; go_at_call 16; refine (I.of_d (S4.out.2.2.2.1.keep rW) (by decide)).mono ?_; rintro e W2 ⟨v, rfl, h, hb⟩
        obtain ⟨pm, Am, lm, cm, rfl⟩ := Zd.pat h
        have rW2 := rW.keep (hb)
        go_wp2_with fail
        refine hK.out _ _ ⟨(S4.out.2.2.2.2.2.1.keep rW2).facts.1, (S4.out.2.2.2.2.2.1.keep rW2).facts.2.1, (S4.out.2.2.2.2.2.2.1.keep rW2).facts.1, (S4.out.2.2.2.2.2.2.1.keep rW2).facts.2.1⟩ (fun _ => ?_); clear hK K
        have q := (HF.out _ _ _ _).1 (st1mn _ pm Am lm cm gm gn (Lib.hid ⟨rW2, h, rXm.keep (hb), rPm, rXn.keep (hb), rPn, rNmn⟩)); rw [HA.out] at q; simp only [Act.put, List.setIfInBounds_toArray, List.set_cons_zero, List.set_cons_succ] at q; try simp only [Act.put, List.setIfInBounds_toArray, List.set_cons_zero, List.set_cons_succ]; exact q
      have st0m : ∀ (W : World) (gm : Nat), Hid (Since V4 W ∧ Bx 33 W gm (.bool false) (.slice none 0 0) ∧ V4.heap.size ≤ gm) → F 5 #[true, false, true, false, true, false, false, false] (a0.put (some 7) (.pointer (some ⟨gm, 0, none⟩))) W := by
        intro W gm R
        refine (HF.out _ _ _ _).2 ?_; rw [HA.out]; try simp only [Act.put, List.setIfInBounds_toArray, List.set_cons_zero, List.set_cons_succ]
        obtain ⟨rW, rXm, rPm⟩ := R.out
        refine rgReady [1, 5] (rgOne (fun K hK => ?_) (rgOne (fun K hK => ?_) rgNil))
        ·
          go_simp; go_at_call 16; refine (I.of_d (S4.out.2.2.2.1.keep rW) (by decide)).mono ?_; rintro e W2 ⟨v, rfl, h, hb⟩
          obtain ⟨pm, Am, lm, cm, rfl⟩ := Zd.pat h
          have rW2 := rW.keep (hb)
          go_wp2_with fail
          refine hK.out _ _ ⟨(S4.out.2.2.2.2.2.1.keep rW2).facts.1, (S4.out.2.2.2.2.2.1.keep rW2).facts.2.1, (S4.out.2.2.2.2.2.2.1.keep rW2).facts.1, (S4.out.2.2.2.2.2.2.1.keep rW2).facts.2.1⟩ (fun _ => ?_); clear hK K
          have q := (HF.out _ _ _ _).1 (st1m _ pm Am lm cm gm (Lib.hid ⟨rW2, h, rXm.keep (hb), rPm⟩)); rw [HA.out] at q; simp only [Act.put, List.setIfInBounds_toArray, List.set_cons_zero, List.set_cons_succ] at q; try simp only [Act.put, List.setIfInBounds_toArray, List.set_cons_zero, List.set_cons_succ]; exact q
        ·
          have hal := below_al W (.cells #[.bool false, .slice none 0 0] 33); have rW2 := rW.keep hal
          go_simp; refine hK.out _ _ ⟨(S4.out.2.2.2.2.2.1.keep rW2).facts.1, (S4.out.2.2.2.2.2.1.keep rW2).facts.2.1, (S4.out.2.2.2.2.2.2.1.keep rW2).facts.1, (S4.out.2.2.2.2.2.2.1.keep rW2).facts.2.1⟩ (fun _ => ?_); clear hK K
          obtain ⟨gn, hg⟩ : ∃ g, g = W.heap.size := ⟨_, rfl⟩; rw [← hg]
          have q := (HF.out _ _ _ _).1 (st0mn _ gm gn (Lib.hid ⟨rW2, rXm.keep hal, rPm, by rw [hg]; exact Bx.new _ W _ _, by rw [hg]; exact rW.out.size, by rw [hg]; exact Nat.ne_of_lt rXm.lt⟩)); rw [HA.out] at q; simp only [Act.put, List.setIfInBounds_toArray, List.set_cons_zero, List.set_cons_succ] at q; try simp only [Act.put, List.setIfInBounds_toArray, List.set_cons_zero, List.set_cons_succ]; exact q
      have st0n : ∀ (W : World) (gn : Nat), Hid (Since V4 W ∧ Bx 33 W gn (.bool false) (.slice none 0 0) ∧ V4.heap.size ≤ gn) → F 5 #[true, false, true, false, false, true, false, false] (a0.put (some 8) (.pointer (some ⟨gn, 0, none⟩))) W := by
        intro W gn R
        refine (HF.out _ _ _ _).2 ?_; rw [HA.out]; try simp only [Act.put, List.setIfInBounds_toArray, List.set_cons_zero, List.set_cons_succ]
        obtain ⟨rW, rXn, rPn⟩ := R.out
        refine rgReady [1, 4] (rgOne (fun K hK => ?_) (rgOne (fun K hK => ?_) rgNil))
        ·
          go_simp; go_at_call 16; refine (I.of_d (S4.out.2.2.2.1.keep rW) (by decide)).mono ?_; rintro e W2 ⟨v, rfl, h, hb⟩
          obtain ⟨pm, Am, lm, cm, rfl⟩ := Zd.pat h
          have rW2 := rW.keep (hb)
          go_wp2_with fail
          refine hK.out _ _ ⟨(S4.out.2.2.2.2.2.1.keep rW2).facts.1, (S4.out.2.2.2.2.2.1.keep rW2).facts.2.1, (S4.out.2.2.2.2.2.2.1.keep rW2).facts.1, (S4.out.2.2.2.2.2.2.1.keep rW2).facts.2.1⟩ (fun _ => ?_); clear hK K
          have q := (HF.out _ _ _ _).1 (st1n _ pm Am lm cm gn (Lib.hid ⟨rW2, h, rXn.keep (hb), rPn⟩)); rw [HA.out] at q; simp only [Act.put, List.setIfInBounds_toArray, List.set_cons_zero, List.set_cons_succ] at q; try simp only [Act.put, List.setIfInBounds_toArray, List.set_cons_zero, List.set_cons_succ]; exact q
        ·
          have hal := below_al W (.cells #[.bool false, .slice none 0 0] 33); have rW2 := rW.keep hal
          go_simp; refine hK.out _ _ ⟨(S4.out.2.2.2.2.2.1.keep rW2).facts.1, (S4.out.2.2.2.2.2.1.keep rW2).facts.2.1, (S4.out.2.2.2.2.2.2.1.keep rW2).facts.1, (S4.out.2.2.2.2.2.2.1.keep rW2).facts.2.1⟩ (fun _ => ?_); clear hK K
          obtain ⟨gm, hg⟩ : ∃ g, g = W.heap.size := ⟨_, rfl⟩; rw [← hg]
          have q := (HF.out _ _ _ _).1 (st0mn _ gm gn (Lib.hid ⟨rW2, by rw [hg]; exact Bx.new _ W _ _, by rw [hg]; exact rW.out.size, rXn.keep hal, rPn, by rw [hg]; exact Nat.ne_of_gt rXn.lt⟩)); rw [HA.out] at q; simp only [Act.put, List.setIfInBounds_toArray, List.set_cons_zero, List.set_cons_succ] at q; try simp only [Act.put, List.setIfInBounds_toArray, List.set_cons_zero, List.set_cons_succ]; exact q
      have st0 : ∀ (W : World), Hid (Since V4 W) → F 6 #[true, false, true, false, false, false, false, false] a0 W := by
        intro W  R
        refine (HF.out _ _ _ _).2 ?_; rw [HA.out]; try simp only [Act.put, List.setIfInBounds_toArray, List.set_cons_zero, List.set_cons_succ]
        have rW := R.out
        refine rgReady [1, 4, 5] (rgOne (fun K hK => ?_) (rgOne (fun K hK => ?_) (rgOne (fun K hK => ?_) rgNil)))
        ·
          go_simp; go_at_call 16; refine (I.of_d (S4.out.2.2.2.1.keep rW) (by decide)).mono ?_; rintro e W2 ⟨v, rfl, h, hb⟩
          obtain ⟨pm, Am, lm, cm, rfl⟩ := Zd.pat h
          have rW2 := rW.keep (hb)
          go_wp2_with fail
          refine hK.out _ _ ⟨(S4.out.2.2.2.2.2.1.keep rW2).facts.1, (S4.out.2.2.2.2.2.1.keep rW2).facts.2.1, (S4.out.2.2.2.2.2.2.1.keep rW2).facts.1, (S4.out.2.2.2.2.2.2.1.keep rW2).facts.2.1⟩ (fun _ => ?_); clear hK K
          have q := (HF.out _ _ _ _).1 (st1 _ pm Am lm cm (Lib.hid ⟨rW2, h⟩)); rw [HA.out] at q; simp only [Act.put, List.setIfInBounds_toArray, List.set_cons_zero, List.set_cons_succ] at q; try simp only [Act.put, List.setIfInBounds_toArray, List.set_cons_zero, List.set_cons_succ]; exact q
        ·
          have hal := below_al W (.cells #[.bool false, .slice none 0 0] 33); have rW2 := rW.keep hal
          go_simp; refine hK.out _ _ ⟨(S4.out.2.2.2.2.2.1.keep rW2).facts.1, (S4.out.2.2.2.2.2.1.keep rW2).facts.2.1, (S4.out.2.2.2.2.2.2.1.keep rW2).facts.1, (S4.out.2.2.2.2.2.2.1.keep rW2).facts.2.1⟩ (fun _ => ?_); clear hK K
          obtain ⟨gm, hg⟩ : ∃ g, g = W.heap.size := ⟨_, rfl⟩; rw [← hg]
          have q := (HF.out _ _ _ _).1 (st0m _ gm (Lib.hid ⟨rW2, by rw [hg]; exact Bx.new _ W _ _, by rw [hg]; exact rW.out.size⟩)); rw [HA.out] at q; simp only [Act.put, List.setIfInBounds_toArray, List.set_cons_zero, List.set_cons_succ] at q; try simp only [Act.put, List.setIfInBounds_toArray, List.set_cons_zero, List.set_cons_succ]; exact q
        ·
          have hal := below_al W (.cells #[.bool false, .slice none 0 0] 33); have rW2 := rW.keep hal
          go_simp; refine hK.out _ _ ⟨(S4.out.2.2.2.2.2.1.keep rW2).facts.1, (S4.out.2.2.2.2.2.1.keep rW2).facts.2.1, (S4.out.2.2.2.2.2.2.1.keep rW2).facts.1, (S4.out.2.2.2.2.2.2.1.keep rW2).facts.2.1⟩ (fun _ => ?_); clear hK K
          obtain ⟨gn, hg⟩ : ∃ g, g = W.heap.size := ⟨_, rfl⟩; rw [← hg]
          have q := (HF.out _ _ _ _).1 (st0n _ gn (Lib.hid ⟨rW2, by rw [hg]; exact Bx.new _ W _ _, by rw [hg]; exact rW.out.size⟩)); rw [HA.out] at q; simp only [Act.put, List.setIfInBounds_toArray, List.set_cons_zero, List.set_cons_succ] at q; try simp only [Act.put, List.setIfInBounds_toArray, List.set_cons_zero, List.set_cons_succ]; exact q
      exact st0 Wd R0
    case rest =>
      obtain ⟨gm, gn, pm, Am, lm, cm, pn, An, ln, cn, rfl, rfl, hs, h0, h1, h2, h3⟩ := hcut
      have S5 := Lib.hid (And.intro (S4.out.1.keep hs) (And.intro (S4.out.2.1.keep hs) (And.intro (S4.out.2.2.1.keep hs) (And.intro (S4.out.2.2.2.1.keep hs) (And.intro (S4.out.2.2.2.2.1.keep hs) (And.intro (S4.out.2.2.2.2.2.1.keep hs) (And.intro (S4.out.2.2.2.2.2.2.1.keep hs) (And.intro (S4.out.2.2.2.2.2.2.2.2.1.keep hs) (And.intro (S4.out.2.2.2.2.2.2.2.2.2.1.keep hs) (And.intro (S4.out.2.2.2.2.2.2.2.2.2.2.1.keep hs) (And.intro (S4.out.2.2.2.2.2.2.2.2.2.2.2.1.keep hs) (And.intro (hs) (And.intro (h0) (And.intro (h1) (And.intro (h2) (And.intro (h3) (below_trans (S4.out.2.2.2.2.2.2.2.2.2.2.2.2) hs)))))))))))))))))
      clear hs h0 h1 h2 h3 HW S4
      generalize wc = V5 at S5 ⊢
      have S6 := Lib.hid (And.intro (S5.out.1.keep ((Below.refl _ _))) (And.intro (S5.out.2.1.keep ((Below.refl _ _))) (And.intro (S5.out.2.2.1.keep ((Below.refl _ _))) (And.intro (S5.out.2.2.2.1.keep ((Below.refl _ _))) (And.intro (S5.out.2.2.2.2.1.keep ((Below.refl _ _))) (And.intro (S5.out.2.2.2.2.2.1.keep ((Below.refl _ _))) (And.intro (S5.out.2.2.2.2.2.2.1.keep ((Below.refl _ _))) (And.intro (S5.out.2.2.2.2.2.2.2.1.keep ((Below.refl _ _))) (And.intro (S5.out.2.2.2.2.2.2.2.2.1.keep ((Below.refl _ _))) (And.intro (S5.out.2.2.2.2.2.2.2.2.2.1.keep ((Below.refl _ _))) (And.intro (S5.out.2.2.2.2.2.2.2.2.2.2.1.keep ((Below.refl _ _))) (And.intro (S5.out.2.2.2.2.2.2.2.2.2.2.2.1.keep ((Below.refl _ _))) (And.intro (S5.out.2.2.2.2.2.2.2.2.2.2.2.2.1.keep ((Below.refl _ _))) (And.intro (S5.out.2.2.2.2.2.2.2.2.2.2.2.2.2.1.keep ((Below.refl _ _))) (And.intro (S5.out.2.2.2.2.2.2.2.2.2.2.2.2.2.2.1.keep ((Below.refl _ _))) (And.intro (S5.out.2.2.2.2.2.2.2.2.2.2.2.2.2.2.2.1.keep ((Below.refl _ _))) (And.intro ((by rw [HX.out.1]; exact S5.out.2.2.2.2.2.2.2.2.2.1.zn HG.out.1 : Zn V5 12 _ x)) (And.intro ((by rw [HX.out.2]; exact S5.out.2.2.2.2.2.2.2.2.2.2.1.zn HG.out.2 : Zn V5 12 _ y)) (below_trans (S5.out.2.2.2.2.2.2.2.2.2.2.2.2.2.2.2.2) ((Below.refl _ _)))))))))))))))))))))
      clear S5
      go_upto_region 7 with (fail)
      have S7 := Lib.hid (And.intro (S6.out.1.keep (below_dr _ 1)) (And.intro (S6.out.2.1.keep (below_dr _ 1)) (And.intro (S6.out.2.2.1.keep (below_dr _ 1)) (And.intro (S6.out.2.2.2.1.keep (below_dr _ 1)) (And.intro (S6.out.2.2.2.2.1.keep (below_dr _ 1)) (And.intro (S6.out.2.2.2.2.2.1.keep (below_dr _ 1)) (And.intro (S6.out.2.2.2.2.2.2.1.keep (below_dr _ 1)) (And.intro (S6.out.2.2.2.2.2.2.2.1.keep (below_dr _ 1)) (And.intro (S6.out.2.2.2.2.2.2.2.2.1.keep (below_dr _ 1)) (And.intro (S6.out.2.2.2.2.2.2.2.2.2.1.keep (below_dr _ 1)) (And.intro (S6.out.2.2.2.2.2.2.2.2.2.2.1.keep (below_dr _ 1)) (And.intro (S6.out.2.2.2.2.2.2.2.2.2.2.2.1.keep (below_dr _ 1)) (And.intro (S6.out.2.2.2.2.2.2.2.2.2.2.2.2.1.keep (below_dr _ 1)) (And.intro (S6.out.2.2.2.2.2.2.2.2.2.2.2.2.2.1.keep (below_dr _ 1)) (And.intro (S6.out.2.2.2.2.2.2.2.2.2.2.2.2.2.2.1.keep (below_dr _ 1)) (And.intro (S6.out.2.2.2.2.2.2.2.2.2.2.2.2.2.2.2.1.keep (below_dr _ 1)) (And.intro (S6.out.2.2.2.2.2.2.2.2.2.2.2.2.2.2.2.2.1.keep (below_dr _ 1)) (And.intro (S6.out.2.2.2.2.2.2.2.2.2.2.2.2.2.2.2.2.2.1.keep (below_dr _ 1)) (below_trans (S6.out.2.2.2.2.2.2.2.2.2.2.2.2.2.2.2.2.2.2) (below_dr _ 1))))))))))))))))))))
      refine wp_region_held_drew (S := fun W => W.cell? ⟨gx, 0, none⟩ = some (.bool pa) ∧ W.cell? ⟨gx, 1, none⟩ = some (.slice Ax lx cx) ∧ W.cell? ⟨gm, 0, none⟩ = some (.bool pm) ∧ W.cell? ⟨gm, 1, none⟩ = some (.slice Am lm cm) ∧ W.cell? ⟨gy, 0, none⟩ = some (.bool pb) ∧ W.cell? ⟨gy, 1, none⟩ = some (.slice Ay ly cy) ∧ W.cell? ⟨gn, 0, none⟩ = some (.bool pn) ∧ W.cell? ⟨gn, 1, none⟩ = some (.slice An ln cn)) (by kernel_rfl) ⟨S7.out.2.2.2.2.2.2.2.1.facts.1, S7.out.2.2.2.2.2.2.2.1.facts.2.1, S7.out.2.2.2.2.2.2.2.2.2.2.2.2.1.facts.1, S7.out.2.2.2.2.2.2.2.2.2.2.2.2.1.facts.2.1, S7.out.2.2.2.2.2.2.2.2.1.facts.1, S7.out.2.2.2.2.2.2.2.2.1.facts.2.1, S7.out.2.2.2.2.2.2.2.2.2.2.2.2.2.1.facts.1, S7.out.2.2.2.2.2.2.2.2.2.2.2.2.2.1.facts.2.1⟩ (fun hHeld => ?_)
      refine rgTake 0 hHeld ?_; try simp only [Act.put, List.setIfInBounds_toArray, List.set_cons_zero, List.set_cons_succ]
      refine rgTake 1 hHeld ?_; try simp only [Act.put, List.setIfInBounds_toArray, List.set_cons_zero, List.set_cons_succ]
      refine rgTake 2 hHeld ?_; try simp only [Act.put, List.setIfInBounds_toArray, List.set_cons_zero, List.set_cons_succ]
      refine rgTake 3 hHeld ?_; try simp only [Act.put, List.setIfInBounds_toArray, List.set_cons_zero, List.set_cons_succ]
      refine rgTake 5 hHeld ?_; try simp only [Act.put, List.setIfInBounds_toArray, List.set_cons_zero, List.set_cons_succ]
      refine rgReady [4] (rgOne (fun K hK => ?_) rgNil)
      go_simp
      go_at_call 26; refine (make_z pa (Zn.abs S7.out.2.2.2.2.2.2.2.2.2.2.2.2.2.2.2.2.1) (by decide)).mono ?_; rintro e w8 ⟨v, rfl, h⟩
      have S8 := Lib.hid (And.intro (S7.out.1.keep (h.below)) (And.intro (S7.out.2.1.keep (h.below)) (And.intro (S7.out.2.2.1.keep (h.below)) (And.intro (S7.out.2.2.2.1.keep (h.below)) (And.intro (S7.out.2.2.2.2.1.keep (h.below)) (And.intro (S7.out.2.2.2.2.2.1.keep (h.below)) (And.intro (S7.out.2.2.2.2.2.2.1.keep (h.below)) (And.intro (S7.out.2.2.2.2.2.2.2.1.keep (h.below)) (And.intro (S7.out.2.2.2.2.2.2.2.2.1.keep (h.below)) (And.intro (S7.out.2.2.2.2.2.2.2.2.2.1.keep (h.below)) (And.intro (S7.out.2.2.2.2.2.2.2.2.2.2.1.keep (h.below)) (And.intro (S7.out.2.2.2.2.2.2.2.2.2.2.2.1.keep (h.below)) (And.intro (S7.out.2.2.2.2.2.2.2.2.2.2.2.2.1.keep (h.below)) (And.intro (S7.out.2.2.2.2.2.2.2.2.2.2.2.2.2.1.keep (h.below)) (And.intro (S7.out.2.2.2.2.2.2.2.2.2.2.2.2.2.2.1.keep (h.below)) (And.intro (S7.out.2.2.2.2.2.2.2.2.2.2.2.2.2.2.2.1.keep (h.below)) (And.intro (S7.out.2.2.2.2.2.2.2.2.2.2.2.2.2.2.2.2.1.keep (h.below)) (And.intro (S7.out.2.2.2.2.2.2.2.2.2.2.2.2.2.2.2.2.2.1.keep (h.below)) (And.intro (h.zo) (below_trans (S7.out.2.2.2.2.2.2.2.2.2.2.2.2.2.2.2.2.2.2) (h.below)))))))))))))))))))))
      clear h hHeld
      go_wp2_with fail
      refine hK.out _ _ ⟨S8.out.2.2.2.2.2.2.2.1.facts.1, S8.out.2.2.2.2.2.2.2.1.facts.2.1, S8.out.2.2.2.2.2.2.2.2.2.2.2.2.1.facts.1, S8.out.2.2.2.2.2.2.2.2.2.2.2.2.1.facts.2.1, S8.out.2.2.2.2.2.2.2.2.1.facts.1, S8.out.2.2.2.2.2.2.2.2.1.facts.2.1, S8.out.2.2.2.2.2.2.2.2.2.2.2.2.2.1.facts.1, S8.out.2.2.2.2.2.2.2.2.2.2.2.2.2.1.facts.2.1⟩ (fun hHeld => ?_); clear hK K; try simp only [Act.put, List.setIfInBounds_toArray, List.set_cons_zero, List.set_cons_succ]
      refine rgReady [6] (rgOne (fun K hK => ?_) rgNil)
      go_simp
      go_at_call 20; refine (to_k 12 S8.out.2.2.2.2.2.2.2.2.2.2.2.2.2.2.1 (by decide) HB.out.1 (by decide)).mono ?_; rintro e w9 ⟨v, rfl, h, hb⟩
      have S9 := Lib.hid (And.intro (S8.out.1.keep (hb)) (And.intro (S8.out.2.1.keep (hb)) (And.intro (S8.out.2.2.1.keep (hb)) (And.intro (S8.out.2.2.2.1.keep (hb)) (And.intro (S8.out.2.2.2.2.1.keep (hb)) (And.intro (S8.out.2.2.2.2.2.1.keep (hb)) (And.intro (S8.out.2.2.2.2.2.2.1.keep (hb)) (And.intro (S8.out.2.2.2.2.2.2.2.1.keep (hb)) (And.intro (S8.out.2.2.2.2.2.2.2.2.1.keep (hb)) (And.intro (S8.out.2.2.2.2.2.2.2.2.2.1.keep (hb)) (And.intro (S8.out.2.2.2.2.2.2.2.2.2.2.1.keep (hb)) (And.intro (S8.out.2.2.2.2.2.2.2.2.2.2.2.1.keep (hb)) (And.intro (S8.out.2.2.2.2.2.2.2.2.2.2.2.2.1.keep (hb)) (And.intro (S8.out.2.2.2.2.2.2.2.2.2.2.2.2.2.1.keep (hb)) (And.intro (S8.out.2.2.2.2.2.2.2.2.2.2.2.2.2.2.1.keep (hb)) (And.intro (S8.out.2.2.2.2.2.2.2.2.2.2.2.2.2.2.2.1.keep (hb)) (And.intro (S8.out.2.2.2.2.2.2.2.2.2.2.2.2.2.2.2.2.1.keep (hb)) (And.intro (S8.out.2.2.2.2.2.2.2.2.2.2.2.2.2.2.2.2.2.1.keep (hb)) (And.intro (S8.out.2.2.2.2.2.2.2.2.2.2.2.2.2.2.2.2.2.2.1.keep (hb)) (And.intro (h) (below_trans (S8.out.2.2.2.2.2.2.2.2.2.2.2.2.2.2.2.2.2.2.2) (hb))))))))))))))))))))))
      clear h hb hHeld
      go_wp2_with fail
      refine hK.out _ _ ⟨S9.out.2.2.2.2.2.2.2.1.facts.1, S9.out.2.2.2.2.2.2.2.1.facts.2.1, S9.out.2.2.2.2.2.2.2.2.2.2.2.2.1.facts.1, S9.out.2.2.2.2.2.2.2.2.2.2.2.2.1.facts.2.1, S9.out.2.2.2.2.2.2.2.2.1.facts.1, S9.out.2.2.2.2.2.2.2.2.1.facts.2.1, S9.out.2.2.2.2.2.2.2.2.2.2.2.2.2.1.facts.1, S9.out.2.2.2.2.2.2.2.2.2.2.2.2.2.1.facts.2.1⟩ (fun hHeld => ?_); clear hK K; try simp only [Act.put, List.setIfInBounds_toArray, List.set_cons_zero, List.set_cons_succ]
      refine rgReady [7] (rgOne (fun K hK => ?_) rgNil)
      go_simp
      go_at_call 18; refine (same_zo S9.out.2.2.2.2.2.2.2.2.2.2.2.2.2.2.2.2.2.2.1 S9.out.2.2.2.2.2.2.2.2.2.2.2.2.2.2.2.2.2.2.2.1 (by rw [HX.out.1, sg_abs])).mono ?_; rintro e w10 ⟨rfl, hb⟩
      have S10 := Lib.hid (And.intro (S9.out.1.keep (hb)) (And.intro (S9.out.2.1.keep (hb)) (And.intro (S9.out.2.2.1.keep (hb)) (And.intro (S9.out.2.2.2.1.keep (hb)) (And.intro (S9.out.2.2.2.2.1.keep (hb)) (And.intro (S9.out.2.2.2.2.2.1.keep (hb)) (And.intro (S9.out.2.2.2.2.2.2.1.keep (hb)) (And.intro (S9.out.2.2.2.2.2.2.2.1.keep (hb)) (And.intro (S9.out.2.2.2.2.2.2.2.2.1.keep (hb)) (And.intro (S9.out.2.2.2.2.2.2.2.2.2.1.keep (hb)) (And.intro (S9.out.2.2.2.2.2.2.2.2.2.2.1.keep (hb)) (And.intro (S9.out.2.2.2.2.2.2.2.2.2.2.2.1.keep (hb)) (And.intro (S9.out.2.2.2.2.2.2.2.2.2.2.2.2.1.keep (hb)) (And.intro (S9.out.2.2.2.2.2.2.2.2.2.2.2.2.2.1.keep (hb)) (And.intro (S9.out.2.2.2.2.2.2.2.2.2.2.2.2.2.2.1.keep (hb)) (And.intro (S9.out.2.2.2.2.2.2.2.2.2.2.2.2.2.2.2.1.keep (hb)) (And.intro (S9.out.2.2.2.2.2.2.2.2.2.2.2.2.2.2.2.2.1.keep (hb)) (And.intro (S9.out.2.2.2.2.2.2.2.2.2.2.2.2.2.2.2.2.2.1.keep (hb)) (below_trans (S9.out.2.2.2.2.2.2.2.2.2.2.2.2.2.2.2.2.2.2.2.2) (hb))))))))))))))))))))
      clear hb hHeld
      go_wp2_with fail
      refine hK.out _ _ ⟨S10.out.2.2.2.2.2.2.2.1.facts.1, S10.out.2.2.2.2.2.2.2.1.facts.2.1, S10.out.2.2.2.2.2.2.2.2.2.2.2.2.1.facts.1, S10.out.2.2.2.2.2.2.2.2.2.2.2.2.1.facts.2.1, S10.out.2.2.2.2.2.2.2.2.1.facts.1, S10.out.2.2.2.2.2.2.2.2.1.facts.2.1, S10.out.2.2.2.2.2.2.2.2.2.2.2.2.2.1.facts.1, S10.out.2.2.2.2.2.2.2.2.2.2.2.2.2.1.facts.2.1⟩ (fun hHeld => ?_); clear hK K; try simp only [Act.put, List.setIfInBounds_toArray, List.set_cons_zero, List.set_cons_succ]
      refine rgTake 8 hHeld ?_; try simp only [Act.put, List.setIfInBounds_toArray, List.set_cons_zero, List.set_cons_succ]
      refine rgTake 9 hHeld ?_; try simp only [Act.put, List.setIfInBounds_toArray, List.set_cons_zero, List.set_cons_succ]
      refine rgTake 11 hHeld ?_; try simp only [Act.put, List.setIfInBounds_toArray, List.set_cons_zero, List.set_cons_succ]
      refine rgReady [10] (rgOne (fun K hK => ?_) rgNil)
      go_simp
      go_at_call 27; refine (neg_z S10.out.2.2.2.2.2.2.2.2.2.2.2.2.2.2.2.2.1 (by decide)).mono ?_; rintro e w11 ⟨v, rfl, h⟩
      have S11 := Lib.hid (And.intro (S10.out.1.keep (h.below)) (And.intro (S10.out.2.1.keep (h.below)) (And.intro (S10.out.2.2.1.keep (h.below)) (And.intro (S10.out.2.2.2.1.keep (h.below)) (And.intro (S10.out.2.2.2.2.1.keep (h.below)) (And.intro (S10.out.2.2.2.2.2.1.keep (h.below)) (And.intro (S10.out.2.2.2.2.2.2.1.keep (h.below)) (And.intro (S10.out.2.2.2.2.2.2.2.1.keep (h.below)) (And.intro (S10.out.2.2.2.2.2.2.2.2.1.keep (h.below)) (And.intro (S10.out.2.2.2.2.2.2.2.2.2.1.keep (h.below)) (And.intro (S10.out.2.2.2.2.2.2.2.2.2.2.1.keep (h.below)) (And.intro (S10.out.2.2.2.2.2.2.2.2.2.2.2.1.keep (h.below)) (And.intro (S10.out.2.2.2.2.2.2.2.2.2.2.2.2.1.keep (h.below)) (And.intro (S10.out.2.2.2.2.2.2.2.2.2.2.2.2.2.1.keep (h.below)) (And.intro (S10.out.2.2.2.2.2.2.2.2.2.2.2.2.2.2.1.keep (h.below)) (And.intro (S10.out.2.2.2.2.2.2.2.2.2.2.2.2.2.2.2.1.keep (h.below)) (And.intro (S10.out.2.2.2.2.2.2.2.2.2.2.2.2.2.2.2.2.1.keep (h.below)) (And.intro (S10.out.2.2.2.2.2.2.2.2.2.2.2.2.2.2.2.2.2.1.keep (h.below)) (And.intro (h.zo) (below_trans (S10.out.2.2.2.2.2.2.2.2.2.2.2.2.2.2.2.2.2.2) (h.below)))))))))))))))))))))
      clear h hHeld
      go_wp2_with fail
      refine hK.out _ _ ⟨S11.out.2.2.2.2.2.2.2.1.facts.1, S11.out.2.2.2.2.2.2.2.1.facts.2.1, S11.out.2.2.2.2.2.2.2.2.2.2.2.2.1.facts.1, S11.out.2.2.2.2.2.2.2.2.2.2.2.2.1.facts.2.1, S11.out.2.2.2.2.2.2.2.2.1.facts.1, S11.out.2.2.2.2.2.2.2.2.1.facts.2.1, S11.out.2.2.2.2.2.2.2.2.2.2.2.2.2.1.facts.1, S11.out.2.2.2.2.2.2.2.2.2.2.2.2.2.1.facts.2.1⟩ (fun hHeld => ?_); clear hK K; try simp only [Act.put, List.setIfInBounds_toArray, List.set_cons_zero, List.set_cons_succ]
      refine rgReady [12] (rgOne (fun K hK => ?_) rgNil)
      go_simp
      go_at_call 28; refine (I.neg_d S11.out.2.2.2.2.2.2.2.2.2.2.2.2.2.2.1 (by decide)).mono ?_; rintro e w12 ⟨v, rfl, h, hb⟩
      have S12 := Lib.hid (And.intro (S11.out.1.keep (hb)) (And.intro (S11.out.2.1.keep (hb)) (And.intro (S11.out.2.2.1.keep (hb)) (And.intro (S11.out.2.2.2.1.keep (hb)) (And.intro (S11.out.2.2.2.2.1.keep (hb)) (And.intro (S11.out.2.2.2.2.2.1.keep (hb)) (And.intro (S11.out.2.2.2.2.2.2.1.keep (hb)) (And.intro (S11.out.2.2.2.2.2.2.2.1.keep (hb)) (And.intro (S11.out.2.2.2.2.2.2.2.2.1.keep (hb)) (And.intro (S11.out.2.2.2.2.2.2.2.2.2.1.keep (hb)) (And.intro (S11.out.2.2.2.2.2.2.2.2.2.2.1.keep (hb)) (And.intro (S11.out.2.2.2.2.2.2.2.2.2.2.2.1.keep (hb)) (And.intro (S11.out.2.2.2.2.2.2.2.2.2.2.2.2.1.keep (hb)) (And.intro (S11.out.2.2.2.2.2.2.2.2.2.2.2.2.2.1.keep (hb)) (And.intro (S11.out.2.2.2.2.2.2.2.2.2.2.2.2.2.2.1.keep (hb)) (And.intro (S11.out.2.2.2.2.2.2.2.2.2.2.2.2.2.2.2.1.keep (hb)) (And.intro (S11.out.2.2.2.2.2.2.2.2.2.2.2.2.2.2.2.2.1.keep (hb)) (And.intro (S11.out.2.2.2.2.2.2.2.2.2.2.2.2.2.2.2.2.2.1.keep (hb)) (And.intro (S11.out.2.2.2.2.2.2.2.2.2.2.2.2.2.2.2.2.2.2.1.keep (hb)) (And.intro (h) (below_trans (S11.out.2.2.2.2.2.2.2.2.2.2.2.2.2.2.2.2.2.2.2) (hb))))))))))))))))))))))
      clear h hb hHeld
      go_wp2_with fail
      refine hK.out _ _ ⟨S12.out.2.2.2.2.2.2.2.1.facts.1, S12.out.2.2.2.2.2.2.2.1.facts.2.1, S12.out.2.2.2.2.2.2.2.2.2.2.2.2.1.facts.1, S12.out.2.2.2.2.2.2.2.2.2.2.2.2.1.facts.2.1, S12.out.2.2.2.2.2.2.2.2.1.facts.1, S12.out.2.2.2.2.2.2.2.2.1.facts.2.1, S12.out.2.2.2.2.2.2.2.2.2.2.2.2.2.1.facts.1, S12.out.2.2.2.2.2.2.2.2.2.2.2.2.2.1.facts.2.1⟩ (fun hHeld => ?_); clear hK K; try simp only [Act.put, List.setIfInBounds_toArray, List.set_cons_zero, List.set_cons_succ]
      refine rgReady [13] (rgOne (fun K hK => ?_) rgNil)
      go_simp
      go_at_call 20; refine (to_k 12 S12.out.2.2.2.2.2.2.2.2.2.2.2.2.2.2.2.2.2.2.2.1 (by decide) HB.out.2.1 (by decide)).mono ?_; rintro e w13 ⟨v, rfl, h, hb⟩
      have S13 := Lib.hid (And.intro (S12.out.1.keep (hb)) (And.intro (S12.out.2.1.keep (hb)) (And.intro (S12.out.2.2.1.keep (hb)) (And.intro (S12.out.2.2.2.1.keep (hb)) (And.intro (S12.out.2.2.2.2.1.keep (hb)) (And.intro (S12.out.2.2.2.2.2.1.keep (hb)) (And.intro (S12.out.2.2.2.2.2.2.1.keep (hb)) (And.intro (S12.out.2.2.2.2.2.2.2.1.keep (hb)) (And.intro (S12.out.2.2.2.2.2.2.2.2.1.keep (hb)) (And.intro (S12.out.2.2.2.2.2.2.2.2.2.1.keep (hb)) (And.intro (S12.out.2.2.2.2.2.2.2.2.2.2.1.keep (hb)) (And.intro (S12.out.2.2.2.2.2.2.2.2.2.2.2.1.keep (hb)) (And.intro (S12.out.2.2.2.2.2.2.2.2.2.2.2.2.1.keep (hb)) (And.intro (S12.out.2.2.2.2.2.2.2.2.2.2.2.2.2.1.keep (hb)) (And.intro (S12.out.2.2.2.2.2.2.2.2.2.2.2.2.2.2.1.keep (hb)) (And.intro (S12.out.2.2.2.2.2.2.2.2.2.2.2.2.2.2.2.1.keep (hb)) (And.intro (S12.out.2.2.2.2.2.2.2.2.2.2.2.2.2.2.2.2.1.keep (hb)) (And.intro (S12.out.2.2.2.2.2.2.2.2.2.2.2.2.2.2.2.2.2.1.keep (hb)) (And.intro (S12.out.2.2.2.2.2.2.2.2.2.2.2.2.2.2.2.2.2.2.1.keep (hb)) (And.intro (h) (below_trans (S12.out.2.2.2.2.2.2.2.2.2.2.2.2.2.2.2.2.2.2.2.2) (hb))))))))))))))))))))))
      clear h hb hHeld
      go_wp2_with fail
      refine hK.out _ _ ⟨S13.out.2.2.2.2.2.2.2.1.facts.1, S13.out.2.2.2.2.2.2.2.1.facts.2.1, S13.out.2.2.2.2.2.2.2.2.2.2.2.2.1.facts.1, S13.out.2.2.2.2.2.2.2.2.2.2.2.2.1.facts.2.1, S13.out.2.2.2.2.2.2.2.2.1.facts.1, S13.out.2.2.2.2.2.2.2.2.1.facts.2.1, S13.out.2.2.2.2.2.2.2.2.2.2.2.2.2.1.facts.1, S13.out.2.2.2.2.2.2.2.2.2.2.2.2.2.1.facts.2.1⟩ (fun hHeld => ?_); clear hK K; try simp only [Act.put, List.setIfInBounds_toArray, List.set_cons_zero, List.set_cons_succ]
      refine rgReady [14] (rgOne (fun K hK => ?_) rgNil)
      go_simp
      go_at_call 18; refine (same_zo S13.out.2.2.2.2.2.2.2.2.2.2.2.2.2.2.2.2.2.2.1 S13.out.2.2.2.2.2.2.2.2.2.2.2.2.2.2.2.2.2.2.2.1 rfl).mono ?_; rintro e w14 ⟨rfl, hb⟩
      have S14 := Lib.hid (And.intro (S13.out.1.keep (hb)) (And.intro (S13.out.2.1.keep (hb)) (And.intro (S13.out.2.2.1.keep (hb)) (And.intro (S13.out.2.2.2.1.keep (hb)) (And.intro (S13.out.2.2.2.2.1.keep (hb)) (And.intro (S13.out.2.2.2.2.2.1.keep (hb)) (And.intro (S13.out.2.2.2.2.2.2.1.keep (hb)) (And.intro (S13.out.2.2.2.2.2.2.2.1.keep (hb)) (And.intro (S13.out.2.2.2.2.2.2.2.2.1.keep (hb)) (And.intro (S13.out.2.2.2.2.2.2.2.2.2.1.keep (hb)) (And.intro (S13.out.2.2.2.2.2.2.2.2.2.2.1.keep (hb)) (And.intro (S13.out.2.2.2.2.2.2.2.2.2.2.2.1.keep (hb)) (And.intro (S13.out.2.2.2.2.2.2.2.2.2.2.2.2.1.keep (hb)) (And.intro (S13.out.2.2.2.2.2.2.2.2.2.2.2.2.2.1.keep (hb)) (And.intro (S13.out.2.2.2.2.2.2.2.2.2.2.2.2.2.2.1.keep (hb)) (And.intro (S13.out.2.2.2.2.2.2.2.2.2.2.2.2.2.2.2.1.keep (hb)) (And.intro (S13.out.2.2.2.2.2.2.2.2.2.2.2.2.2.2.2.2.1.keep (hb)) (And.intro (S13.out.2.2.2.2.2.2.2.2.2.2.2.2.2.2.2.2.2.1.keep (hb)) (below_trans (S13.out.2.2.2.2.2.2.2.2.2.2.2.2.2.2.2.2.2.2.2.2) (hb))))))))))))))))))))
      clear hb hHeld
      go_wp2_with fail
      refine hK.out _ _ ⟨S14.out.2.2.2.2.2.2.2.1.facts.1, S14.out.2.2.2.2.2.2.2.1.facts.2.1, S14.out.2.2.2.2.2.2.2.2.2.2.2.2.1.facts.1, S14.out.2.2.2.2.2.2.2.2.2.2.2.2.1.facts.2.1, S14.out.2.2.2.2.2.2.2.2.1.facts.1, S14.out.2.2.2.2.2.2.2.2.1.facts.2.1, S14.out.2.2.2.2.2.2.2.2.2.2.2.2.2.1.facts.1, S14.out.2.2.2.2.2.2.2.2.2.2.2.2.2.1.facts.2.1⟩ (fun hHeld => ?_); clear hK K; try simp only [Act.put, List.setIfInBounds_toArray, List.set_cons_zero, List.set_cons_succ]
      refine rgTake 15 hHeld ?_; try simp only [Act.put, List.setIfInBounds_toArray, List.set_cons_zero, List.set_cons_succ]
      refine rgTake 16 hHeld ?_; try simp only [Act.put, List.setIfInBounds_toArray, List.set_cons_zero, List.set_cons_succ]
      refine rgTake 17 hHeld ?_; try simp only [Act.put, List.setIfInBounds_toArray, List.set_cons_zero, List.set_cons_succ]
      refine rgTake 19 hHeld ?_; try simp only [Act.put, List.setIfInBounds_toArray, List.set_cons_zero, List.set_cons_succ]
      refine rgReady [18] (rgOne (fun K hK => ?_) rgNil)
      go_simp
      go_at_call 29; refine (sign_k HE.out.1 S14.out.2.2.2.2.2.2.2.2.2.2.2.2.2.2.2.2.1 (by decide)).mono ?_; rintro e w15 ⟨rfl, hb⟩
      have S15 := Lib.hid (And.intro (S14.out.1.keep (hb)) (And.intro (S14.out.2.1.keep (hb)) (And.intro (S14.out.2.2.1.keep (hb)) (And.intro (S14.out.2.2.2.1.keep (hb)) (And.intro (S14.out.2.2.2.2.1.keep (hb)) (And.intro (S14.out.2.2.2.2.2.1.keep (hb)) (And.intro (S14.out.2.2.2.2.2.2.1.keep (hb)) (And.intro (S14.out.2.2.2.2.2.2.2.1.keep (hb)) (And.intro (S14.out.2.2.2.2.2.2.2.2.1.keep (hb)) (And.intro (S14.out.2.2.2.2.2.2.2.2.2.1.keep (hb)) (And.intro (S14.out.2.2.2.2.2.2.2.2.2.2.1.keep (hb)) (And.intro (S14.out.2.2.2.2.2.2.2.2.2.2.2.1.keep (hb)) (And.intro (S14.out.2.2.2.2.2.2.2.2.2.2.2.2.1.keep (hb)) (And.intro (S14.out.2.2.2.2.2.2.2.2.2.2.2.2.2.1.keep (hb)) (And.intro (S14.out.2.2.2.2.2.2.2.2.2.2.2.2.2.2.1.keep (hb)) (And.intro (S14.out.2.2.2.2.2.2.2.2.2.2.2.2.2.2.2.1.keep (hb)) (And.intro (S14.out.2.2.2.2.2.2.2.2.2.2.2.2.2.2.2.2.1.keep (hb)) (And.intro (S14.out.2.2.2.2.2.2.2.2.2.2.2.2.2.2.2.2.2.1.keep (hb)) (below_trans (S14.out.2.2.2.2.2.2.2.2.2.2.2.2.2.2.2.2.2.2) (hb))))))))))))))))))))
      clear hb hHeld
      go_wp2_with fail
      refine hK.out _ _ ⟨S15.out.2.2.2.2.2.2.2.1.facts.1, S15.out.2.2.2.2.2.2.2.1.facts.2.1, S15.out.2.2.2.2.2.2.2.2.2.2.2.2.1.facts.1, S15.out.2.2.2.2.2.2.2.2.2.2.2.2.1.facts.2.1, S15.out.2.2.2.2.2.2.2.2.1.facts.1, S15.out.2.2.2.2.2.2.2.2.1.facts.2.1, S15.out.2.2.2.2.2.2.2.2.2.2.2.2.2.1.facts.1, S15.out.2.2.2.2.2.2.2.2.2.2.2.2.2.1.facts.2.1⟩ (fun hHeld => ?_); clear hK K; try simp only [Act.put, List.setIfInBounds_toArray, List.set_cons_zero, List.set_cons_succ]
      refine rgReady [20] (rgOne (fun K hK => ?_) rgNil)
      go_simp
      go_at_call 17; refine (sign_dk HE.out.1 S15.out.2.2.2.2.2.2.2.2.2.2.2.2.2.2.1).mono ?_; rintro e w16 ⟨rfl, hb⟩
      have S16 := Lib.hid (And.intro (S15.out.1.keep (hb)) (And.intro (S15.out.2.1.keep (hb)) (And.intro (S15.out.2.2.1.keep (hb)) (And.intro (S15.out.2.2.2.1.keep (hb)) (And.intro (S15.out.2.2.2.2.1.keep (hb)) (And.intro (S15.out.2.2.2.2.2.1.keep (hb)) (And.intro (S15.out.2.2.2.2.2.2.1.keep (hb)) (And.intro (S15.out.2.2.2.2.2.2.2.1.keep (hb)) (And.intro (S15.out.2.2.2.2.2.2.2.2.1.keep (hb)) (And.intro (S15.out.2.2.2.2.2.2.2.2.2.1.keep (hb)) (And.intro (S15.out.2.2.2.2.2.2.2.2.2.2.1.keep (hb)) (And.intro (S15.out.2.2.2.2.2.2.2.2.2.2.2.1.keep (hb)) (And.intro (S15.out.2.2.2.2.2.2.2.2.2.2.2.2.1.keep (hb)) (And.intro (S15.out.2.2.2.2.2.2.2.2.2.2.2.2.2.1.keep (hb)) (And.intro (S15.out.2.2.2.2.2.2.2.2.2.2.2.2.2.2.1.keep (hb)) (And.intro (S15.out.2.2.2.2.2.2.2.2.2.2.2.2.2.2.2.1.keep (hb)) (And.intro (S15.out.2.2.2.2.2.2.2.2.2.2.2.2.2.2.2.2.1.keep (hb)) (And.intro (S15.out.2.2.2.2.2.2.2.2.2.2.2.2.2.2.2.2.2.1.keep (hb)) (below_trans (S15.out.2.2.2.2.2.2.2.2.2.2.2.2.2.2.2.2.2.2) (hb))))))))))))))))))))
      clear hb hHeld
      go_wp2_with fail
      refine hK.out _ _ ⟨S16.out.2.2.2.2.2.2.2.1.facts.1, S16.out.2.2.2.2.2.2.2.1.facts.2.1, S16.out.2.2.2.2.2.2.2.2.2.2.2.2.1.facts.1, S16.out.2.2.2.2.2.2.2.2.2.2.2.2.1.facts.2.1, S16.out.2.2.2.2.2.2.2.2.1.facts.1, S16.out.2.2.2.2.2.2.2.2.1.facts.2.1, S16.out.2.2.2.2.2.2.2.2.2.2.2.2.2.1.facts.1, S16.out.2.2.2.2.2.2.2.2.2.2.2.2.2.1.facts.2.1⟩ (fun hHeld => ?_); clear hK K; try simp only [Act.put, List.setIfInBounds_toArray, List.set_cons_zero, List.set_cons_succ]
      refine rgTake 21 hHeld ?_; try simp only [Act.put, List.setIfInBounds_toArray, List.set_cons_zero, List.set_cons_succ]
      refine rgTake 22 hHeld ?_; try simp only [Act.put, List.setIfInBounds_toArray, List.set_cons_zero, List.set_cons_succ]
      refine rgTake 23 hHeld ?_; try simp only [Act.put, List.setIfInBounds_toArray, List.set_cons_zero, List.set_cons_succ]
      refine rgTake 24 hHeld ?_; try simp only [Act.put, List.setIfInBounds_toArray, List.set_cons_zero, List.set_cons_succ]
      refine rgTake 25 hHeld ?_; try simp only [Act.put, List.setIfInBounds_toArray, List.set_cons_zero, List.set_cons_succ]
      refine rgTake 27 hHeld ?_; try simp only [Act.put, List.setIfInBounds_toArray, List.set_cons_zero, List.set_cons_succ]
      refine rgTake 28 hHeld ?_; try simp only [Act.put, List.setIfInBounds_toArray, List.set_cons_zero, List.set_cons_succ]
      refine rgReady [26] (rgOne (fun K hK => ?_) rgNil)
      go_simp
      go_at_call 30; refine (cmp_k HE.out.2 S16.out.2.2.2.2.2.2.2.2.2.2.2.2.2.2.2.2.1 S16.out.2.2.2.2.2.2.2.2.2.2.2.2.2.2.2.2.2.1 (by decide) (by decide)).mono ?_; rintro e w17 ⟨rfl, hb⟩
      have S17 := Lib.hid (And.intro (S16.out.1.keep (hb)) (And.intro (S16.out.2.1.keep (hb)) (And.intro (S16.out.2.2.1.keep (hb)) (And.intro (S16.out.2.2.2.1.keep (hb)) (And.intro (S16.out.2.2.2.2.1.keep (hb)) (And.intro (S16.out.2.2.2.2.2.1.keep (hb)) (And.intro (S16.out.2.2.2.2.2.2.1.keep (hb)) (And.intro (S16.out.2.2.2.2.2.2.2.1.keep (hb)) (And.intro (S16.out.2.2.2.2.2.2.2.2.1.keep (hb)) (And.intro (S16.out.2.2.2.2.2.2.2.2.2.1.keep (hb)) (And.intro (S16.out.2.2.2.2.2.2.2.2.2.2.1.keep (hb)) (And.intro (S16.out.2.2.2.2.2.2.2.2.2.2.2.1.keep (hb)) (And.intro (S16.out.2.2.2.2.2.2.2.2.2.2.2.2.1.keep (hb)) (And.intro (S16.out.2.2.2.2.2.2.2.2.2.2.2.2.2.1.keep (hb)) (And.intro (S16.out.2.2.2.2.2.2.2.2.2.2.2.2.2.2.1.keep (hb)) (And.intro (S16.out.2.2.2.2.2.2.2.2.2.2.2.2.2.2.2.1.keep (hb)) (And.intro (S16.out.2.2.2.2.2.2.2.2.2.2.2.2.2.2.2.2.1.keep (hb)) (And.intro (S16.out.2.2.2.2.2.2.2.2.2.2.2.2.2.2.2.2.2.1.keep (hb)) (below_trans (S16.out.2.2.2.2.2.2.2.2.2.2.2.2.2.2.2.2.2.2) (hb))))))))))))))))))))
      clear hb hHeld
      go_wp2_with fail
      refine hK.out _ _ ⟨S17.out.2.2.2.2.2.2.2.1.facts.1, S17.out.2.2.2.2.2.2.2.1.facts.2.1, S17.out.2.2.2.2.2.2.2.2.2.2.2.2.1.facts.1, S17.out.2.2.2.2.2.2.2.2.2.2.2.2.1.facts.2.1, S17.out.2.2.2.2.2.2.2.2.1.facts.1, S17.out.2.2.2.2.2.2.2.2.1.facts.2.1, S17.out.2.2.2.2.2.2.2.2.2.2.2.2.2.1.facts.1, S17.out.2.2.2.2.2.2.2.2.2.2.2.2.2.1.facts.2.1⟩ (fun hHeld => ?_); clear hK K; try simp only [Act.put, List.setIfInBounds_toArray, List.set_cons_zero, List.set_cons_succ]
      refine rgReady [29] (rgOne (fun K hK => ?_) rgNil)
      go_simp
      go_at_call 31; refine (cmp_dk HE.out.2 S17.out.2.2.2.2.2.2.2.2.2.2.2.2.2.2.1 S17.out.2.2.2.2.2.2.2.2.2.2.2.2.2.2.2.1 (by decide) (by decide)).mono ?_; rintro e w18 ⟨rfl, hb⟩
      have S18 := Lib.hid (And.intro (S17.out.1.keep (hb)) (And.intro (S17.out.2.1.keep (hb)) (And.intro (S17.out.2.2.1.keep (hb)) (And.intro (S17.out.2.2.2.1.keep (hb)) (And.intro (S17.out.2.2.2.2.1.keep (hb)) (And.intro (S17.out.2.2.2.2.2.1.keep (hb)) (And.intro (S17.out.2.2.2.2.2.2.1.keep (hb)) (And.intro (S17.out.2.2.2.2.2.2.2.1.keep (hb)) (And.intro (S17.out.2.2.2.2.2.2.2.2.1.keep (hb)) (And.intro (S17.out.2.2.2.2.2.2.2.2.2.1.keep (hb)) (And.intro (S17.out.2.2.2.2.2.2.2.2.2.2.1.keep (hb)) (And.intro (S17.out.2.2.2.2.2.2.2.2.2.2.2.1.keep (hb)) (And.intro (S17.out.2.2.2.2.2.2.2.2.2.2.2.2.1.keep (hb)) (And.intro (S17.out.2.2.2.2.2.2.2.2.2.2.2.2.2.1.keep (hb)) (And.intro (S17.out.2.2.2.2.2.2.2.2.2.2.2.2.2.2.1.keep (hb)) (And.intro (S17.out.2.2.2.2.2.2.2.2.2.2.2.2.2.2.2.1.keep (hb)) (And.intro (S17.out.2.2.2.2.2.2.2.2.2.2.2.2.2.2.2.2.1.keep (hb)) (And.intro (S17.out.2.2.2.2.2.2.2.2.2.2.2.2.2.2.2.2.2.1.keep (hb)) (below_trans (S17.out.2.2.2.2.2.2.2.2.2.2.2.2.2.2.2.2.2.2) (hb))))))))))))))))))))
      clear hb hHeld
      go_wp2_with fail
      refine hK.out _ _ ⟨S18.out.2.2.2.2.2.2.2.1.facts.1, S18.out.2.2.2.2.2.2.2.1.facts.2.1, S18.out.2.2.2.2.2.2.2.2.2.2.2.2.1.facts.1, S18.out.2.2.2.2.2.2.2.2.2.2.2.2.1.facts.2.1, S18.out.2.2.2.2.2.2.2.2.1.facts.1, S18.out.2.2.2.2.2.2.2.2.1.facts.2.1, S18.out.2.2.2.2.2.2.2.2.2.2.2.2.2.1.facts.1, S18.out.2.2.2.2.2.2.2.2.2.2.2.2.2.1.facts.2.1⟩ (fun hHeld => ?_); clear hK K; try simp only [Act.put, List.setIfInBounds_toArray, List.set_cons_zero, List.set_cons_succ]
      refine rgTake 30 hHeld ?_; try simp only [Act.put, List.setIfInBounds_toArray, List.set_cons_zero, List.set_cons_succ]
      refine rgTake 31 hHeld ?_; try simp only [Act.put, List.setIfInBounds_toArray, List.set_cons_zero, List.set_cons_succ]
      refine rgTake 32 hHeld ?_; try simp only [Act.put, List.setIfInBounds_toArray, List.set_cons_zero, List.set_cons_succ]
      refine wpAnyH_done (by kernel_rfl) ?_ _
      clear hHeld
      generalize w18 = V7 at S18 ⊢
      have SC := S18
      have HW := Lib.hid (Since.refl V7)
      go_upto_region 8 with (fail)
      go_cut [10, 11, 12] (fun s10 s11 s12 wx => ∃ (gp : Nat) (gq : Nat) (gr : Nat) (pp : Bool) (Ap : Option Addr) (lp : Nat) (cp : Nat) (pq : Bool) (Aq : Option Addr) (lq : Nat) (cq : Nat) (pr : Bool) (Ar : Option Addr) (lr : Nat) (cr : Nat), s10 = .pointer (some ⟨gp, 0, none⟩) ∧ s11 = .pointer (some ⟨gq, 0, none⟩) ∧ s12 = .pointer (some ⟨gr, 0, none⟩) ∧ Since V7 wx ∧ Bx 24 wx gp (.bool pp) (.slice Ap lp cp) ∧ Bx 24 wx gq (.bool pq) (.slice Aq lq cq) ∧ Bx 24 wx gr (.bool pr) (.slice Ar lr cr) ∧ Zo wx (.agg #[.bool pp, .slice Ap lp cp]) (x + y) ∧ Om wx V7.heap.size (.agg #[.bool pp, .slice Ap lp cp]) ∧ Zo wx (.agg #[.bool pq, .slice Aq lq cq]) (x - y) ∧ Om wx V7.heap.size (.agg #[.bool pq, .slice Aq lq cq]) ∧ Zo wx (.agg #[.bool pr, .slice Ar lr cr]) (x * y) ∧ Om wx V7.heap.size (.agg #[.bool pr, .slice Ar lr cr]))
      case first =>
        refine wp_region_held_drew (S := fun W => W.cell? ⟨gx, 0, none⟩ = some (.bool pa) ∧ W.cell? ⟨gx, 1, none⟩ = some (.slice Ax lx cx) ∧ W.cell? ⟨gy, 0, none⟩ = some (.bool pb) ∧ W.cell? ⟨gy, 1, none⟩ = some (.slice Ay ly cy)) (by kernel_rfl) ⟨(S18.out.2.2.2.2.2.2.2.1.keep (below_dr _ 1)).facts.1, (S18.out.2.2.2.2.2.2.2.1.keep (below_dr _ 1)).facts.2.1, (S18.out.2.2.2.2.2.2.2.2.1.keep (below_dr _ 1)).facts.1, (S18.out.2.2.2.2.2.2.2.2.1.keep (below_dr _ 1)).facts.2.1⟩ (fun hHeld => ?_)
        refine rgTake 0 hHeld ?_; try simp only [Act.put, List.setIfInBounds_toArray, List.set_cons_zero, List.set_cons_succ]
        refine rgTake 1 hHeld ?_; try simp only [Act.put, List.setIfInBounds_toArray, List.set_cons_zero, List.set_cons_succ]
        refine rgTake 3 hHeld ?_; try simp only [Act.put, List.setIfInBounds_toArray, List.set_cons_zero, List.set_cons_succ]
        refine rgTake 4 hHeld ?_; try simp only [Act.put, List.setIfInBounds_toArray, List.set_cons_zero, List.set_cons_succ]
        refine rgTake 6 hHeld ?_; try simp only [Act.put, List.setIfInBounds_toArray, List.set_cons_zero, List.set_cons_succ]
        refine rgTake 7 hHeld ?_; try simp only [Act.put, List.setIfInBounds_toArray, List.set_cons_zero, List.set_cons_succ]
        have R0 := Lib.hid (show Since V7 V7.drew from HW.out.keep (below_dr _ 1))
        generalize V7.drew = Wd at R0 hHeld ⊢
        refine wpAnyH_ctx (fun F hF => ?_)
        have HF := Lib.hid hF
        clear hF
        refine act_ctx (G := fun a => F _ _ a Wd) (fun a0 ha0 => ?_)
        have HA := Lib.hid ha0
        clear ha0 hHeld
        have st3pqr3 : ∀ (W : World) (pp : Bool) (Ap : Option Addr) (lp : Nat) (cp : Nat) (pq : Bool) (Aq : Option Addr) (lq : Nat) (cq : Nat) (pr : Bool) (Ar : Option Addr) (lr : Nat) (cr : Nat) (gp : Nat) (gq : Nat) (gr : Nat), Hid (Since V7 W ∧ Zo W (.agg #[.bool pp, .slice Ap lp cp]) (x + y) ∧ Om W V7.heap.size (.agg #[.bool pp, .slice Ap lp cp]) ∧ Zo W (.agg #[.bool pq, .slice Aq lq cq]) (x - y) ∧ Om W V7.heap.size (.agg #[.bool pq, .slice Aq lq cq]) ∧ Zo W (.agg #[.bool pr, .slice Ar lr cr]) (x * y) ∧ Om W V7.heap.size (.agg #[.bool pr, .slice Ar lr cr]) ∧ Bx 24 W gp (.bool pp) (.slice Ap lp cp) ∧ V7.heap.size ≤ gp ∧ Bx 24 W gq (.bool pq) (.slice Aq lq cq) ∧ V7.heap.size ≤ gq ∧ Bx 24 W gr (.bool pr) (.slice Ar lr cr) ∧ V7.heap.size ≤ gr ∧ gp ≠ gq ∧ gp ≠ gr ∧ gq ≠ gr) → F 0 #[true, true, true, true, true, true, true, true, true, true, true, true, true, true, true] ((((((a0.put (some 10) (.pointer (some ⟨gp, 0, none⟩))).put (some 11) (.pointer (some ⟨gq, 0, none⟩))).put (some 12) (.pointer (some ⟨gr, 0, none⟩))).put (some 60) (.agg #[.bool pp, .slice Ap lp cp])).put (some 63) (.agg #[.bool pq, .slice Aq lq cq])).put (some 66) (.agg #[.bool pr, .slice Ar lr cr])) W := by
          intro W pp Ap lp cp pq Aq lq cq pr Ar lr cr gp gq gr R
          refine (HF.out _ _ _ _).2 ?_; rw [HA.out]; try simp only [Act.put, List.setIfInBounds_toArray, List.set_cons_zero, List.set_cons_succ]
          obtain ⟨rW, rzp, rOp, rzq, rOq, rzr, rOr, rXp, rPp, rXq, rPq, rXr, rPr, rNpq, rNpr, rNqr⟩ := R.out
          refine wpAnyH_done (by kernel_rfl) ?_ _; go_wp2_with fail; go_meet
          exact ⟨_, _, _, _, _, _, _, _, _, _, _, _, _, _, _, rfl, rfl, rfl, rW, rXp, rXq, rXr, rzp, rOp, rzq, rOq, rzr, rOr⟩
        have st3pqr2 : ∀ (W : World) (pp : Bool) (Ap : Option Addr) (lp : Nat) (cp : Nat) (pq : Bool) (Aq : Option Addr) (lq : Nat) (cq : Nat) (pr : Bool) (Ar : Option Addr) (lr : Nat) (cr : Nat) (gp : Nat) (gq : Nat) (gr : Nat), Hid (Since V7 W ∧ Zo W (.agg #[.bool pp, .slice Ap lp cp]) (x + y) ∧ Om W V7.heap.size (.agg #[.bool pp, .slice Ap lp cp]) ∧ Zo W (.agg #[.bool pq, .slice Aq lq cq]) (x - y) ∧ Om W V7.heap.size (.agg #[.bool pq, .slice Aq lq cq]) ∧ Zo W (.agg #[.bool pr, .slice Ar lr cr]) (x * y) ∧ Om W V7.heap.size (.agg #[.bool pr, .slice Ar lr cr]) ∧ Bx 24 W gp (.bool pp) (.slice Ap lp cp) ∧ V7.heap.size ≤ gp ∧ Bx 24 W gq (.bool pq) (.slice Aq lq cq) ∧ V7.heap.size ≤ gq ∧ Bx 24 W gr (.bool false) (.slice none 0 0) ∧ V7.heap.size ≤ gr ∧ gp ≠ gq ∧ gp ≠ gr ∧ gq ≠ gr) → F 1 #[true, true, true, true, true, true, true, true, true, true, true, true, true, true, false] ((((((a0.put (some 10) (.pointer (some ⟨gp, 0, none⟩))).put (some 11) (.pointer (some ⟨gq, 0, none⟩))).put (some 12) (.pointer (some ⟨gr, 0, none⟩))).put (some 60) (.agg #[.bool pp, .slice Ap lp cp])).put (some 63) (.agg #[.bool pq, .slice Aq lq cq])).put (some 66) (.agg #[.bool pr, .slice Ar lr cr])) W := by
          intro W pp Ap lp cp pq Aq lq cq pr Ar lr cr gp gq gr R
          refine (HF.out _ _ _ _).2 ?_; rw [HA.out]; try simp only [Act.put, List.setIfInBounds_toArray, List.set_cons_zero, List.set_cons_succ]
          obtain ⟨rW, rzp, rOp, rzq, rOq, rzr, rOr, rXp, rPp, rXq, rPq, rXr, rPr, rNpq, rNpr, rNqr⟩ := R.out
          refine rgReady [14] (rgOne (fun K hK => ?_) rgNil)
          obtain ⟨fa, fb, fc, fd⟩ := rXr.facts; go_simp; clear fa fb fc fd
          have rW2 := rW.put rXr rPr (.bool pr) (.slice Ar lr cr)
          refine hK.out _ _ ⟨(S18.out.2.2.2.2.2.2.2.1.keep rW2).facts.1, (S18.out.2.2.2.2.2.2.2.1.keep rW2).facts.2.1, (S18.out.2.2.2.2.2.2.2.2.1.keep rW2).facts.1, (S18.out.2.2.2.2.2.2.2.2.1.keep rW2).facts.2.1⟩ (fun _ => ?_); clear hK K
          have q := (HF.out _ _ _ _).1 (st3pqr3 _ pp Ap lp cp pq Aq lq cq pr Ar lr cr gp gq gr (Lib.hid ⟨rW2, rzp.put rXr (.bool pr) (.slice Ar lr cr), rOp.put rXr (by decide) (.bool pr) (.slice Ar lr cr), rzq.put rXr (.bool pr) (.slice Ar lr cr), rOq.put rXr (by decide) (.bool pr) (.slice Ar lr cr), rzr.put rXr (.bool pr) (.slice Ar lr cr), rOr.put rXr (by decide) (.bool pr) (.slice Ar lr cr), rXp.other2 (Ne.symm rNpr) (.bool pr) (.slice Ar lr cr), rPp, rXq.other2 (Ne.symm rNqr) (.bool pr) (.slice Ar lr cr), rPq, rXr.set (.bool pr) (.slice Ar lr cr), rPr, rNpq, rNpr, rNqr⟩)); rw [HA.out] at q; simp only [Act.put, List.setIfInBounds_toArray, List.set_cons_zero, List.set_cons_succ] at q; try simp only [Act.put, List.setIfInBounds_toArray, List.set_cons_zero, List.set_cons_succ]; exact q
        have st3pqr1 : ∀ (W : World) (pp : Bool) (Ap : Option Addr) (lp : Nat) (cp : Nat) (pq : Bool) (Aq : Option Addr) (lq : Nat) (cq : Nat) (pr : Bool) (Ar : Option Addr) (lr : Nat) (cr : Nat) (gp : Nat) (gq : Nat) (gr : Nat), Hid (Since V7 W ∧ Zo W (.agg #[.bool pp, .slice Ap lp cp]) (x + y) ∧ Om W V7.heap.size (.agg #[.bool pp, .slice Ap lp cp]) ∧ Zo W (.agg #[.bool pq, .slice Aq lq cq]) (x - y) ∧ Om W V7.heap.size (.agg #[.bool pq, .slice Aq lq cq]) ∧ Zo W (.agg #[.bool pr, .slice Ar lr cr]) (x * y) ∧ Om W V7.heap.size (.agg #[.bool pr, .slice Ar lr cr]) ∧ Bx 24 W gp (.bool pp) (.slice Ap lp cp) ∧ V7.heap.size ≤ gp ∧ Bx 24 W gq (.bool false) (.slice none 0 0) ∧ V7.heap.size ≤ gq ∧ Bx 24 W gr (.bool false) (.slice none 0 0) ∧ V7.heap.size ≤ gr ∧ gp ≠ gq ∧ gp ≠ gr ∧ gq ≠ gr) → F 2 #[true, true, true, true, true, true, true, true, true, true, true, true, true, false, false] ((((((a0.put (some 10) (.pointer (some ⟨gp, 0, none⟩))).put (some 11) (.pointer (some ⟨gq, 0, none⟩))).put (some 12) (.pointer (some ⟨gr, 0, none⟩))).put (some 60) (.agg #[.bool pp, .slice Ap lp cp])).put (some 63) (.agg #[.bool pq, .slice Aq lq cq])).put (some 66) (.agg #[.bool pr, .slice Ar lr cr])) W := by
          intro W pp Ap lp cp pq Aq lq cq pr Ar lr cr gp gq gr R
          refine (HF.out _ _ _ _).2 ?_; rw [HA.out]; try simp only [Act.put, List.setIfInBounds_toArray, List.set_cons_zero, List.set_cons_succ]
          obtain ⟨rW, rzp, rOp, rzq, rOq, rzr, rOr, rXp, rPp, rXq, rPq, rXr, rPr, rNpq, rNpr, rNqr⟩ := R.out
          refine rgReady [13] (rgOne (fun K hK => ?_) rgNil)
          obtain ⟨fa, fb, fc, fd⟩ := rXq.facts; go_simp; clear fa fb fc fd
          have rW2 := rW.put rXq rPq (.bool pq) (.slice Aq lq cq)
          refine hK.out _ _ ⟨(S18.out.2.2.2.2.2.2.2.1.keep rW2).facts.1, (S18.out.2.2.2.2.2.2.2.1.keep rW2).facts.2.1, (S18.out.2.2.2.2.2.2.2.2.1.keep rW2).facts.1, (S18.out.2.2.2.2.2.2.2.2.1.keep rW2).facts.2.1⟩ (fun _ => ?_); clear hK K
          have q := (HF.out _ _ _ _).1 (st3pqr2 _ pp Ap lp cp pq Aq lq cq pr Ar lr cr gp gq gr (Lib.hid ⟨rW2, rzp.put rXq (.bool pq) (.slice Aq lq cq), rOp.put rXq (by decide) (.bool pq) (.slice Aq lq cq), rzq.put rXq (.bool pq) (.slice Aq lq cq), rOq.put rXq (by decide) (.bool pq) (.slice Aq lq cq), rzr.put rXq (.bool pq) (.slice Aq lq cq), rOr.put rXq (by decide) (.bool pq) (.slice Aq lq cq), rXp.other2 (Ne.symm rNpq) (.bool pq) (.slice Aq lq cq), rPp, rXq.set (.bool pq) (.slice Aq lq cq), rPq, rXr.other2 (rNqr) (.bool pq) (.slice Aq lq cq), rPr, rNpq, rNpr, rNqr⟩)); rw [HA.out] at q; simp only [Act.put, List.setIfInBounds_toArray, List.set_cons_zero, List.set_cons_succ] at q; try simp only [Act.put, List.setIfInBounds_toArray, List.set_cons_zero, List.set_cons_succ]; exact q
        have st3pqr : ∀ (W : World) (pp : Bool) (Ap : Option Addr) (lp : Nat) (cp : Nat) (pq : Bool) (Aq : Option Addr) (lq : Nat) (cq : Nat) (pr : Bool) (Ar : Option Addr) (lr : Nat) (cr : Nat) (gp : Nat) (gq : Nat) (gr : Nat), Hid (Since V7 W ∧ Zo W (.agg #[.bool pp, .slice Ap lp cp]) (x + y) ∧ Om W V7.heap.size (.agg #[.bool pp, .slice Ap lp cp]) ∧ Zo W (.agg #[.bool pq, .slice Aq lq cq]) (x - y) ∧ Om W V7.heap.size (.agg #[.bool pq, .slice Aq lq cq]) ∧ Zo W (.agg #[.bool pr, .slice Ar lr cr]) (x * y) ∧ Om W V7.heap.size (.agg #[.bool pr, .slice Ar lr cr]) ∧ Bx 24 W gp (.bool false) (.slice none 0 0) ∧ V7.heap.size ≤ gp ∧ Bx 24 W gq (.bool false) (.slice none 0 0) ∧ V7.heap.size ≤ gq ∧ Bx 24 W gr (.bool false) (.slice none 0 0) ∧ V7.heap.size ≤ gr ∧ gp ≠ gq ∧ gp ≠ gr ∧ gq ≠ gr) → F 3 #[true, true, true, true, true, true, true, true, true, true, true, true, false, false, false] ((((((a0.put (some 10) (.pointer (some ⟨gp, 0, none⟩))).put (some 11) (.pointer (some ⟨gq, 0, none⟩))).put (some 12) (.pointer (some ⟨gr, 0, none⟩))).put (some 60) (.agg #[.bool pp, .slice Ap lp cp])).put (some 63) (.agg #[.bool pq, .slice Aq lq cq])).put (some 66) (.agg #[.bool pr, .slice Ar lr cr])) W := by
          intro W pp Ap lp cp pq Aq lq cq pr Ar lr cr gp gq gr R
          refine (HF.out _ _ _ _).2 ?_; rw [HA.out]; try simp only [Act.put, List.setIfInBounds_toArray, List.set_cons_zero, List.set_cons_succ]
          obtain ⟨rW, rzp, rOp, rzq, rOq, rzr, rOr, rXp, rPp, rXq, rPq, rXr, rPr, rNpq, rNpr, rNqr⟩ := R.out
          refine rgReady [12] (rgOne (fun K hK => ?_) rgNil)
          obtain ⟨fa, fb, fc, fd⟩ := rXp.facts; go_simp; clear fa fb fc fd
          have rW2 := rW.put rXp rPp (.bool pp) (.slice Ap lp cp)
          refine hK.out _ _ ⟨(S18.out.2.2.2.2.2.2.2.1.keep rW2).facts.1, (S18.out.2.2.2.2.2.2.2.1.keep rW2).facts.2.1, (S18.out.2.2.2.2.2.2.2.2.1.keep rW2).facts.1, (S18.out.2.2.2.2.2.2.2.2.1.keep rW2).facts.2.1⟩ (fun _ => ?_); clear hK K
          have q := (HF.out _ _ _ _).1 (st3pqr1 _ pp Ap lp cp pq Aq lq cq pr Ar lr cr gp gq gr (Lib.hid ⟨rW2, rzp.put rXp (.bool pp) (.slice Ap lp cp), rOp.put rXp (by decide) (.bool pp) (.slice Ap lp cp), rzq.put rXp (.bool pp) (.slice Ap lp cp), rOq.put rXp (by decide) (.bool pp) (.slice Ap lp cp), rzr.put rXp (.bool pp) (.slice Ap lp cp), rOr.put rXp (by decide) (.bool pp) (.slice Ap lp cp), rXp.set (.bool pp) (.slice Ap lp cp), rPp, rXq.other2 (rNpq) (.bool pp) (.slice Ap lp cp), rPq, rXr.other2 (rNpr) (.bool pp) (.slice Ap lp cp), rPr, rNpq, rNpr, rNqr⟩)); rw [HA.out] at q; simp only [Act.put, List.setIfInBounds_toArray, List.set_cons_zero, List.set_cons_succ] at q; try simp only [Act.put, List.setIfInBounds_toArray, List.set_cons_zero, List.set_cons_succ]; exact q
        have st3pq : ∀ (W : World) (pp : Bool) (Ap : Option Addr) (lp : Nat) (cp : Nat) (pq : Bool) (Aq : Option Addr) (lq : Nat) (cq : Nat) (pr : Bool) (Ar : Option Addr) (lr : Nat) (cr : Nat) (gp : Nat) (gq : Nat), Hid (Since V7 W ∧ Zo W (.agg #[.bool pp, .slice Ap lp cp]) (x + y) ∧ Om W V7.heap.size (.agg #[.bool pp, .slice Ap lp cp]) ∧ Zo W (.agg #[.bool pq, .slice Aq lq cq]) (x - y) ∧ Om W V7.heap.size (.agg #[.bool pq, .slice Aq lq cq]) ∧ Zo W (.agg #[.bool pr, .slice Ar lr cr]) (x * y) ∧ Om W V7.heap.size (.agg #[.bool pr, .slice Ar lr cr]) ∧ Bx 24 W gp (.bool false) (.slice none 0 0) ∧ V7.heap.size ≤ gp ∧ Bx 24 W gq (.bool false) (.slice none 0 0) ∧ V7.heap.size ≤ gq ∧ gp ≠ gq) → F 4 #[true, true, true, true, true, true, true, true, true, true, true, false, false, false, false] (((((a0.put (some 10) (.pointer (some ⟨gp, 0, none⟩))).put (some 11) (.pointer (some ⟨gq, 0, none⟩))).put (some 60) (.agg #[.bool pp, .slice Ap lp cp])).put (some 63) (.agg #[.bool pq, .slice Aq lq cq])).put (some 66) (.agg #[.bool pr, .slice Ar lr cr])) W := by
          intro W pp Ap lp cp pq Aq lq cq pr Ar lr cr gp gq R
          refine (HF.out _ _ _ _).2 ?_; rw [HA.out]; try simp only [Act.put, List.setIfInBounds_toArray, List.set_cons_zero, List.set_cons_succ]
          obtain ⟨rW, rzp, rOp, rzq, rOq, rzr, rOr, rXp, rPp, rXq, rPq, rNpq⟩ := R.out
          refine rgReady [11] (rgOne (fun K hK => ?_) rgNil)
          have hal := below_al W (.cells #[.bool false, .slice none 0 0] 24); have rW2 := rW.keep hal
          go_simp; refine hK.out _ _ ⟨(S18.out.2.2.2.2.2.2.2.1.keep rW2).facts.1, (S18.out.2.2.2.2.2.2.2.1.keep rW2).facts.2.1, (S18.out.2.2.2.2.2.2.2.2.1.keep rW2).facts.1, (S18.out.2.2.2.2.2.2.2.2.1.keep rW2).facts.2.1⟩ (fun _ => ?_); clear hK K
          obtain ⟨gr, hg⟩ : ∃ g, g = W.heap.size := ⟨_, rfl⟩; rw [← hg]
          have q := (HF.out _ _ _ _).1 (st3pqr _ pp Ap lp cp pq Aq lq cq pr Ar lr cr gp gq gr (Lib.hid ⟨rW2, rzp.keep hal, rOp.keep hal, rzq.keep hal, rOq.keep hal, rzr.keep hal, rOr.keep hal, rXp.keep hal, rPp, rXq.keep hal, rPq, by rw [hg]; exact Bx.new _ W _ _, by rw [hg]; exact rW.out.size, rNpq, by rw [hg]; exact Nat.ne_of_lt rXp.lt, by rw [hg]; exact Nat.ne_of_lt rXq.lt⟩)); rw [HA.out] at q; simp only [Act.put, List.setIfInBounds_toArray, List.set_cons_zero, List.set_cons_succ] at q; try simp only [Act.put, List.setIfInBounds_toArray, List.set_cons_zero, List.set_cons_succ]; exact q
        have st3pr : ∀ (W : World) (pp : Bool) (Ap : Option Addr) (lp : Nat) (cp : Nat) (pq : Bool) (Aq : Option Addr) (lq : Nat) (cq : Nat) (pr : Bool) (Ar : Option Addr) (lr : Nat) (cr : Nat) (gp : Nat) (gr : Nat), Hid (Since V7 W ∧ Zo W (.agg #[.bool pp, .slice Ap lp cp]) (x + y) ∧ Om W V7.heap.size (.agg #[.bool pp, .slice Ap lp cp]) ∧ Zo W (.agg #[.bool pq, .slice Aq lq cq]) (x - y) ∧ Om W V7.heap.size (.agg #[.bool pq, .slice Aq lq cq]) ∧ Zo W (.agg #[.bool pr, .slice Ar lr cr]) (x * y) ∧ Om W V7.heap.size (.agg #[.bool pr, .slice Ar lr cr]) ∧ Bx 24 W gp (.bool false) (.slice none 0 0) ∧ V7.heap.size ≤ gp ∧ Bx 24 W gr (.bool false) (.slice none 0 0) ∧ V7.heap.size ≤ gr ∧ gp ≠ gr) → F 4 #[true, true, true, true, true, true, true, true, true, true, false, true, false, false, false] (((((a0.put (some 10) (.pointer (some ⟨gp, 0, none⟩))).put (some 12) (.pointer (some ⟨gr, 0, none⟩))).put (some 60) (.agg #[.bool pp, .slice Ap lp cp])).put (some 63) (.agg #[.bool pq, .slice Aq lq cq])).put (some 66) (.agg #[.bool pr, .slice Ar lr cr])) W := by
          intro W pp Ap lp cp pq Aq lq cq pr Ar lr cr gp gr R
          refine (HF.out _ _ _ _).2 ?_; rw [HA.out]; try simp only [Act.put, List.setIfInBounds_toArray, List.set_cons_zero, List.set_cons_succ]
          obtain ⟨rW, rzp, rOp, rzq, rOq, rzr, rOr, rXp, rPp, rXr, rPr, rNpr⟩ := R.out
          refine rgReady [10] (rgOne (fun K hK => ?_) rgNil)
          have hal := below_al W (.cells #[.bool false, .slice none 0 0] 24); have rW2 := rW.keep hal
          go_simp; refine hK.out _ _ ⟨(S18.out.2.2.2.2.2.2.2.1.keep rW2).facts.1, (S18.out.2.2.2.2.2.2.2.1.keep rW2).facts.2.1, (S18.out.2.2.2.2.2.2.2.2.1.keep rW2).facts.1, (S18.out.2.2.2.2.2.2.2.2.1.keep rW2).facts.2.1⟩ (fun _ => ?_); clear hK K
          obtain ⟨gq, hg⟩ : ∃ g, g = W.heap.size := ⟨_, rfl⟩; rw [← hg]
          have q := (HF.out _ _ _ _).1 (st3pqr _ pp Ap lp cp pq Aq lq cq pr Ar lr cr gp gq gr (Lib.hid ⟨rW2, rzp.keep hal, rOp.keep hal, rzq.keep hal, rOq.keep hal, rzr.keep hal, rOr.keep hal, rXp.keep hal, rPp, by rw [hg]; exact Bx.new _ W _ _, by rw [hg]; exact rW.out.size, rXr.keep hal, rPr, by rw [hg]; exact Nat.ne_of_lt rXp.lt, rNpr, by rw [hg]; exact Nat.ne_of_gt rXr.lt⟩)); rw [HA.out] at q; simp only [Act.put, List.setIfInBounds_toArray, List.set_cons_zero, List.set_cons_succ] at q; try simp only [Act.put, List.setIfInBounds_toArray, List.set_cons_zero, List.set_cons_succ]; exact q
        have st3qr : ∀ (W : World) (pp : Bool) (Ap : Option Addr) (lp : Nat) (cp : Nat) (pq : Bool) (Aq : Option Addr) (lq : Nat) (cq : Nat) (pr : Bool) (Ar : Option Addr) (lr : Nat) (cr : Nat) (gq : Nat) (gr : Nat), Hid (Since V7 W ∧ Zo W (.agg #[.bool pp, .slice Ap lp cp]) (x + y) ∧ Om W V7.heap.size (.agg #[.bool pp, .slice Ap lp cp]) ∧ Zo W (.agg #[.bool pq, .slice Aq lq cq]) (x - y) ∧ Om W V7.heap.size (.agg #[.bool pq, .slice Aq lq cq]) ∧ Zo W (.agg #[.bool pr, .slice Ar lr cr]) (x * y) ∧ Om W V7.heap.size (.agg #[.bool pr, .slice Ar lr cr]) ∧ Bx 24 W gq (.bool false) (.slice none 0 0) ∧ V7.heap.size ≤ gq ∧ Bx 24 W gr (.bool false) (.slice none 0 0) ∧ V7.heap.size ≤ gr ∧ gq ≠ gr) → F 4 #[true, true, true, true, true, true, true, true, true, false, true, true, false, false, false] (((((a0.put (some 11) (.pointer (some ⟨gq, 0, none⟩))).put (some 12) (.pointer (some ⟨gr, 0, none⟩))).put (some 60) (.agg #[.bool pp, .slice Ap lp cp])).put (some 63) (.agg #[.bool pq, .slice Aq lq cq])).put (some 66) (.agg #[.bool pr, .slice Ar lr cr])) W := by
          intro W pp Ap lp cp pq Aq lq cq pr Ar lr cr gq gr R
          refine (HF.out _ _ _ _).2 ?_; rw [HA.out]; try simp only [Act.put, List.setIfInBounds_toArray, List.set_cons_zero, List.set_cons_succ]
          obtain ⟨rW, rzp, rOp, rzq, rOq, rzr, rOr, rXq, rPq, rXr, rPr, rNqr⟩ := R.out
          refine rgReady [9] (rgOne (fun K hK => ?_) rgNil)
          have hal := below_al W (.cells #[.bool false, .slice none 0 0] 24); have rW2 := rW.keep hal
          go_simp; refine hK.out _ _ ⟨(S18.out.2.2.2.2.2.2.2.1.keep rW2).facts.1, (S18.out.2.2.2.2.2.2.2.1.keep rW2).facts.2.1, (S18.out.2.2.2.2.2.2.2.2.1.keep rW2).facts.1, (S18.out.2.2.2.2.2.2.2.2.1.keep rW2).facts.2.1⟩ (fun _ => ?_); clear hK K
          obtain ⟨gp, hg⟩ : ∃ g, g = W.heap.size := ⟨_, rfl⟩; rw [← hg]
          have q := (HF.out _ _ _ _).1 (st3pqr _ pp Ap lp cp pq Aq lq cq pr Ar lr cr gp gq gr (Lib.hid ⟨rW2, rzp.keep hal, rOp.keep hal, rzq.keep hal, rOq.keep hal, rzr.keep hal, rOr.keep hal, by rw [hg]; exact Bx.new _ W _ _, by rw [hg]; exact rW.out.size, rXq.keep hal, rPq, rXr.keep hal, rPr, by rw [hg]; exact Nat.ne_of_gt rXq.lt, by rw [hg]; exact Nat.ne_of_gt rXr.lt, rNqr⟩)); rw [HA.out] at q; simp only [Act.put, List.setIfInBounds_toArray, List.set_cons_zero, List.set_cons_succ] at q; try simp only [Act.put, List.setIfInBounds_toArray, List.set_cons_zero, List.set_cons_succ]; exact q
        have st3p : ∀ (W : World) (pp : Bool) (Ap : Option Addr) (lp : Nat) (cp : Nat) (pq : Bool) (Aq : Option Addr) (lq : Nat) (cq : Nat) (pr : Bool) (Ar : Option Addr) (lr : Nat) (cr : Nat) (gp : Nat), Hid (Since V7 W ∧ Zo W (.agg #[.bool pp, .slice Ap lp cp]) (x + y) ∧ Om W V7.heap.size (.agg #[.bool pp, .slice Ap lp cp]) ∧ Zo W (.agg #[.bool pq, .slice Aq lq cq]) (x - y) ∧ Om W V7.heap.size (.agg #[.bool pq, .slice Aq lq cq]) ∧ Zo W (.agg #[.bool pr, .slice Ar lr cr]) (x * y) ∧ Om W V7.heap.size (.agg #[.bool pr, .slice Ar lr cr]) ∧ Bx 24 W gp (.bool false) (.slice none 0 0) ∧ V7.heap.size ≤ gp) → F 5 #[true, true, true, true, true, true, true, true, true, true, false, false, false, false, false] ((((a0.put (some 10) (.pointer (some ⟨gp, 0, none⟩))).put (some 60) (.agg #[.bool pp, .slice Ap lp cp])).put (some 63) (.agg #[.bool pq, .slice Aq lq cq])).put (some 66) (.agg #[.bool pr, .slice Ar lr cr])) W := by
          intro W pp Ap lp cp pq Aq lq cq pr Ar lr cr gp R
          refine (HF.out _ _ _ _).2 ?_; rw [HA.out]; try simp only [Act.put, List.setIfInBounds_toArray, List.set_cons_zero, List.set_cons_succ]
          obtain ⟨rW, rzp, rOp, rzq, rOq, rzr, rOr, rXp, rPp⟩ := R.out
          refine rgReady [10, 11] (rgOne (fun K hK => ?_) (rgOne (fun K hK => ?_) rgNil))
          ·
            have hal := below_al W (.cells #[.bool false, .slice none 0 0] 24); have rW2 := rW.keep hal
            go_simp; refine hK.out _ _ ⟨(S18.out.2.2.2.2.2.2.2.1.keep rW2).facts.1, (S18.out.2.2.2.2.2.2.2.1.keep rW2).facts.2.1, (S18.out.2.2.2.2.2.2.2.2.1.keep rW2).facts.1, (S18.out.2.2.2.2.2.2.2.2.1.keep rW2).facts.2.1⟩ (fun _ => ?_); clear hK K
            obtain ⟨gq, hg⟩ : ∃ g, g = W.heap.size := ⟨_, rfl⟩; rw [← hg]
            have q := (HF.out _ _ _ _).1 (st3pq _ pp Ap lp cp pq Aq lq cq pr Ar lr cr gp gq (Lib.hid ⟨rW2, rzp.keep hal, rOp.keep hal, rzq.keep hal, rOq.keep hal, rzr.keep hal, rOr.keep hal, rXp.keep hal, rPp, by rw [hg]; exact Bx.new _ W _ _, by rw [hg]; exact rW.out.size, by rw [hg]; exact Nat.ne_of_lt rXp.lt⟩)); rw [HA.out] at q; simp only [Act.put, List.setIfInBounds_toArray, List.set_cons_zero, List.set_cons_succ] at q; try simp only [Act.put, List.setIfInBounds_toArray, List.set_cons_zero, List.set_cons_succ]; exact q
          ·
            have hal := below_al W (.cells #[.bool false, .slice none 0 0] 24); have rW2 := rW.keep hal
            go_simp; refine hK.out _ _ ⟨(S18.out.2.2.2.2.2.2.2.1.keep rW2).facts.1, (S18.out.2.2.2.2.2.2.2.1.keep rW2).facts.2.1, (S18.out.2.2.2.2.2.2.2.2.1.keep rW2).facts.1, (S18.out.2.2.2.2.2.2.2.2.1.keep rW2).facts.2.1⟩ (fun _ => ?_); clear hK K
            obtain ⟨gr, hg⟩ : ∃ g, g = W.heap.size := ⟨_, rfl⟩; rw [← hg]
            have q := (HF.out _ _ _ _).1 (st3pr _ pp Ap lp cp pq Aq lq cq pr Ar lr cr gp gr (Lib.hid ⟨rW2, rzp.keep hal, rOp.keep hal, rzq.keep hal, rOq.keep hal, rzr.keep hal, rOr.keep hal, rXp.keep hal, rPp, by rw [hg]; exact Bx.new _ W _ _, by rw [hg]; exact rW.out.size, by rw [hg]; exact Nat.ne_of_lt rXp.lt⟩)); rw [HA.out] at q; simp only [Act.put, List.setIfInBounds_toArray, List.set_cons_zero, List.set_cons_succ] at q; try simp only [Act.put, List.setIfInBounds_toArray, List.set_cons_zero, List.set_cons_succ]; exact q
        have st3q : ∀ (W : World) (pp : Bool) (Ap : Option Addr) (lp : Nat) (cp : Nat) (pq : Bool) (Aq : Option Addr) (lq : Nat) (cq : Nat) (pr : Bool) (Ar : Option Addr) (lr : Nat) (cr : Nat) (gq : Nat), Hid (Since V7 W ∧ Zo W (.agg #[.bool pp, .slice Ap lp cp]) (x + y) ∧ Om W V7.heap.size (.agg #[.bool pp, .slice Ap lp cp]) ∧ Zo W (.agg #[.bool pq, .slice Aq lq cq]) (x - y) ∧ Om W V7.heap.size (.agg #[.bool pq, .slice Aq lq cq]) ∧ Zo W (.agg #[.bool pr, .slice Ar lr cr]) (x * y) ∧ Om W V7.heap.size (.agg #[.bool pr, .slice Ar lr cr]) ∧ Bx 24 W gq (.bool false) (.slice none 0 0) ∧ V7.heap.size ≤ gq) → F 5 #[true, true, true, true, true, true, true, true, true, false, true, false, false, false, false] ((((a0.put (some 11) (.pointer (some ⟨gq, 0, none⟩))).put (some 60) (.agg #[.bool pp, .slice Ap lp cp])).put (some 63) (.agg #[.bool pq, .slice Aq lq cq])).put (some 66) (.agg #[.bool pr, .slice Ar lr cr])) W := by
          intro W pp Ap lp cp pq Aq lq cq pr Ar lr cr gq R
          refine (HF.out _ _ _ _).2 ?_; rw [HA.out]; try simp only [Act.put, List.setIfInBounds_toArray, List.set_cons_zero, List.set_cons_succ]
          obtain ⟨rW, rzp, rOp, rzq, rOq, rzr, rOr, rXq, rPq⟩ := R.out
          refine rgReady [9, 11] (rgOne (fun K hK => ?_) (rgOne (fun K hK => ?_) rgNil))
          ·
            have hal := below_al W (.cells #[.bool false, .slice none 0 0] 24); have rW2 := rW.keep hal
            go_simp; refine hK.out _ _ ⟨(S18.out.2.2.2.2.2.2.2.1.keep rW2).facts.1, (S18.out.2.2.2.2.2.2.2.1.keep rW2).facts.2.1, (S18.out.2.2.2.2.2.2.2.2.1.keep rW2).facts.1, (S18.out.2.2.2.2.2.2.2.2.1.keep rW2).facts.2.1⟩ (fun _ => ?_); clear hK K
            obtain ⟨gp, hg⟩ : ∃ g, g = W.heap.size := ⟨_, rfl⟩; rw [← hg]
            have q := (HF.out _ _ _ _).1 (st3pq _ pp Ap lp cp pq Aq lq cq pr Ar lr cr gp gq (Lib.hid ⟨rW2, rzp.keep hal, rOp.keep hal, rzq.keep hal, rOq.keep hal, rzr.keep hal, rOr.keep hal, by rw [hg]; exact Bx.new _ W _ _, by rw [hg]; exact rW.out.size, rXq.keep hal, rPq, by rw [hg]; exact Nat.ne_of_gt rXq.lt⟩)); rw [HA.out] at q; simp only [Act.put, List.setIfInBounds_toArray, List.set_cons_zero, List.set_cons_succ] at q; try simp only [Act.put, List.setIfInBounds_toArray, List.set_cons_zero, List.set_cons_succ]; exact q
          ·
            have hal := below_al W (.cells #[.bool false, .slice none 0 0] 24); have rW2 := rW.keep hal
            go_simp; refine hK.out _ _ ⟨(S18.out.2.2.2.2.2.2.2.1.keep rW2).facts.1, (S18.out.2.2.2.2.2.2.2.1.keep rW2).facts.2.1, (S18.out.2.2.2.2.2.2.2.2.1.keep rW2).facts.1, (S18.out.2.2.2.2.2.2.2.2.1.keep rW2).facts.2.1⟩ (fun _ => ?_); clear hK K
            obtain ⟨gr, hg⟩ : ∃ g, g = W.heap.size := ⟨_, rfl⟩; rw [← hg]
            have q := (HF.out _ _ _ _).1 (st3qr _ pp Ap lp cp pq Aq lq cq pr Ar lr cr gq gr (Lib.hid ⟨rW2, rzp.keep hal, rOp.keep hal, rzq.keep hal, rOq.keep hal, rzr.keep hal, rOr.keep hal, rXq.keep hal, rPq, by rw [hg]; exact Bx.new _ W _ _, by rw [hg]; exact rW.out.size, by rw [hg]; exact Nat.ne_of_lt rXq.lt⟩)); rw [HA.out] at q; simp only [Act.put, List.setIfInBounds_toArray, List.set_cons_zero, List.set_cons_succ] at q; try simp only [Act.put, List.setIfInBounds_toArray, List.set_cons_zero, List.set_cons_succ]; exact q
        have st3r : ∀ (W : World) (pp : Bool) (Ap : Option Addr) (lp : Nat) (cp : Nat) (pq : Bool) (Aq : Option Addr) (lq : Nat) (cq : Nat) (pr : Bool) (Ar : Option Addr) (lr : Nat) (cr : Nat) (gr : Nat), Hid (Since V7 W ∧ Zo W (.agg #[.bool pp, .slice Ap lp cp]) (x + y) ∧ Om W V7.heap.size (.agg #[.bool pp, .slice Ap lp cp]) ∧ Zo W (.agg #[.bool pq, .slice Aq lq cq]) (x - y) ∧ Om W V7.heap.size (.agg #[.bool pq, .slice Aq lq cq]) ∧ Zo W (.agg #[.bool pr, .slice Ar lr cr]) (x * y) ∧ Om W V7.heap.size (.agg #[.bool pr, .slice Ar lr cr]) ∧ Bx 24 W gr (.bool false) (.slice none 0 0) ∧ V7.heap.size ≤ gr) → F 5 #[true, true, true, true, true, true, true, true, true, false, false, true, false, false, false] ((((a0.put (some 12) (.pointer (some ⟨gr, 0, none⟩))).put (some 60) (.agg #[.bool pp, .slice Ap lp cp])).put (some 63) (.agg #[.bool pq, .slice Aq lq cq])).put (some 66) (.agg #[.bool pr, .slice Ar lr cr])) W := by
          intro W pp Ap lp cp pq Aq lq cq pr Ar lr cr gr R
          refine (HF.out _ _ _ _).2 ?_; rw [HA.out]; try simp only [Act.put, List.setIfInBounds_toArray, List.set_cons_zero, List.set_cons_succ]
          obtain ⟨rW, rzp, rOp, rzq, rOq, rzr, rOr, rXr, rPr⟩ := R.out
          refine rgReady [9, 10] (rgOne (fun K hK => ?_) (rgOne (fun K hK => ?_) rgNil))
          ·
            have hal := below_al W (.cells #[.bool false, .slice none 0 0] 24); have rW2 := rW.keep hal
            go_simp; refine hK.out _ _ ⟨(S18.out.2.2.2.2.2.2.2.1.keep rW2).facts.1, (S18.out.2.2.2.2.2.2.2.1.keep rW2).facts.2.1, (S18.out.2.2.2.2.2.2.2.2.1.keep rW2).facts.1, (S18.out.2.2.2.2.2.2.2.2.1.keep rW2).facts.2.1⟩ (fun _ => ?_); clear hK K
            obtain ⟨gp, hg⟩ : ∃ g, g = W.heap.size := ⟨_, rfl⟩; rw [← hg]
            have q := (HF.out _ _ _ _).1 (st3pr _ pp Ap lp cp pq Aq lq cq pr Ar lr cr gp gr (Lib.hid ⟨rW2, rzp.keep hal, rOp.keep hal, rzq.keep hal, rOq.keep hal, rzr.keep hal, rOr.keep hal, by rw [hg]; exact Bx.new _ W _ _, by rw [hg]; exact rW.out.size, rXr.keep hal, rPr, by rw [hg]; exact Nat.ne_of_gt rXr.lt⟩)); rw [HA.out] at q; simp only [Act.put, List.setIfInBounds_toArray, List.set_cons_zero, List.set_cons_succ] at q; try simp only [Act.put, List.setIfInBounds_toArray, List.set_cons_zero, List.set_cons_succ]; exact q
          ·
            have hal := below_al W (.cells #[.bool false, .slice none 0 0] 24); have rW2 := rW.keep hal
            go_simp; refine hK.out _ _ ⟨(S18.out.2.2.2.2.2.2.2.1.keep rW2).facts.1, (S18.out.2.2.2.2.2.2.2.1.keep rW2).facts.2.1, (S18.out.2.2.2.2.2.2.2.2.1.keep rW2).facts.1, (S18.out.2.2.2.2.2.2.2.2.1.keep rW2).facts.2.1⟩ (fun _ => ?_); clear hK K
            obtain ⟨gq, hg⟩ : ∃ g, g = W.heap.size := ⟨_, rfl⟩; rw [← hg]
            have q := (HF.out _ _ _ _).1 (st3qr _ pp Ap lp cp pq Aq lq cq pr Ar lr cr gq gr (Lib.hid ⟨rW2, rzp.keep hal, rOp.keep hal, rzq.keep hal, rOq.keep hal, rzr.keep hal, rOr.keep hal, by rw [hg]; exact Bx.new _ W _ _, by rw [hg]; exact rW.out.size, rXr.keep hal, rPr, by rw [hg]; exact Nat.ne_of_gt rXr.lt⟩)); rw [HA.out] at q; simp only [Act.put, List.setIfInBounds_toArray, List.set_cons_zero, List.set_cons_succ] at q; try simp only [Act.put, List.setIfInBounds_toArray, List.set_cons_zero, List.set_cons_succ]; exact q
        have st3 : ∀ (W : World) (pp : Bool) (Ap : Option Addr) (lp : Nat) (cp : Nat) (pq : Bool) (Aq : Option Addr) (lq : Nat) (cq : Nat) (pr : Bool) (Ar : Option Addr) (lr : Nat) (cr : Nat), Hid (Since V7 W ∧ Zo W (.agg #[.bool pp, .slice Ap lp cp]) (x + y) ∧ Om W V7.heap.size (.agg #[.bool pp, .slice Ap lp cp]) ∧ Zo W (.agg #[.bool pq, .slice Aq lq cq]) (x - y) ∧ Om W V7.heap.size (.agg #[.bool pq, .slice Aq lq cq]) ∧ Zo W (.agg #[.bool pr, .slice Ar lr cr]) (x * y) ∧ Om W V7.heap.size (.agg #[.bool pr, .slice Ar lr cr])) → F 6 #[true, true, true, true, true, true, true, true, true, false, false, false, false, false, false] (((a0.put (some 60) (.agg #[.bool pp, .slice Ap lp cp])).put (some 63) (.agg #[.bool pq, .slice Aq lq cq])).put (some 66) (.agg #[.bool pr, .slice Ar lr cr])) W := by
          intro W pp Ap lp cp pq Aq lq cq pr Ar lr cr R
          refine (HF.out _ _ _ _).2 ?_; rw [HA.out]; try simp only [Act.put, List.setIfInBounds_toArray, List.set_cons_zero, List.set_cons_succ]
          obtain ⟨rW, rzp, rOp, rzq, rOq, rzr, rOr⟩ := R.out
          refine rgReady [9, 10, 11] (rgOne (fun K hK => ?_) (rgOne (fun K hK => ?_) (rgOne (fun K hK => ?_) rgNil)))
          ·
            have hal := below_al W (.cells #[.bool false, .slice none 0 0] 24); have rW2 := rW.keep hal
            go_simp; refine hK.out _ _ ⟨(S18.out.2.2.2.2.2.2.2.1.keep rW2).facts.1, (S18.out.2.2.2.2.2.2.2.1.keep rW2).facts.2.1, (S18.out.2.2.2.2.2.2.2.2.1.keep rW2).facts.1, (S18.out.2.2.2.2.2.2.2.2.1.keep rW2).facts.2.1⟩ (fun _ => ?_); clear hK K
            obtain ⟨gp, hg⟩ : ∃ g, g = W.heap.size := ⟨_, rfl⟩; rw [← hg]
            have q := (HF.out _ _ _ _).1 (st3p _ pp Ap lp cp pq Aq lq cq pr Ar lr cr gp (Lib.hid ⟨rW2, rzp.keep hal, rOp.keep hal, rzq.keep hal, rOq.keep hal, rzr.keep hal, rOr.keep hal, by rw [hg]; exact Bx.new _ W _ _, by rw [hg]; exact rW.out.size⟩)); rw [HA.out] at q; simp only [Act.put, List.setIfInBounds_toArray, List.set_cons_zero, List.set_cons_succ] at q; try simp only [Act.put, List.setIfInBounds_toArray, List.set_cons_zero, List.set_cons_succ]; exact q
          ·
            have hal := below_al W (.cells #[.bool false, .slice none 0 0] 24); have rW2 := rW.keep hal
            go_simp; refine hK.out _ _ ⟨(S18.out.2.2.2.2.2.2.2.1.keep rW2).facts.1, (S18.out.2.2.2.2.2.2.2.1.keep rW2).facts.2.1, (S18.out.2.2.2.2.2.2.2.2.1.keep rW2).facts.1, (S18.out.2.2.2.2.2.2.2.2.1.keep rW2).facts.2.1⟩ (fun _ => ?_); clear hK K
            obtain ⟨gq, hg⟩ : ∃ g, g = W.heap.size := ⟨_, rfl⟩; rw [← hg]
            have q := (HF.out _ _ _ _).1 (st3q _ pp Ap lp cp pq Aq lq cq pr Ar lr cr gq (Lib.hid ⟨rW2, rzp.keep hal, rOp.keep hal, rzq.keep hal, rOq.keep hal, rzr.keep hal, rOr.keep hal, by rw [hg]; exact Bx.new _ W _ _, by rw [hg]; exact rW.out.size⟩)); rw [HA.out] at q; simp only [Act.put, List.setIfInBounds_toArray, List.set_cons_zero, List.set_cons_succ] at q; try simp only [Act.put, List.setIfInBounds_toArray, List.set_cons_zero, List.set_cons_succ]; exact q
          ·
            have hal := below_al W (.cells #[.bool false, .slice none 0 0] 24); have rW2 := rW.keep hal
            go_simp; refine hK.out _ _ ⟨(S18.out.2.2.2.2.2.2.2.1.keep rW2).facts.1, (S18.out.2.2.2.2.2.2.2.1.keep rW2).facts.2.1, (S18.out.2.2.2.2.2.2.2.2.1.keep rW2).facts.1, (S18.out.2.2.2.2.2.2.2.2.1.keep rW2).facts.2.1⟩ (fun _ => ?_); clear hK K
            obtain ⟨gr, hg⟩ : ∃ g, g = W.heap.size := ⟨_, rfl⟩; rw [← hg]
            have q := (HF.out _ _ _ _).1 (st3r _ pp Ap lp cp pq Aq lq cq pr Ar lr cr gr (Lib.hid ⟨rW2, rzp.keep hal, rOp.keep hal, rzq.keep hal, rOq.keep hal, rzr.keep hal, rOr.keep hal, by rw [hg]; exact Bx.new _ W _ _, by rw [hg]; exact rW.out.size⟩)); rw [HA.out] at q; simp only [Act.put, List.setIfInBounds_toArray, List.set_cons_zero, List.set_cons_succ] at q; try simp only [Act.put, List.setIfInBounds_toArray, List.set_cons_zero, List.set_cons_succ]; exact q
        have st2pqr : ∀ (W : World) (pp : Bool) (Ap : Option Addr) (lp : Nat) (cp : Nat) (pq : Bool) (Aq : Option Addr) (lq : Nat) (cq : Nat) (gp : Nat) (gq : Nat) (gr : Nat), Hid (Since V7 W ∧ Zo W (.agg #[.bool pp, .slice Ap lp cp]) (x + y) ∧ Om W V7.heap.size (.agg #[.bool pp, .slice Ap lp cp]) ∧ Zo W (.agg #[.bool pq, .slice Aq lq cq]) (x - y) ∧ Om W V7.heap.size (.agg #[.bool pq, .slice Aq lq cq]) ∧ Bx 24 W gp (.bool false) (.slice none 0 0) ∧ V7.heap.size ≤ gp ∧ Bx 24 W gq (.bool false) (.slice none 0 0) ∧ V7.heap.size ≤ gq ∧ Bx 24 W gr (.bool false) (.slice none 0 0) ∧ V7.heap.size ≤ gr ∧ gp ≠ gq ∧ gp ≠ gr ∧ gq ≠ gr) → F 4 #[true, true, true, true, true, true, true, true, false, true, true, true, false, false, false] (((((a0.put (some 10) (.pointer (some ⟨gp, 0, none⟩))).put (some 11) (.pointer (some ⟨gq, 0, none⟩))).put (some 12) (.pointer (some ⟨gr, 0, none⟩))).put (some 60) (.agg #[.bool pp, .slice Ap lp cp])).put (some 63) (.agg #[.bool pq, .slice Aq lq cq])) W := by
          intro W pp Ap lp cp pq Aq lq cq gp gq gr R
          refine (HF.out _ _ _ _).2 ?_; rw [HA.out]; try simp only [Act.put, List.setIfInBounds_toArray, List.set_cons_zero, List.set_cons_succ]
          obtain ⟨rW, rzp, rOp, rzq, rOq, rXp, rPp, rXq, rPq, rXr, rPr, rNpq, rNpr, rNqr⟩ := R.out
          refine rgReady [8] (rgOne (fun K hK => ?_) rgNil)
          go_simp; go_at_call 34; refine (mul_z (S18.out.2.2.2.2.2.2.2.2.2.2.2.2.2.2.2.2.1.keep rW) (S18.out.2.2.2.2.2.2.2.2.2.2.2.2.2.2.2.2.2.1.keep rW) (by decide) (by decide)).mono ?_; rintro e W2 ⟨v, rfl, h⟩
          obtain ⟨pr, Ar, lr, cr, rfl, -⟩ := h.parts
          have rW2 := rW.keep (h.below)
          go_wp2_with fail
          refine hK.out _ _ ⟨(S18.out.2.2.2.2.2.2.2.1.keep rW2).facts.1, (S18.out.2.2.2.2.2.2.2.1.keep rW2).facts.2.1, (S18.out.2.2.2.2.2.2.2.2.1.keep rW2).facts.1, (S18.out.2.2.2.2.2.2.2.2.1.keep rW2).facts.2.1⟩ (fun _ => ?_); clear hK K
          have q := (HF.out _ _ _ _).1 (st3pqr _ pp Ap lp cp pq Aq lq cq pr Ar lr cr gp gq gr (Lib.hid ⟨rW2, rzp.keep (h.below), rOp.keep (h.below), rzq.keep (h.below), rOq.keep (h.below), h.zo, h.om rW.out.size, rXp.keep (h.below), rPp, rXq.keep (h.below), rPq, rXr.keep (h.below), rPr, rNpq, rNpr, rNqr⟩)); rw [HA.out] at q; simp only [Act.put, List.setIfInBounds_toArray, List.set_cons_zero, List.set_cons_succ] at q; try simp only [Act.put, List.setIfInBounds_toArray, List.set_cons_zero, List.set_cons_succ]; exact q
        have st2pq : ∀ (W : World) (pp : Bool) (Ap : Option Addr) (lp : Nat) (cp : Nat) (pq : Bool) (Aq : Option Addr) (lq : Nat) (cq : Nat) (gp : Nat) (gq : Nat), Hid (Since V7 W ∧ Zo W (.agg #[.bool pp, .slice Ap lp cp]) (x + y) ∧ Om W V7.heap.size (.agg #[.bool pp, .slice Ap lp cp]) ∧ Zo W (.agg #[.bool pq, .slice Aq lq cq]) (x - y) ∧ Om W V7.heap.size (.agg #[.bool pq, .slice Aq lq cq]) ∧ Bx 24 W gp (.bool false) (.slice none 0 0) ∧ V7.heap.size ≤ gp ∧ Bx 24 W gq (.bool false) (.slice none 0 0) ∧ V7.heap.size ≤ gq ∧ gp ≠ gq) → F 5 #[true, true, true, true, true, true, true, true, false, true, true, false, false, false, false] ((((a0.put (some 10) (.pointer (some ⟨gp, 0, none⟩))).put (some 11) (.pointer (some ⟨gq, 0, none⟩))).put (some 60) (.agg #[.bool pp, .slice Ap lp cp])).put (some 63) (.agg #[.bool pq, .slice Aq lq cq])) W := by
          intro W pp Ap lp cp pq Aq lq cq gp gq R
          refine (HF.out _ _ _ _).2 ?_; rw [HA.out]; try simp only [Act.put, List.setIfInBounds_toArray, List.set_cons_zero, List.set_cons_succ]
          obtain ⟨rW, rzp, rOp, rzq, rOq, rXp, rPp, rXq, rPq, rNpq⟩ := R.out
          refine rgReady [8, 11] (rgOne (fun K hK => ?_) (rgOne (fun K hK => ?_) rgNil))
          ·
            go_simp; go_at_call 34; refine (mul_z (S18.out.2.2.2.2.2.2.2.2.2.2.2.2.2.2.2.2.1.keep rW) (S18.out.2.2.2.2.2.2.2.2.2.2.2.2.2.2.2.2.2.1.keep rW) (by decide) (by decide)).mono ?_; rintro e W2 ⟨v, rfl, h⟩
            obtain ⟨pr, Ar, lr, cr, rfl, -⟩ := h.parts
            have rW2 := rW.keep (h.below)
            go_wp2_with fail
            refine hK.out _ _ ⟨(S18.out.2.2.2.2.2.2.2.1.keep rW2).facts.1, (S18.out.2.2.2.2.2.2.2.1.keep rW2).facts.2.1, (S18.out.2.2.2.2.2.2.2.2.1.keep rW2).facts.1, (S18.out.2.2.2.2.2.2.2.2.1.keep rW2).facts.2.1⟩ (fun _ => ?_); clear hK K
            have q := (HF.out _ _ _ _).1 (st3pq _ pp Ap lp cp pq Aq lq cq pr Ar lr cr gp gq (Lib.hid ⟨rW2, rzp.keep (h.below), rOp.keep (h.below), rzq.keep (h.below), rOq.keep (h.below), h.zo, h.om rW.out.size, rXp.keep (h.below), rPp, rXq.keep (h.below), rPq, rNpq⟩)); rw [HA.out] at q; simp only [Act.put, List.setIfInBounds_toArray, List.set_cons_zero, List.set_cons_succ] at q; try simp only [Act.put, List.setIfInBounds_toArray, List.set_cons_zero, List.set_cons_succ]; exact q
          ·
            have hal := below_al W (.cells #[.bool false, .slice none 0 0] 24); have rW2 := rW.keep hal
            go_simp; refine hK.out _ _ ⟨(S18.out.2.2.2.2.2.2.2.1.keep rW2).facts.1, (S18.out.2.2.2.2.2.2.2.1.keep rW2).facts.2.1, (S18.out.2.2.2.2.2.2.2.2.1.keep rW2).facts.1, (S18.out.2.2.2.2.2.2.2.2.1.keep rW2).facts.2.1⟩ (fun _ => ?_); clear hK K
            obtain ⟨gr, hg⟩ : ∃ g, g = W.heap.size := ⟨_, rfl⟩; rw [← hg]
            have q := (HF.out _ _ _ _).1 (st2pqr _ pp Ap lp cp pq Aq lq cq gp gq gr (Lib.hid ⟨rW2, rzp.keep hal, rOp.keep hal, rzq.keep hal, rOq.keep hal, rXp.keep hal, rPp, rXq.keep hal, rPq, by rw [hg]; exact Bx.new _ W _ _, by rw [hg]; exact rW.out.size, rNpq, by rw [hg]; exact Nat.ne_of_lt rXp.lt, by rw [hg]; exact Nat.ne_of_lt rXq.lt⟩)); rw [HA.out] at q; simp only [Act.put, List.setIfInBounds_toArray, List.set_cons_zero, List.set_cons_succ] at q; try simp only [Act.put, List.setIfInBounds_toArray, List.set_cons_zero, List.set_cons_succ]; exact q
        have st2pr : ∀ (W : World) (pp : Bool) (Ap : Option Addr) (lp : Nat) (cp : Nat) (pq : Bool) (Aq : Option Addr) (lq : Nat) (cq : Nat) (gp : Nat) (gr : Nat), Hid (Since V7 W ∧ Zo W (.agg #[.bool pp, .slice Ap lp cp]) (x + y) ∧ Om W V7.heap.size (.agg #[.bool pp, .slice Ap lp cp]) ∧ Zo W (.agg #[.bool pq, .slice Aq lq cq]) (x - y) ∧ Om W V7.heap.size (.agg #[.bool pq, .slice Aq lq cq]) ∧ Bx 24 W gp (.bool false) (.slice none 0 0) ∧ V7.heap.size ≤ gp ∧ Bx 24 W gr (.bool false) (.slice none 0 0) ∧ V7.heap.size ≤ gr ∧ gp ≠ gr) → F 5 #[true, true, true, true, true, true, true, true, false, true, false, true, false, false, false] ((((a0.put (some 10) (.pointer (some ⟨gp, 0, none⟩))).put (some 12) (.pointer (some ⟨gr, 0, none⟩))).put (some 60) (.agg #[.bool pp, .slice Ap lp cp])).put (some 63) (.agg #[.bool pq, .slice Aq lq cq])) W := by
          intro W pp Ap lp cp pq Aq lq cq gp gr R
          refine (HF.out _ _ _ _).2 ?_; rw [HA.out]; try simp only [Act.put, List.setIfInBounds_toArray, List.set_cons_zero, List.set_cons_succ]
          obtain ⟨rW, rzp, rOp, rzq, rOq, rXp, rPp, rXr, rPr, rNpr⟩ := R.out
          refine rgReady [8, 10] (rgOne (fun K hK => ?_) (rgOne (fun K hK => ?_) rgNil))
          ·
            go_simp; go_at_call 34; refine (mul_z (S18.out.2.2.2.2.2.2.2.2.2.2.2.2.2.2.2.2.1.keep rW) (S18.out.2.2.2.2.2.2.2.2.2.2.2.2.2.2.2.2.2.1.keep rW) (by decide) (by decide)).mono ?_; rintro e W2 ⟨v, rfl, h⟩
            obtain ⟨pr, Ar, lr, cr, rfl, -⟩ := h.parts
            have rW2 := rW.keep (h.below)
            go_wp2_with fail
            refine hK.out _ _ ⟨(S18.out.2.2.2.2.2.2.2.1.keep rW2).facts.1, (S18.out.2.2.2.2.2.2.2.1.keep rW2).facts.2.1, (S18.out.2.2.2.2.2.2.2.2.1.keep rW2).facts.1, (S18.out.2.2.2.2.2.2.2.2.1.keep rW2).facts.2.1⟩ (fun _ => ?_); clear hK K
            have q := (HF.out _ _ _ _).1 (st3pr _ pp Ap lp cp pq Aq lq cq pr Ar lr cr gp gr (Lib.hid ⟨rW2, rzp.keep (h.below), rOp.keep (h.below), rzq.keep (h.below), rOq.keep (h.below), h.zo, h.om rW.out.size, rXp.keep (h.below), rPp, rXr.keep (h.below), rPr, rNpr⟩)); rw [HA.out] at q; simp only [Act.put, List.setIfInBounds_toArray, List.set_cons_zero, List.set_cons_succ] at q; try simp only [Act.put, List.setIfInBounds_toArray, List.set_cons_zero, List.set_cons_succ]; exact q
          ·
            have hal := below_al W (.cells #[.bool false, .slice none 0 0] 24); have rW2 := rW.keep hal
            go_simp; refine hK.out _ _ ⟨(S18.out.2.2.2.2.2.2.2.1.keep rW2).facts.1, (S18.out.2.2.2.2.2.2.2.1.keep rW2).facts.2.1, (S18.out.2.2.2.2.2.2.2.2.1.keep rW2).facts.1, (S18.out.2.2.2.2.2.2.2.2.1.keep rW2).facts.2.1⟩ (fun _ => ?_); clear hK K
            obtain ⟨gq, hg⟩ : ∃ g, g = W.heap.size := ⟨_, rfl⟩; rw [← hg]
            have q := (HF.out _ _ _ _).1 (st2pqr _ pp Ap lp cp pq Aq lq cq gp gq gr (Lib.hid ⟨rW2, rzp.keep hal, rOp.keep hal, rzq.keep hal, rOq.keep hal, rXp.keep hal, rPp, by rw [hg]; exact Bx.new _ W _ _, by rw [hg]; exact rW.out.size, rXr.keep hal, rPr, by rw [hg]; exact Nat.ne_of_lt rXp.lt, rNpr, by rw [hg]; exact Nat.ne_of_gt rXr.lt⟩)); rw [HA.out] at q; simp only [Act.put, List.setIfInBounds_toArray, List.set_cons_zero, List.set_cons_succ] at q; try simp only [Act.put, List.setIfInBounds_toArray, List.set_cons_zero, List.set_cons_succ]; exact q
        have st2qr : ∀ (W : World) (pp : Bool) (Ap : Option Addr) (lp : Nat) (cp : Nat) (pq : Bool) (Aq : Option Addr) (lq : Nat) (cq : Nat) (gq : Nat) (gr : Nat), Hid (Since V7 W ∧ Zo W (.agg #[.bool pp, .slice Ap lp cp]) (x + y) ∧ Om W V7.heap.size (.agg #[.bool pp, .slice Ap lp cp]) ∧ Zo W (.agg #[.bool pq, .slice Aq lq cq]) (x - y) ∧ Om W V7.heap.size (.agg #[.bool pq, .slice Aq lq cq]) ∧ Bx 24 W gq (.bool false) (.slice none 0 0) ∧ V7.heap.size ≤ gq ∧ Bx 24 W gr (.bool false) (.slice none 0 0) ∧ V7.heap.size ≤ gr ∧ gq ≠ gr) → F 5 #[true, true, true, true, true, true, true, true, false, false, true, true, false, false, false] ((((a0.put (some 11) (.pointer (some ⟨gq, 0, none⟩))).put (some 12) (.pointer (some ⟨gr, 0, none⟩))).put (some 60) (.agg #[.bool pp, .slice Ap lp cp])).put (some 63) (.agg #[.bool pq, .slice Aq lq cq])) W := by
          intro W pp Ap lp cp pq Aq lq cq gq gr R
          refine (HF.out _ _ _ _).2 ?_; rw [HA.out]; try simp only [Act.put, List.setIfInBounds_toArray, List.set_cons_zero, List.set_cons_succ]
          obtain ⟨rW, rzp, rOp, rzq, rOq, rXq, rPq, rXr, rPr, rNqr⟩ := R.out
          refine rgReady [8, 9] (rgOne (fun K hK => ?_) (rgOne (fun K hK => ?_) rgNil))
          ·
            go_simp; go_at_call 34; refine (mul_z (S18.out.2.2.2.2.2.2.2.2.2.2.2.2.2.2.2.2.1.keep rW) (S18.out.2.2.2.2.2.2.2.2.2.2.2.2.2.2.2.2.2.1.keep rW) (by decide) (by decide)).mono ?_; rintro e W2 ⟨v, rfl, h⟩
            obtain ⟨pr, Ar, lr, cr, rfl, -⟩ := h.parts
            have rW2 := rW.keep (h.below)
            go_wp2_with fail
            refine hK.out _ _ ⟨(S18.out.2.2.2.2.2.2.2.1.keep rW2).facts.1, (S18.out.2.2.2.2.2.2.2.1.keep rW2).facts.2.1, (S18.out.2.2.2.2.2.2.2.2.1.keep rW2).facts.1, (S18.out.2.2.2.2.2.2.2.2.1.keep rW2).facts.2.1⟩ (fun _ => ?_); clear hK K
            have q := (HF.out _ _ _ _).1 (st3qr _ pp Ap lp cp pq Aq lq cq pr Ar lr cr gq gr (Lib.hid ⟨rW2, rzp.keep (h.below), rOp.keep (h.below), rzq.keep (h.below), rOq.keep (h.below), h.zo, h.om rW.out.size, rXq.keep (h.below), rPq, rXr.keep (h.below), rPr, rNqr⟩)); rw [HA.out] at q; simp only [Act.put, List.setIfInBounds_toArray, List.set_cons_zero, List.set_cons_succ] at q; try simp only [Act.put, List.setIfInBounds_toArray, List.set_cons_zero, List.set_cons_succ]; exact q
          ·
            have hal := below_al W (.cells #[.bool false, .slice none 0 0] 24); have rW2 := rW.keep hal
            go_simp; refine hK.out _ _ ⟨(S18.out.2.2.2.2.2.2.2.1.keep rW2).facts.1, (S18.out.2.2.2.2.2.2.2.1.keep rW2).facts.2.1, (S18.out.2.2.2.2.2.2.2.2.1.keep rW2).facts.1, (S18.out.2.2.2.2.2.2.2.2.1.keep rW2).facts.2.1⟩ (fun _ => ?_); clear hK K
            obtain ⟨gp, hg⟩ : ∃ g, g = W.heap.size := ⟨_, rfl⟩; rw [← hg]
            have q := (HF.out _ _ _ _).1 (st2pqr _ pp Ap lp cp pq Aq lq cq gp gq gr (Lib.hid ⟨rW2, rzp.keep hal, rOp.keep hal, rzq.keep hal, rOq.keep hal, by rw [hg]; exact Bx.new _ W _ _, by rw [hg]; exact rW.out.size, rXq.keep hal, rPq, rXr.keep hal, rPr, by rw [hg]; exact Nat.ne_of_gt rXq.lt, by rw [hg]; exact Nat.ne_of_gt rXr.lt, rNqr⟩)); rw [HA.out] at q; simp only [Act.put, List.setIfInBounds_toArray, List.set_cons_zero, List.set_cons_succ] at q; try simp only [Act.put, List.setIfInBounds_toArray, List.set_cons_zero, List.set_cons_succ]; exact q
        have st2p : ∀ (W : World) (pp : Bool) (Ap : Option Addr) (lp : Nat) (cp : Nat) (pq : Bool) (Aq : Option Addr) (lq : Nat) (cq : Nat) (gp : Nat), Hid (Since V7 W ∧ Zo W (.agg #[.bool pp, .slice Ap lp cp]) (x + y) ∧ Om W V7.heap.size (.agg #[.bool pp, .slice Ap lp cp]) ∧ Zo W (.agg #[.bool pq, .slice Aq lq cq]) (x - y) ∧ Om W V7.heap.size (.agg #[.bool pq, .slice Aq lq cq]) ∧ Bx 24 W gp (.bool false) (.slice none 0 0) ∧ V7.heap.size ≤ gp) → F 6 #[true, true, true, true, true, true, true, true, false, true, false, false, false, false, false] (((a0.put (some 10) (.pointer (some ⟨gp, 0, none⟩))).put (some 60) (.agg #[.bool pp, .slice Ap lp cp])).put (some 63) (.agg #[.bool pq, .slice Aq lq cq])) W := by
          intro W pp Ap lp cp pq Aq lq cq gp R
          refine (HF.out _ _ _ _).2 ?_; rw [HA.out]; try simp only [Act.put, List.setIfInBounds_toArray, List.set_cons_zero, List.set_cons_succ]
          obtain ⟨rW, rzp, rOp, rzq, rOq, rXp, rPp⟩ := R.out
          refine rgReady [8, 10, 11] (rgOne (fun K hK => ?_) (rgOne (fun K hK => ?_) (rgOne (fun K hK => ?_) rgNil)))
          ·
            go_simp; go_at_call 34; refine (mul_z (S18.out.2.2.2.2.2.2.2.2.2.2.2.2.2.2.2.2.1.keep rW) (S18.out.2.2.2.2.2.2.2.2.2.2.2.2.2.2.2.2.2.1.keep rW) (by decide) (by decide)).mono ?_; rintro e W2 ⟨v, rfl, h⟩
            obtain ⟨pr, Ar, lr, cr, rfl, -⟩ := h.parts
            have rW2 := rW.keep (h.below)
            go_wp2_with fail
            refine hK.out _ _ ⟨(S18.out.2.2.2.2.2.2.2.1.keep rW2).facts.1, (S18.out.2.2.2.2.2.2.2.1.keep rW2).facts.2.1, (S18.out.2.2.2.2.2.2.2.2.1.keep rW2).facts.1, (S18.out.2.2.2.2.2.2.2.2.1.keep rW2).facts.2.1⟩ (fun _ => ?_); clear hK K
            have q := (HF.out _ _ _ _).1 (st3p _ pp Ap lp cp pq Aq lq cq pr Ar lr cr gp (Lib.hid ⟨rW2, rzp.keep (h.below), rOp.keep (h.below), rzq.keep (h.below), rOq.keep (h.below), h.zo, h.om rW.out.size, rXp.keep (h.below), rPp⟩)); rw [HA.out] at q; simp only [Act.put, List.setIfInBounds_toArray, List.set_cons_zero, List.set_cons_succ] at q; try simp only [Act.put, List.setIfInBounds_toArray, List.set_cons_zero, List.set_cons_succ]; exact q
          ·
            have hal := below_al W (.cells #[.bool false, .slice none 0 0] 24); have rW2 := rW.keep hal
            go_simp; refine hK.out _ _ ⟨(S18.out.2.2.2.2.2.2.2.1.keep rW2).facts.1, (S18.out.2.2.2.2.2.2.2.1.keep rW2).facts.2.1, (S18.out.2.2.2.2.2.2.2.2.1.keep rW2).facts.1, (S18.out.2.2.2.2.2.2.2.2.1.keep rW2).facts.2.1⟩ (fun _ => ?_); clear hK K
            obtain ⟨gq, hg⟩ : ∃ g, g = W.heap.size := ⟨_, rfl⟩; rw [← hg]
            have q := (HF.out _ _ _ _).1 (st2pq _ pp Ap lp cp pq Aq lq cq gp gq (Lib.hid ⟨rW2, rzp.keep hal, rOp.keep hal, rzq.keep hal, rOq.keep hal, rXp.keep hal, rPp, by rw [hg]; exact Bx.new _ W _ _, by rw [hg]; exact rW.out.size, by rw [hg]; exact Nat.ne_of_lt rXp.lt⟩)); rw [HA.out] at q; simp only [Act.put, List.setIfInBounds_toArray, List.set_cons_zero, List.set_cons_succ] at q; try simp only [Act.put, List.setIfInBounds_toArray, List.set_cons_zero, List.set_cons_succ]; exact q
          ·
            have hal := below_al W (.cells #[.bool false, .slice none 0 0] 24); have rW2 := rW.keep hal
            go_simp; refine hK.out _ _ ⟨(S18.out.2.2.2.2.2.2.2.1.keep rW2).facts.1, (S18.out.2.2.2.2.2.2.2.1.keep rW2).facts.2.1, (S18.out.2.2.2.2.2.2.2.2.1.keep rW2).facts.1, (S18.out.2.2.2.2.2.2.2.2.1.keep rW2).facts.2.1⟩ (fun _ => ?_); clear hK K
            obtain ⟨gr, hg⟩ : ∃ g, g = W.heap.size := ⟨_, rfl⟩; rw [← hg]
            have q := (HF.out _ _ _ _).1 (st2pr _ pp Ap lp cp pq Aq lq cq gp gr (Lib.hid ⟨rW2, rzp.keep hal, rOp.keep hal, rzq.keep hal, rOq.keep hal, rXp.keep hal, rPp, by rw [hg]; exact Bx.new _ W _ _, by rw [hg]; exact rW.out.size, by rw [hg]; exact Nat.ne_of_lt rXp.lt⟩)); rw [HA.out] at q; simp only [Act.put, List.setIfInBounds_toArray, List.set_cons_zero, List.set_cons_succ] at q; try simp only [Act.put, List.setIfInBounds_toArray, List.set_cons_zero, List.set_cons_succ]; exact q
        have st2q : ∀ (W : World) (pp : Bool) (Ap : Option Addr) (lp : Nat) (cp : Nat) (pq : Bool) (Aq : Option Addr) (lq : Nat) (cq : Nat) (gq : Nat), Hid (Since V7 W ∧ Zo W (.agg #[.bool pp, .slice Ap lp cp]) (x + y) ∧ Om W V7.heap.size (.agg #[.bool pp, .slice Ap lp cp]) ∧ Zo W (.agg #[.bool pq, .slice Aq lq cq]) (x - y) ∧ Om W V7.heap.size (.agg #[.bool pq, .slice Aq lq cq]) ∧ Bx 24 W gq (.bool false) (.slice none 0 0) ∧ V7.heap.size ≤ gq) → F 6 #[true, true, true, true, true, true, true, true, false, false, true, false, false, false, false] (((a0.put (some 11) (.pointer (some ⟨gq, 0, none⟩))).put (some 60) (.agg #[.bool pp, .slice Ap lp cp])).put (some 63) (.agg #[.bool pq, .slice Aq lq cq])) W := by
          intro W pp Ap lp cp pq Aq lq cq gq R
          refine (HF.out _ _ _ _).2 ?_; rw [HA.out]; try simp only [Act.put, List.setIfInBounds_toArray, List.set_cons_zero, List.set_cons_succ]
          obtain ⟨rW, rzp, rOp, rzq, rOq, rXq, rPq⟩ := R.out
          refine rgReady [8, 9, 11] (rgOne (fun K hK => ?_) (rgOne (fun K hK => ?_) (rgOne (fun K hK => ?_) rgNil)))
          ·
            go_simp; go_at_call 34; refine (mul_z (S18.out.2.2.2.2.2.2.2.2.2.2.2.2.2.2.2.2.1.keep rW) (S18.out.2.2.2.2.2.2.2.2.2.2.2.2.2.2.2.2.2.1.keep rW) (by decide) (by decide)).mono ?_; rintro e W2 ⟨v, rfl, h⟩
            obtain ⟨pr, Ar, lr, cr, rfl, -⟩ := h.parts
            have rW2 := rW.keep (h.below)
            go_wp2_with fail
            refine hK.out _ _ ⟨(S18.out.2.2.2.2.2.2.2.1.keep rW2).facts.1, (S18.out.2.2.2.2.2.2.2.1.keep rW2).facts.2.1, (S18.out.2.2.2.2.2.2.2.2.1.keep rW2).facts.1, (S18.out.2.2.2.2.2.2.2.2.1.keep rW2).facts.2.1⟩ (fun _ => ?_); clear hK K
            have q := (HF.out _ _ _ _).1 (st3q _ pp Ap lp cp pq Aq lq cq pr Ar lr cr gq (Lib.hid ⟨rW2, rzp.keep (h.below), rOp.keep (h.below), rzq.keep (h.below), rOq.keep (h.below), h.zo, h.om rW.out.size, rXq.keep (h.below), rPq⟩)); rw [HA.out] at q; simp only [Act.put, List.setIfInBounds_toArray, List.set_cons_zero, List.set_cons_succ] at q; try simp only [Act.put, List.setIfInBounds_toArray, List.set_cons_zero, List.set_cons_succ]; exact q
          ·
            have hal := below_al W (.cells #[.bool false, .slice none 0 0] 24); have rW2 := rW.keep hal
            go_simp; refine hK.out _ _ ⟨(S18.out.2.2.2.2.2.2.2.1.keep rW2).facts.1, (S18.out.2.2.2.2.2.2.2.1.keep rW2).facts.2.1, (S18.out.2.2.2.2.2.2.2.2.1.keep rW2).facts.1, (S18.out.2.2.2.2.2.2.2.2.1.keep rW2).facts.2.1⟩ (fun _ => ?_); clear hK K
            obtain ⟨gp, hg⟩ : ∃ g, g = W.heap.size := ⟨_, rfl⟩; rw [← hg]
            have q := (HF.out _ _ _ _).1 (st2pq _ pp Ap lp cp pq Aq lq cq gp gq (Lib.hid ⟨rW2, rzp.keep hal, rOp.keep hal, rzq.keep hal, rOq.keep hal, by rw [hg]; exact Bx.new _ W _ _, by rw [hg]; exact rW.out.size, rXq.keep hal, rPq, by rw [hg]; exact Nat.ne_of_gt rXq.lt⟩)); rw [HA.out] at q; simp only [Act.put, List.setIfInBounds_toArray, List.set_cons_zero, List.set_cons_succ] at q; try simp only [Act.put, List.setIfInBounds_toArray, List.set_cons_zero, List.set_cons_succ]; exact q
          ·
            have hal := below_al W (.cells #[.bool false, .slice none 0 0] 24); have rW2 := rW.keep hal
            go_simp; refine hK.out _ _ ⟨(S18.out.2.2.2.2.2.2.2.1.keep rW2).facts.1, (S18.out.2.2.2.2.2.2.2.1.keep rW2).facts.2.1, (S18.out.2.2.2.2.2.2.2.2.1.keep rW2).facts.1, (S18.out.2.2.2.2.2.2.2.2.1.keep rW2).facts.2.1⟩ (fun _ => ?_); clear hK K
            obtain ⟨gr, hg⟩ : ∃ g, g = W.heap.size := ⟨_, rfl⟩; rw [← hg]
            have q := (HF.out _ _ _ _).1 (st2qr _ pp Ap lp cp pq Aq lq cq gq gr (Lib.hid ⟨rW2, rzp.keep hal, rOp.keep hal, rzq.keep hal, rOq.keep hal, rXq.keep hal, rPq, by rw [hg]; exact Bx.new _ W _ _, by rw [hg]; exact rW.out.size, by rw [hg]; exact Nat.ne_of_lt rXq.lt⟩)); rw [HA.out] at q; simp only [Act.put, List.setIfInBounds_toArray, List.set_cons_zero, List.set_cons_succ] at q; try simp only [Act.put, List.setIfInBounds_toArray, List.set_cons_zero, List.set_cons_succ]; exact q
        have st2r : ∀ (W : World) (pp : Bool) (Ap : Option Addr) (lp : Nat) (cp : Nat) (pq : Bool) (Aq : Option Addr) (lq : Nat) (cq : Nat) (gr : Nat), Hid (Since V7 W ∧ Zo W (.agg #[.bool pp, .slice Ap lp cp]) (x + y) ∧ Om W V7.heap.size (.agg #[.bool pp, .slice Ap lp cp]) ∧ Zo W (.agg #[.bool pq, .slice Aq lq cq]) (x - y) ∧ Om W V7.heap.size (.agg #[.bool pq, .slice Aq lq cq]) ∧ Bx 24 W gr (.bool false) (.slice none 0 0) ∧ V7.heap.size ≤ gr) → F 6 #[true, true, true, true, true, true, true, true, false, false, false, true, false, false, false] (((a0.put (some 12) (.pointer (some ⟨gr, 0, none⟩))).put (some 60) (.agg #[.bool pp, .slice Ap lp cp])).put (some 63) (.agg #[.bool pq, .slice Aq lq cq])) W := by
          intro W pp Ap lp cp pq Aq lq cq gr R
          refine (HF.out _ _ _ _).2 ?_; rw [HA.out]; try simp only [Act.put, List.setIfInBounds_toArray, List.set_cons_zero, List.set_cons_succ]
          obtain ⟨rW, rzp, rOp, rzq, rOq, rXr, rPr⟩ := R.out
          refine rgReady [8, 9, 10] (rgOne (fun K hK => ?_) (rgOne (fun K hK => ?_) (rgOne (fun K hK => ?_) rgNil)))
          ·
            go_simp; go_at_call 34; refine (mul_z (S18.out.2.2.2.2.2.2.2.2.2.2.2.2.2.2.2.2.1.keep rW) (S18.out.2.2.2.2.2.2.2.2.2.2.2.2.2.2.2.2.2.1.keep rW) (by decide) (by decide)).mono ?_; rintro e W2 ⟨v, rfl, h⟩
            obtain ⟨pr, Ar, lr, cr, rfl, -⟩ := h.parts
            have rW2 := rW.keep (h.below)
            go_wp2_with fail
            refine hK.out _ _ ⟨(S18.out.2.2.2.2.2.2.2.1.keep rW2).facts.1, (S18.out.2.2.2.2.2.2.2.1.keep rW2).facts.2.1, (S18.out.2.2.2.2.2.2.2.2.1.keep rW2).facts.1, (S18.out.2.2.2.2.2.2.2.2.1.keep rW2).facts.2.1⟩ (fun _ => ?_); clear hK K
            have q := (HF.out _ _ _ _).1 (st3r _ pp Ap lp cp pq Aq lq cq pr Ar lr cr gr (Lib.hid ⟨rW2, rzp.keep (h.below), rOp.keep (h.below), rzq.keep (h.below), rOq.keep (h.below), h.zo, h.om rW.out.size, rXr.keep (h.below), rPr⟩)); rw [HA.out] at q; simp only [Act.put, List.setIfInBounds_toArray, List.set_cons_zero, List.set_cons_succ] at q; try simp only [Act.put, List.setIfInBounds_toArray, List.set_cons_zero, List.set_cons_succ]; exact q
          ·
            have hal := below_al W (.cells #[.bool false, .slice none 0 0] 24); have rW2 := rW.keep hal
            go_simp; refine hK.out _ _ ⟨(S18.out.2.2.2.2.2.2.2.1.keep rW2).facts.1, (S18.out.2.2.2.2.2.2.2.1.keep rW2).facts.2.1, (S18.out.2.2.2.2.2.2.2.2.1.keep rW2).facts.1, (S18.out.2.2.2.2.2.2.2.2.1.keep rW2).facts.2.1⟩ (fun _ => ?_); clear hK K
            obtain ⟨gp, hg⟩ : ∃ g, g = W.heap.size := ⟨_, rfl⟩; rw [← hg]
            have q := (HF.out _ _ _ _).1 (st2pr _ pp Ap lp cp pq Aq lq cq gp gr (Lib.hid ⟨rW2, rzp.keep hal, rOp.keep hal, rzq.keep hal, rOq.keep hal, by rw [hg]; exact Bx.new _ W _ _, by rw [hg]; exact rW.out.size, rXr.keep hal, rPr, by rw [hg]; exact Nat.ne_of_gt rXr.lt⟩)); rw [HA.out] at q; simp only [Act.put, List.setIfInBounds_toArray, List.set_cons_zero, List.set_cons_succ] at q; try simp only [Act.put, List.setIfInBounds_toArray, List.set_cons_zero, List.set_cons_succ]; exact q
          ·
            have hal := below_al W (.cells #[.bool false, .slice none 0 0] 24); have rW2 := rW.keep hal
            go_simp; refine hK.out _ _ ⟨(S18.out.2.2.2.2.2.2.2.1.keep rW2).facts.1, (S18.out.2.2.2.2.2.2.2.1.keep rW2).facts.2.1, (S18.out.2.2.2.2.2.2.2.2.1.keep rW2).facts.1, (S18.out.2.2.2.2.2.2.2.2.1.keep rW2).facts.2.1⟩ (fun _ => ?_); clear hK K
            obtain ⟨gq, hg⟩ : ∃ g, g = W.heap.size := ⟨_, rfl⟩; rw [← hg]
            have q := (HF.out _ _ _ _).1 (st2qr _ pp Ap lp cp pq Aq lq cq gq gr (Lib.hid ⟨rW2, rzp.keep hal, rOp.keep hal, rzq.keep hal, rOq.keep hal, by rw [hg]; exact Bx.new _ W _ _, by rw [hg]; exact rW.out.size, rXr.keep hal, rPr, by rw [hg]; exact Nat.ne_of_gt rXr.lt⟩)); rw [HA.out] at q; simp only [Act.put, List.setIfInBounds_toArray, List.set_cons_zero, List.set_cons_succ] at q; try simp only [Act.put, List.setIfInBounds_toArray, List.set_cons_zero, List.set_cons_succ]; exact q
        have st2 : ∀ (W : World) (pp : Bool) (Ap : Option Addr) (lp : Nat) (cp : Nat) (pq : Bool) (Aq : Option Addr) (lq : Nat) (cq : Nat), Hid (Since V7 W ∧ Zo W (.agg #[.bool pp, .slice Ap lp cp]) (x + y) ∧ Om W V7.heap.size (.agg #[.bool pp, .slice Ap lp cp]) ∧ Zo W (.agg #[.bool pq, .slice Aq lq cq]) (x - y) ∧ Om W V7.heap.size (.agg #[.bool pq, .slice Aq lq cq])) → F 7 #[true, true, true, true, true, true, true, true, false, false, false, false, false, false, false] ((a0.put (some 60) (.agg #[.bool pp, .slice Ap lp cp])).put (some 63) (.agg #[.bool pq, .slice Aq lq cq])) W := by
          intro W pp Ap lp cp pq Aq lq cq R
          refine (HF.out _ _ _ _).2 ?_; rw [HA.out]; try simp only [Act.put, List.setIfInBounds_toArray, List.set_cons_zero, List.set_cons_succ]
          obtain ⟨rW, rzp, rOp, rzq, rOq⟩ := R.out
          refine rgReady [8, 9, 10, 11] (rgOne (fun K hK => ?_) (rgOne (fun K hK => ?_) (rgOne (fun K hK => ?_) (rgOne (fun K hK => ?_) rgNil))))
          ·
            go_simp; go_at_call 34; refine (mul_z (S18.out.2.2.2.2.2.2.2.2.2.2.2.2.2.2.2.2.1.keep rW) (S18.out.2.2.2.2.2.2.2.2.2.2.2.2.2.2.2.2.2.1.keep rW) (by decide) (by decide)).mono ?_; rintro e W2 ⟨v, rfl, h⟩
            obtain ⟨pr, Ar, lr, cr, rfl, -⟩ := h.parts
            have rW2 := rW.keep (h.below)
            go_wp2_with fail
            refine hK.out _ _ ⟨(S18.out.2.2.2.2.2.2.2.1.keep rW2).facts.1, (S18.out.2.2.2.2.2.2.2.1.keep rW2).facts.2.1, (S18.out.2.2.2.2.2.2.2.2.1.keep rW2).facts.1, (S18.out.2.2.2.2.2.2.2.2.1.keep rW2).facts.2.1⟩ (fun _ => ?_); clear hK K
            have q := (HF.out _ _ _ _).1 (st3 _ pp Ap lp cp pq Aq lq cq pr Ar lr cr (Lib.hid ⟨rW2, rzp.keep (h.below), rOp.keep (h.below), rzq.keep (h.below), rOq.keep (h.below), h.zo, h.om rW.out.size⟩)); rw [HA.out] at q; simp only [Act.put, List.setIfInBounds_toArray, List.set_cons_zero, List.set_cons_succ] at q; try simp only [Act.put, List.setIfInBounds_toArray, List.set_cons_zero, List.set_cons_succ]; exact q
          ·
            have hal := below_al W (.cells #[.bool false, .slice none 0 0] 24); have rW2 := rW.keep hal
            go_simp; refine hK.out _ _ ⟨(S18.out.2.2.2.2.2.2.2.1.keep rW2).facts.1, (S18.out.2.2.2.2.2.2.2.1.keep rW2).facts.2.1, (S18.out.2.2.2.2.2.2.2.2.1.keep rW2).facts.1, (S18.out.2.2.2.2.2.2.2.2.1.keep rW2).facts.2.1⟩ (fun _ => ?_); clear hK K
            obtain ⟨gp, hg⟩ : ∃ g, g = W.heap.size := ⟨_, rfl⟩; rw [← hg]
            have q := (HF.out _ _ _ _).1 (st2p _ pp Ap lp cp pq Aq lq cq gp (Lib.hid ⟨rW2, rzp.keep hal, rOp.keep hal, rzq.keep hal, rOq.keep hal, by rw [hg]; exact Bx.new _ W _ _, by rw [hg]; exact rW.out.size⟩)); rw [HA.out] at q; simp only [Act.put, List.setIfInBounds_toArray, List.set_cons_zero, List.set_cons_succ] at q; try simp only [Act.put, List.setIfInBounds_toArray, List.set_cons_zero, List.set_cons_succ]; exact q
          ·
            have hal := below_al W (.cells #[.bool false, .slice none 0 0] 24); have rW2 := rW.keep hal
            go_simp; refine hK.out _ _ ⟨(S18.out.2.2.2.2.2.2.2.1.keep rW2).facts.1, (S18.out.2.2.2.2.2.2.2.1.keep rW2).facts.2.1, (S18.out.2.2.2.2.2.2.2.2.1.keep rW2).facts.1, (S18.out.2.2.2.2.2.2.2.2.1.keep rW2).facts.2.1⟩ (fun _ => ?_); clear hK K
            obtain ⟨gq, hg⟩ : ∃ g, g = W.heap.size := ⟨_, rfl⟩; rw [← hg]
            have q := (HF.out _ _ _ _).1 (st2q _ pp Ap lp cp pq Aq lq cq gq (Lib.hid ⟨rW2, rzp.keep hal, rOp.keep hal, rzq.keep hal, rOq.keep hal, by rw [hg]; exact Bx.new _ W _ _, by rw [hg]; exact rW.out.size⟩)); rw [HA.out] at q; simp only [Act.put, List.setIfInBounds_toArray, List.set_cons_zero, List.set_cons_succ] at q; try simp only [Act.put, List.setIfInBounds_toArray, List.set_cons_zero, List.set_cons_succ]; exact q
          ·
            have hal := below_al W (.cells #[.bool false, .slice none 0 0] 24); have rW2 := rW.keep hal
            go_simp; refine hK.out _ _ ⟨(S18.out.2.2.2.2.2.2.2.1.keep rW2).facts.1, (S18.out.2.2.2.2.2.2.2.1.keep rW2).facts.2.1, (S18.out.2.2.2.2.2.2.2.2.1.keep rW2).facts.1, (S18.out.2.2.2.2.2.2.2.2.1.keep rW2).facts.2.1⟩ (fun _ => ?_); clear hK K
            obtain ⟨gr, hg⟩ : ∃ g, g = W.heap.size := ⟨_, rfl⟩; rw [← hg]
            have q := (HF.out _ _ _ _).1 (st2r _ pp Ap lp cp pq Aq lq cq gr (Lib.hid ⟨rW2, rzp.keep hal, rOp.keep hal, rzq.keep hal, rOq.keep hal, by rw [hg]; exact Bx.new _ W _ _, by rw [hg]; exact rW.out.size⟩)); rw [HA.out] at q; simp only [Act.put, List.setIfInBounds_toArray, List.set_cons_zero, List.set_cons_succ] at q; try simp only [Act.put, List.setIfInBounds_toArray, List.set_cons_zero, List.set_cons_succ]; exact q
        have st1pqr : ∀ (W : World) (pp : Bool) (Ap : Option Addr) (lp : Nat) (cp : Nat) (gp : Nat) (gq : Nat) (gr : Nat), Hid (Since V7 W ∧ Zo W (.agg #[.bool pp, .slice Ap lp cp]) (x + y) ∧ Om W V7.heap.size (.agg #[.bool pp, .slice Ap lp cp]) ∧ Bx 24 W gp (.bool false) (.slice none 0 0) ∧ V7.heap.size ≤ gp ∧ Bx 24 W gq (.bool false) (.slice none 0 0) ∧ V7.heap.size ≤ gq ∧ Bx 24 W gr (.bool false) (.slice none 0 0) ∧ V7.heap.size ≤ gr ∧ gp ≠ gq ∧ gp ≠ gr ∧ gq ≠ gr) → F 5 #[true, true, true, true, true, false, true, true, false, true, true, true, false, false, false] ((((a0.put (some 10) (.pointer (some ⟨gp, 0, none⟩))).put (some 11) (.pointer (some ⟨gq, 0, none⟩))).put (some 12) (.pointer (some ⟨gr, 0, none⟩))).put (some 60) (.agg #[.bool pp, .slice Ap lp cp])) W := by
          intro W pp Ap lp cp gp gq gr R
          refine (HF.out _ _ _ _).2 ?_; rw [HA.out]; try simp only [Act.put, List.setIfInBounds_toArray, List.set_cons_zero, List.set_cons_succ]
          obtain ⟨rW, rzp, rOp, rXp, rPp, rXq, rPq, rXr, rPr, rNpq, rNpr, rNqr⟩ := R.out
          refine rgReady [5] (rgOne (fun K hK => ?_) rgNil)
          go_simp; go_at_call 33; refine (sub_z (S18.out.2.2.2.2.2.2.2.2.2.2.2.2.2.2.2.2.1.keep rW) (S18.out.2.2.2.2.2.2.2.2.2.2.2.2.2.2.2.2.2.1.keep rW) (by decide) (by decide)).mono ?_; rintro e W2 ⟨v, rfl, h⟩
          obtain ⟨pq, Aq, lq, cq, rfl, -⟩ := h.parts
          have rW2 := rW.keep (h.below)
          go_wp2_with fail
          refine hK.out _ _ ⟨(S18.out.2.2.2.2.2.2.2.1.keep rW2).facts.1, (S18.out.2.2.2.2.2.2.2.1.keep rW2).facts.2.1, (S18.out.2.2.2.2.2.2.2.2.1.keep rW2).facts.1, (S18.out.2.2.2.2.2.2.2.2.1.keep rW2).facts.2.1⟩ (fun _ => ?_); clear hK K
          have q := (HF.out _ _ _ _).1 (st2pqr _ pp Ap lp cp pq Aq lq cq gp gq gr (Lib.hid ⟨rW2, rzp.keep (h.below), rOp.keep (h.below), h.zo, h.om rW.out.size, rXp.keep (h.below), rPp, rXq.keep (h.below), rPq, rXr.keep (h.below), rPr, rNpq, rNpr, rNqr⟩)); rw [HA.out] at q; simp only [Act.put, List.setIfInBounds_toArray, List.set_cons_zero, List.set_cons_succ] at q; try simp only [Act.put, List.setIfInBounds_toArray, List.set_cons_zero, List.set_cons_succ]; exact q
        have st1pq : ∀ (W : World) (pp : Bool) (Ap : Option Addr) (lp : Nat) (cp : Nat) (gp : Nat) (gq : Nat), Hid (Since V7 W ∧ Zo W (.agg #[.bool pp, .slice Ap lp cp]) (x + y) ∧ Om W V7.heap.size (.agg #[.bool pp, .slice Ap lp cp]) ∧ Bx 24 W gp (.bool false) (.slice none 0 0) ∧ V7.heap.size ≤ gp ∧ Bx 24 W gq (.bool false) (.slice none 0 0) ∧ V7.heap.size ≤ gq ∧ gp ≠ gq) → F 6 #[true, true, true, true, true, false, true, true, false, true, true, false, false, false, false] (((a0.put (some 10) (.pointer (some ⟨gp, 0, none⟩))).put (some 11) (.pointer (some ⟨gq, 0, none⟩))).put (some 60) (.agg #[.bool pp, .slice Ap lp cp])) W := by
          intro W pp Ap lp cp gp gq R
          refine (HF.out _ _ _ _).2 ?_; rw [HA.out]; try simp only [Act.put, List.setIfInBounds_toArray, List.set_cons_zero, List.set_cons_succ]
          obtain ⟨rW, rzp, rOp, rXp, rPp, rXq, rPq, rNpq⟩ := R.out
          refine rgReady [5, 11] (rgOne (fun K hK => ?_) (rgOne (fun K hK => ?_) rgNil))
          ·
            go_simp; go_at_call 33; refine (sub_z (S18.out.2.2.2.2.2.2.2.2.2.2.2.2.2.2.2.2.1.keep rW) (S18.out.2.2.2.2.2.2.2.2.2.2.2.2.2.2.2.2.2.1.keep rW) (by decide) (by decide)).mono ?_; rintro e W2 ⟨v, rfl, h⟩
            obtain ⟨pq, Aq, lq, cq, rfl, -⟩ := h.parts
            have rW2 := rW.keep (h.below)
            go_wp2_with fail
            refine hK.out _ _ ⟨(S18.out.2.2.2.2.2.2.2.1.keep rW2).facts.1, (S18.out.2.2.2.2.2.2.2.1.keep rW2).facts.2.1, (S18.out.2.2.2.2.2.2.2.2.1.keep rW2).facts.1, (S18.out.2.2.2.2.2.2.2.2.1.keep rW2).facts.2.1⟩ (fun _ => ?_); clear hK K
            have q := (HF.out _ _ _ _).1 (st2pq _ pp Ap lp cp pq Aq lq cq gp gq (Lib.hid ⟨rW2, rzp.keep (h.below), rOp.keep (h.below), h.zo, h.om rW.out.size, rXp.keep (h.below), rPp, rXq.keep (h.below), rPq, rNpq⟩)); rw [HA.out] at q; simp only [Act.put, List.setIfInBounds_toArray, List.set_cons_zero, List.set_cons_succ] at q; try simp only [Act.put, List.setIfInBounds_toArray, List.set_cons_zero, List.set_cons_succ]; exact q
          ·
            have hal := below_al W (.cells #[.bool false, .slice none 0 0] 24); have rW2 := rW.keep hal
            go_simp; refine hK.out _ _ ⟨(S18.out.2.2.2.2.2.2.2.1.keep rW2).facts.1, (S18.out.2.2.2.2.2.2.2.1.keep rW2).facts.2.1, (S18.out.2.2.2.2.2.2.2.2.1.keep rW2).facts.1, (S18.out.2.2.2.2.2.2.2.2.1.keep rW2).facts.2.1⟩ (fun _ => ?_); clear hK K
            obtain ⟨gr, hg⟩ : ∃ g, g = W.heap.size := ⟨_, rfl⟩; rw [← hg]
            have q := (HF.out _ _ _ _).1 (st1pqr _ pp Ap lp cp gp gq gr (Lib.hid ⟨rW2, rzp.keep hal, rOp.keep hal, rXp.keep hal, rPp, rXq.keep hal, rPq, by rw [hg]; exact Bx.new _ W _ _, by rw [hg]; exact rW.out.size, rNpq, by rw [hg]; exact Nat.ne_of_lt rXp.lt, by rw [hg]; exact Nat.ne_of_lt rXq.lt⟩)); rw [HA.out] at q; simp only [Act.put, List.setIfInBounds_toArray, List.set_cons_zero, List.set_cons_succ] at q; try simp only [Act.put, List.setIfInBounds_toArray, List.set_cons_zero, List.set_cons_succ]; exact q
        have st1pr : ∀ (W : World) (pp : Bool) (Ap : Option Addr) (lp : Nat) (cp : Nat) (gp : Nat) (gr : Nat), Hid (Since V7 W ∧ Zo W (.agg #[.bool pp, .slice Ap lp cp]) (x + y) ∧ Om W V7.heap.size (.agg #[.bool pp, .slice Ap lp cp]) ∧ Bx 24 W gp (.bool false) (.slice none 0 0) ∧ V7.heap.size ≤ gp ∧ Bx 24 W gr (.bool false) (.slice none 0 0) ∧ V7.heap.size ≤ gr ∧ gp ≠ gr) → F 6 #[true, true, true, true, true, false, true, true, false, true, false, true, false, false, false] (((a0.put (some 10) (.pointer (some ⟨gp, 0, none⟩))).put (some 12) (.pointer (some ⟨gr, 0, none⟩))).put (some 60) (.agg #[.bool pp, .slice Ap lp cp])) W := by
          intro W pp Ap lp cp gp gr R
          refine (HF.out _ _ _ _).2 ?_; rw [HA.out]; try simp only [Act.put, List.setIfInBounds_toArray, List.set_cons_zero, List.set_cons_succ]
          obtain ⟨rW, rzp, rOp, rXp, rPp, rXr, rPr, rNpr⟩ := R.out
          refine rgReady [5, 10] (rgOne (fun K hK => ?_) (rgOne (fun K hK => ?_) rgNil))
          ·
            go_simp; go_at_call 33; refine (sub_z (S18.out.2.2.2.2.2.2.2.2.2.2.2.2.2.2.2.2.1.keep rW) (S18.out.2.2.2.2.2.2.2.2.2.2.2.2.2.2.2.2.2.1.keep rW) (by decide) (by decide)).mono ?_; rintro e W2 ⟨v, rfl, h⟩
            obtain ⟨pq, Aq, lq, cq, rfl, -⟩ := h.parts
            have rW2 := rW.keep (h.below)
            go_wp2_with fail
            refine hK.out _ _ ⟨(S18.out.2.2.2.2.2.2.2.1.keep rW2).facts.1, (S18.out.2.2.2.2.2.2.2.1.keep rW2).facts.2.1, (S18.out.2.2.2.2.2.2.2.2.1.keep rW2).facts.1, (S18.out.2.2.2.2.2.2.2.2.1.keep rW2).facts.2.1⟩ (fun _ => ?_); clear hK K
            have q := (HF.out _ _ _ _).1 (st2pr _ pp Ap lp cp pq Aq lq cq gp gr (Lib.hid ⟨rW2, rzp.keep (h.below), rOp.keep (h.below), h.zo, h.om rW.out.size, rXp.keep (h.below), rPp, rXr.keep (h.below), rPr, rNpr⟩)); rw [HA.out] at q; simp only [Act.put, List.setIfInBounds_toArray, List.set_cons_zero, List.set_cons_succ] at q; try simp only [Act.put, List.setIfInBounds_toArray, List.set_cons_zero, List.set_cons_succ]; exact q
          ·
            have hal := below_al W (.cells #[.bool false, .slice none 0 0] 24); have rW2 := rW.keep hal
            go_simp; refine hK.out _ _ ⟨(S18.out.2.2.2.2.2.2.2.1.keep rW2).facts.1, (S18.out.2.2.2.2.2.2.2.1.keep rW2).facts.2.1, (S18.out.2.2.2.2.2.2.2.2.1.keep rW2).facts.1, (S18.out.2.2.2.2.2.2.2.2.1.keep rW2).facts.2.1⟩ (fun _ => ?_); clear hK K
            obtain ⟨gq, hg⟩ : ∃ g, g = W.heap.size := ⟨_, rfl⟩; rw [← hg]
            have q := (HF.out _ _ _ _).1 (st1pqr _ pp Ap lp cp gp gq gr (Lib.hid ⟨rW2, rzp.keep hal, rOp.keep hal, rXp.keep hal, rPp, by rw [hg]; exact Bx.new _ W _ _, by rw [hg]; exact rW.out.size, rXr.keep hal, rPr, by rw [hg]; exact Nat.ne_of_lt rXp.lt, rNpr, by rw [hg]; exact Nat.ne_of_gt rXr.lt⟩)); rw [HA.out] at q; simp only [Act.put, List.setIfInBounds_toArray, List.set_cons_zero, List.set_cons_succ] at q; try simp only [Act.put, List.setIfInBounds_toArray, List.set_cons_zero, List.set_cons_succ]; exact q
        have st1qr : ∀ (W : World) (pp : Bool) (Ap : Option Addr) (lp : Nat) (cp : Nat) (gq : Nat) (gr : Nat), Hid (Since V7 W ∧ Zo W (.agg #[.bool pp, .slice Ap lp cp]) (x + y) ∧ Om W V7.heap.size (.agg #[.bool pp, .slice Ap lp cp]) ∧ Bx 24 W gq (.bool false) (.slice none 0 0) ∧ V7.heap.size ≤ gq ∧ Bx 24 W gr (.bool false) (.slice none 0 0) ∧ V7.heap.size ≤ gr ∧ gq ≠ gr) → F 6 #[true, true, true, true, true, false, true, true, false, false, true, true, false, false, false] (((a0.put (some 11) (.pointer (some ⟨gq, 0, none⟩))).put (some 12) (.pointer (some ⟨gr, 0, none⟩))).put (some 60) (.agg #[.bool pp, .slice Ap lp cp])) W := by
          intro W pp Ap lp cp gq gr R
          refine (HF.out _ _ _ _).2 ?_; rw [HA.out]; try simp only [Act.put, List.setIfInBounds_toArray, List.set_cons_zero, List.set_cons_succ]
          obtain ⟨rW, rzp, rOp, rXq, rPq, rXr, rPr, rNqr⟩ := R.out
          refine rgReady [5, 9] (rgOne (fun K hK => ?_) (rgOne (fun K hK => ?_) rgNil))
          ·
            go_simp; go_at_call 33; refine (sub_z (S18.out.2.2.2.2.2.2.2.2.2.2.2.2.2.2.2.2.1.keep rW) (S18.out.2.2.2.2.2.2.2.2.2.2.2.2.2.2.2.2.2.1.keep rW) (by decide) (by decide)).mono ?_; rintro e W2 ⟨v, rfl, h⟩
            obtain ⟨pq, Aq, lq, cq, rfl, -⟩ := h.parts
            have rW2 := rW.keep (h.below)
            go_wp2_with fail
            refine hK.out _ _ ⟨(S18.out.2.2.2.2.2.2.2.1.keep rW2).facts.1, (S18.out.2.2.2.2.2.2.2.1.keep rW2).facts.2.1, (S18.out.2.2.2.2.2.2.2.2.1.keep rW2).facts.1, (S18.out.2.2.2.2.2.2.2.2.1.keep rW2).facts.2.1⟩ (fun _ => ?_); clear hK K
            have q := (HF.out _ _ _ _).1 (st2qr _ pp Ap lp cp pq Aq lq cq gq gr (Lib.hid ⟨rW2, rzp.keep (h.below), rOp.keep (h.below), h.zo, h.om rW.out.size, rXq.keep (h.below), rPq, rXr.keep (h.below), rPr, rNqr⟩)); rw [HA.out] at q; simp only [Act.put, List.setIfInBounds_toArray, List.set_cons_zero, List.set_cons_succ] at q; try simp only [Act.put, List.setIfInBounds_toArray, List.set_cons_zero, List.set_cons_succ]; exact q
          ·
            have hal := below_al W (.cells #[.bool false, .slice none 0 0] 24); have rW2 := rW.keep hal
            go_simp; refine hK.out _ _ ⟨(S18.out.2.2.2.2.2.2.2.1.keep rW2).facts.1, (S18.out.2.2.2.2.2.2.2.1.keep rW2).facts.2.1, (S18.out.2.2.2.2.2.2.2.2.1.keep rW2).facts.1, (S18.out.2.2.2.2.2.2.2.2.1.keep rW2).facts.2.1⟩ (fun _ => ?_); clear hK K
            obtain ⟨gp, hg⟩ : ∃ g, g = W.heap.size := ⟨_, rfl⟩; rw [← hg]
            have q := (HF.out _ _ _ _).1 (st1pqr _ pp Ap lp cp gp gq gr (Lib.hid ⟨rW2, rzp.keep hal, rOp.keep hal, by rw [hg]; exact Bx.new _ W _ _, by rw [hg]; exact rW.out.size, rXq.keep hal, rPq, rXr.keep hal, rPr, by rw [hg]; exact Nat.ne_of_gt rXq.lt, by rw [hg]; exact Nat.ne_of_gt rXr.lt, rNqr⟩)); rw [HA.out] at q; simp only [Act.put, List.setIfInBounds_toArray, List.set_cons_zero, List.set_cons_succ] at q; try simp only [Act.put, List.setIfInBounds_toArray, List.set_cons_zero, List.set_cons_succ]; exact q
        have st1p : ∀ (W : World) (pp : Bool) (Ap : Option Addr) (lp : Nat) (cp : Nat) (gp : Nat), Hid (Since V7 W ∧ Zo W (.agg #[.bool pp, .slice Ap lp cp]) (x + y) ∧ Om W V7.heap.size (.agg #[.bool pp, .slice Ap lp cp]) ∧ Bx 24 W gp (.bool false) (.slice none 0 0) ∧ V7.heap.size ≤ gp) → F 7 #[true, true, true, true, true, false, true, true, false, true, false, false, false, false, false] ((a0.put (some 10) (.pointer (some ⟨gp, 0, none⟩))).put (some 60) (.agg #[.bool pp, .slice Ap lp cp])) W := by
          intro W pp Ap lp cp gp R
          refine (HF.out _ _ _ _).2 ?_; rw [HA.out]; try simp only [Act.put, List.setIfInBounds_toArray, List.set_cons_zero, List.set_cons_succ]
          obtain ⟨rW, rzp, rOp, rXp, rPp⟩ := R.out
          refine rgReady [5, 10, 11] (rgOne (fun K hK => ?_) (rgOne (fun K hK => ?_) (rgOne (fun K hK => ?_) rgNil)))
          ·
            go_simp; go_at_call 33; refine (sub_z (S18.out.2.2.2.2.2.2.2.2.2.2.2.2.2.2.2.2.1.keep rW) (S18.out.2.2.2.2.2.2.2.2.2.2.2.2.2.2.2.2.2.1.keep rW) (by decide) (by decide)).mono ?_; rintro e W2 ⟨v, rfl, h⟩
            obtain ⟨pq, Aq, lq, cq, rfl, -⟩ := h.parts
            have rW2 := rW.keep (h.below)
            go_wp2_with fail
            refine hK.out _ _ ⟨(S18.out.2.2.2.2.2.2.2.1.keep rW2).facts.1, (S18.out.2.2.2.2.2.2.2.1.keep rW2).facts.2.1, (S18.out.2.2.2.2.2.2.2.2.1.keep rW2).facts.1, (S18.out.2.2.2.2.2.2.2.2.1.keep rW2).facts.2.1⟩ (fun _ => ?_); clear hK K
            have q := (HF.out _ _ _ _).1 (st2p _ pp Ap lp cp pq Aq lq cq gp (Lib.hid ⟨rW2, rzp.keep (h.below), rOp.keep (h.below), h.zo, h.om rW.out.size, rXp.keep (h.below), rPp⟩)); rw [HA.out] at q; simp only [Act.put, List.setIfInBounds_toArray, List.set_cons_zero, List.set_cons_succ] at q; try simp only [Act.put, List.setIfInBounds_toArray, List.set_cons_zero, List.set_cons_succ]; exact q
          ·
            have hal := below_al W (.cells #[.bool false, .slice none 0 0] 24); have rW2 := rW.keep hal
            go_simp; refine hK.out _ _ ⟨(S18.out.2.2.2.2.2.2.2.1.keep rW2).facts.1, (S18.out.2.2.2.2.2.2.2.1.keep rW2).facts.2.1, (S18.out.2.2.2.2.2.2.2.2.1.keep rW2).facts.1, (S18.out.2.2.2.2.2.2.2.2.1.keep rW2).facts.2.1⟩ (fun _ => ?_); clear hK K
            obtain ⟨gq, hg⟩ : ∃ g, g = W.heap.size := ⟨_, rfl⟩; rw [← hg]
            have q := (HF.out _ _ _ _).1 (st1pq _ pp Ap lp cp gp gq (Lib.hid ⟨rW2, rzp.keep hal, rOp.keep hal, rXp.keep hal, rPp, by rw [hg]; exact Bx.new _ W _ _, by rw [hg]; exact rW.out.size, by rw [hg]; exact Nat.ne_of_lt rXp.lt⟩)); rw [HA.out] at q; simp only [Act.put, List.setIfInBounds_toArray, List.set_cons_zero, List.set_cons_succ] at q; try simp only [Act.put, List.setIfInBounds_toArray, List.set_cons_zero, List.set_cons_succ]; exact q
          ·
            have hal := below_al W (.cells #[.bool false, .slice none 0 0] 24); have rW2 := rW.keep hal
            go_simp; refine hK.out _ _ ⟨(S18.out.2.2.2.2.2.2.2.1.keep rW2).facts.1, (S18.out.2.2.2.2.2.2.2.1.keep rW2).facts.2.1, (S18.out.2.2.2.2.2.2.2.2.1.keep rW2).facts.1, (S18.out.2.2.2.2.2.2.2.2.1.keep rW2).facts.2.1⟩ (fun _ => ?_); clear hK K
            obtain ⟨gr, hg⟩ : ∃ g, g = W.heap.size := ⟨_, rfl⟩; rw [← hg]
            have q := (HF.out _ _ _ _).1 (st1pr _ pp Ap lp cp gp gr (Lib.hid ⟨rW2, rzp.keep hal, rOp.keep hal, rXp.keep hal, rPp, by rw [hg]; exact Bx.new _ W _ _, by rw [hg]; exact rW.out.size, by rw [hg]; exact Nat.ne_of_lt rXp.lt⟩)); rw [HA.out] at q; simp only [Act.put, List.setIfInBounds_toArray, List.set_cons_zero, List.set_cons_succ] at q; try simp only [Act.put, List.setIfInBounds_toArray, List.set_cons_zero, List.set_cons_succ]; exact q
        have st1q : ∀ (W : World) (pp : Bool) (Ap : Option Addr) (lp : Nat) (cp : Nat) (gq : Nat), Hid (Since V7 W ∧ Zo W (.agg #[.bool pp, .slice Ap lp cp]) (x + y) ∧ Om W V7.heap.size (.agg #[.bool pp, .slice Ap lp cp]) ∧ Bx 24 W gq (.bool false) (.slice none 0 0) ∧ V7.heap.size ≤ gq) → F 7 #[true, true, true, true, true, false, true, true, false, false, true, false, false, false, false] ((a0.put (some 11) (.pointer (some ⟨gq, 0, none⟩))).put (some 60) (.agg #[.bool pp, .slice Ap lp cp])) W := by
          intro W pp Ap lp cp gq R
          refine (HF.out _ _ _ _).2 ?_; rw [HA.out]; try simp only [Act.put, List.setIfInBounds_toArray, List.set_cons_zero, List.set_cons_succ]
          obtain ⟨rW, rzp, rOp, rXq, rPq⟩ := R.out
          refine rgReady [5, 9, 11] (rgOne (fun K hK => ?_) (rgOne (fun K hK => ?_) (rgOne (fun K hK => ?_) rgNil)))
          ·
            go_simp; go_at_call 33; refine (sub_z (S18.out.2.2.2.2.2.2.2.2.2.2.2.2.2.2.2.2.1.keep rW) (S18.out.2.2.2.2.2.2.2.2.2.2.2.2.2.2.2.2.2.1.keep rW) (by decide) (by decide)).mono ?_; rintro e W2 ⟨v, rfl, h⟩
            obtain ⟨pq, Aq, lq, cq, rfl, -⟩ := h.parts
            have rW2 := rW.keep (h.below)
            go_wp2_with fail
            refine hK.out _ _ ⟨(S18.out.2.2.2.2.2.2.2.1.keep rW2).facts.1, (S18.out.2.2.2.2.2.2.2.1.keep rW2).facts.2.1, (S18.out.2.2.2.2.2.2.2.2.1.keep rW2).facts.1, (S18.out.2.2.2.2.2.2.2.2.1.keep rW2).facts.2.1⟩ (fun _ => ?_); clear hK K
            have q := (HF.out _ _ _ _).1 (st2q _ pp Ap lp cp pq Aq lq cq gq (Lib.hid ⟨rW2, rzp.keep (h.below), rOp.keep (h.below), h.zo, h.om rW.out.size, rXq.keep (h.below), rPq⟩)); rw [HA.out] at q; simp only [Act.put, List.setIfInBounds_toArray, List.set_cons_zero, List.set_cons_succ] at q; try simp only [Act.put, List.setIfInBounds_toArray, List.set_cons_zero, List.set_cons_succ]; exact q
          ·
            have hal := below_al W (.cells #[.bool false, .slice none 0 0] 24); have rW2 := rW.keep hal
            go_simp; refine hK.out _ _ ⟨(S18.out.2.2.2.2.2.2.2.1.keep rW2).facts.1, (S18.out.2.2.2.2.2.2.2.1.keep rW2).facts.2.1, (S18.out.2.2.2.2.2.2.2.2.1.keep rW2).facts.1, (S18.out.2.2.2.2.2.2.2.2.1.keep rW2).facts.2.1⟩ (fun _ => ?_); clear hK K
            obtain ⟨gp, hg⟩ : ∃ g, g = W.heap.size := ⟨_, rfl⟩; rw [← hg]
            have q := (HF.out _ _ _ _).1 (st1pq _ pp Ap lp cp gp gq (Lib.hid ⟨rW2, rzp.keep hal, rOp.keep hal, by rw [hg]; exact Bx.new _ W _ _, by rw [hg]; exact rW.out.size, rXq.keep hal, rPq, by rw [hg]; exact Nat.ne_of_gt rXq.lt⟩)); rw [HA.out] at q; simp only [Act.put, List.setIfInBounds_toArray, List.set_cons_zero, List.set_cons_succ] at q; try simp only [Act.put, List.setIfInBounds_toArray, List.set_cons_zero, List.set_cons_succ]; exact q
          ·
            have hal := below_al W (.cells #[.bool false, .slice none 0 0] 24); have rW2 := rW.keep hal
            go_simp; refine hK.out _ _ ⟨(S18.out.2.2.2.2.2.2.2.1.keep rW2).facts.1, (S18.out.2.2.2.2.2.2.2.1.keep rW2).facts.2.1, (S18.out.2.2.2.2.2.2.2.2.1.keep rW2).facts.1, (S18.out.2.2.2.2.2.2.2.2.1.keep rW2).facts.2.1⟩ (fun _ => ?_); clear hK K
            obtain ⟨gr, hg⟩ : ∃ g, g = W.heap.size := ⟨_, rfl⟩; rw [← hg]
            have q := (HF.out _ _ _ _).1 (st1qr _ pp Ap lp cp gq gr (Lib.hid ⟨rW2, rzp.keep hal, rOp.keep hal, rXq.keep hal, rPq, by rw [hg]; exact Bx.new _ W _ _, by rw [hg]; exact rW.out.size, by rw [hg]; exact Nat.ne_of_lt rXq.lt⟩)); rw [HA.out] at q; simp only [Act.put, List.setIfInBounds_toArray, List.set_cons_zero, List.set_cons_succ] at q; try simp only [Act.put, List.setIfInBounds_toArray, List.set_cons_zero, List.set_cons_succ]; exact q
        have st1r : ∀ (W : World) (pp : Bool) (Ap : Option Addr) (lp : Nat) (cp : Nat) (gr : Nat), Hid (Since V7 W ∧ Zo W (.agg #[.bool pp, .slice Ap lp cp]) (x + y) ∧ Om W V7.heap.size (.agg #[.bool pp, .slice Ap lp cp]) ∧ Bx 24 W gr (.bool false) (.slice none 0 0) ∧ V7.heap.size ≤ gr) → F 7 #[true, true, true, true, true, false, true, true, false, false, false, true, false, false, false] ((a0.put (some 12) (.pointer (some ⟨gr, 0, none⟩))).put (some 60) (.agg #[.bool pp, .slice Ap lp cp])) W := by
          intro W pp Ap lp cp gr R
          refine (HF.out _ _ _ _).2 ?_; rw [HA.out]; try simp only [Act.put, List.setIfInBounds_toArray, List.set_cons_zero, List.set_cons_succ]
          obtain ⟨rW, rzp, rOp, rXr, rPr⟩ := R.out
          refine rgReady [5, 9, 10] (rgOne (fun K hK => ?_) (rgOne (fun K hK => ?_) (rgOne (fun K hK => ?_) rgNil)))
          ·
            go_simp; go_at_call 33; refine (sub_z (S18.out.2.2.2.2.2.2.2.2.2.2.2.2.2.2.2.2.1.keep rW) (S18.out.2.2.2.2.2.2.2.2.2.2.2.2.2.2.2.2.2.1.keep rW) (by decide) (by decide)).mono ?_; rintro e W2 ⟨v, rfl, h⟩
            obtain ⟨pq, Aq, lq, cq, rfl, -⟩ := h.parts
            have rW2 := rW.keep (h.below)
            go_wp2_with fail
            refine hK.out _ _ ⟨(S18.out.2.2.2.2.2.2.2.1.keep rW2).facts.1, (S18.out.2.2.2.2.2.2.2.1.keep rW2).facts.2.1, (S18.out.2.2.2.2.2.2.2.2.1.keep rW2).facts.1, (S18.out.2.2.2.2.2.2.2.2.1.keep rW2).facts.2.1⟩ (fun _ => ?_); clear hK K
            have q := (HF.out _ _ _ _).1 (st2r _ pp Ap lp cp pq Aq lq cq gr (Lib.hid ⟨rW2, rzp.keep (h.below), rOp.keep (h.below), h.zo, h.om rW.out.size, rXr.keep (h.below), rPr⟩)); rw [HA.out] at q; simp only [Act.put, List.setIfInBounds_toArray, List.set_cons_zero, List.set_cons_succ] at q; try simp only [Act.put, List.setIfInBounds_toArray, List.set_cons_zero, List.set_cons_succ]; exact q
          ·
            have hal := below_al W (.cells #[.bool false, .slice none 0 0] 24); have rW2 := rW.keep hal
            go_simp; refine hK.out _ _ ⟨(S18.out.2.2.2.2.2.2.2.1.keep rW2).facts.1, (S18.out.2.2.2.2.2.2.2.1.keep rW2).facts.2.1, (S18.out.2.2.2.2.2.2.2.2.1.keep rW2).facts.1, (S18.out.2.2.2.2.2.2.2.2.1.keep rW2).facts.2.1⟩ (fun _ => ?_); clear hK K
            obtain ⟨gp, hg⟩ : ∃ g, g = W.heap.size := ⟨_, rfl⟩; rw [← hg]
            have q := (HF.out _ _ _ _).1 (st1pr _ pp Ap lp cp gp gr (Lib.hid ⟨rW2, rzp.keep hal, rOp.keep hal, by rw [hg]; exact Bx.new _ W _ _, by rw [hg]; exact rW.out.size, rXr.keep hal, rPr, by rw [hg]; exact Nat.ne_of_gt rXr.lt⟩)); rw [HA.out] at q; simp only [Act.put, List.setIfInBounds_toArray, List.set_cons_zero, List.set_cons_succ] at q; try simp only [Act.put, List.setIfInBounds_toArray, List.set_cons_zero, List.set_cons_succ]; exact q
          ·
            have hal := below_al W (.cells #[.bool false, .slice none 0 0] 24); have rW2 := rW.keep hal
            go_simp; refine hK.out _ _ ⟨(S18.out.2.2.2.2.2.2.2.1.keep rW2).facts.1, (S18.out.2.2.2.2.2.2.2.1.keep rW2).facts.2.1, (S18.out.2.2.2.2.2.2.2.2.1.keep rW2).facts.1, (S18.out.2.2.2.2.2.2.2.2.1.keep rW2).facts.2.1⟩ (fun _ => ?_); clear hK K
            obtain ⟨gq, hg⟩ : ∃ g, g = W.heap.size := ⟨_, rfl⟩; rw [← hg]
            have q := (HF.out _ _ _ _).1 (st1qr _ pp Ap lp cp gq gr (Lib.hid ⟨rW2, rzp.keep hal, rOp.keep hal, by rw [hg]; exact Bx.new _ W _ _, by rw [hg]; exact rW.out.size, rXr.keep hal, rPr, by rw [hg]; exact Nat.ne_of_gt rXr.lt⟩)); rw [HA.out] at q; simp only [Act.put, List.setIfInBounds_toArray, List.set_cons_zero, List.set_cons_succ] at q; try simp only [Act.put, List.setIfInBounds_toArray, List.set_cons_zero, List.set_cons_succ]; exact q
        have st1 : ∀ (W : World) (pp : Bool) (Ap : Option Addr) (lp : Nat) (cp : Nat), Hid (Since V7 W ∧ Zo W (.agg #[.bool pp, .slice Ap lp cp]) (x + y) ∧ Om W V7.heap.size (.agg #[.bool pp, .slice Ap lp cp])) → F 8 #[true, true, true, true, true, false, true, true, false, false, false, false, false, false, false] (a0.put (some 60) (.agg #[.bool pp, .slice Ap lp cp])) W := by
          intro W pp Ap lp cp R
          refine (HF.out _ _ _ _).2 ?_; rw [HA.out]; try simp only [Act.put, List.setIfInBounds_toArray, List.set_cons_zero, List.set_cons_succ]
          obtain ⟨rW, rzp, rOp⟩ := R.out
          refine rgReady [5, 9, 10, 11] (rgOne (fun K hK => ?_) (rgOne (fun K hK => ?_) (rgOne (fun K hK => ?_) (rgOne (fun K hK => ?_) rgNil))))
          ·
            go_simp; go_at_call 33; refine (sub_z (S18.out.2.2.2.2.2.2.2.2.2.2.2.2.2.2.2.2.1.keep rW) (S18.out.2.2.2.2.2.2.2.2.2.2.2.2.2.2.2.2.2.1.keep rW) (by decide) (by decide)).mono ?_; rintro e W2 ⟨v, rfl, h⟩
            obtain ⟨pq, Aq, lq, cq, rfl, -⟩ := h.parts
            have rW2 := rW.keep (h.below)
            go_wp2_with fail
            refine hK.out _ _ ⟨(S18.out.2.2.2.2.2.2.2.1.keep rW2).facts.1, (S18.out.2.2.2.2.2.2.2.1.keep rW2).facts.2.1, (S18.out.2.2.2.2.2.2.2.2.1.keep rW2).facts.1, (S18.out.2.2.2.2.2.2.2.2.1.keep rW2).facts.2.1⟩ (fun _ => ?_); clear hK K
            have q := (HF.out _ _ _ _).1 (st2 _ pp Ap lp cp pq Aq lq cq (Lib.hid ⟨rW2, rzp.keep (h.below), rOp.keep (h.below), h.zo, h.om rW.out.size⟩)); rw [HA.out] at q; simp only [Act.put, List.setIfInBounds_toArray, List.set_cons_zero, List.set_cons_succ] at q; try simp only [Act.put, List.setIfInBounds_toArray, List.set_cons_zero, List.set_cons_succ]; exact q
          ·
            have hal := below_al W (.cells #[.bool false, .slice none 0 0] 24); have rW2 := rW.keep hal
            go_simp; refine hK.out _ _ ⟨(S18.out.2.2.2.2.2.2.2.1.keep rW2).facts.1, (S18.out.2.2.2.2.2.2.2.1.keep rW2).facts.2.1, (S18.out.2.2.2.2.2.2.2.2.1.keep rW2).facts.1, (S18.out.2.2.2.2.2.2.2.2.1.keep rW2).facts.2.1⟩ (fun _ => ?_); clear hK K
            obtain ⟨gp, hg⟩ : ∃ g, g = W.heap.size := ⟨_, rfl⟩; rw [← hg]
            have q := (HF.out _ _ _ _).1 (st1p _ pp Ap lp cp gp (Lib.hid ⟨rW2, rzp.keep hal, rOp.keep hal, by rw [hg]; exact Bx.new _ W _ _, by rw [hg]; exact rW.out.size⟩)); rw [HA.out] at q; simp only [Act.put, List.setIfInBounds_toArray, List.set_cons_zero, List.set_cons_succ] at q; try simp only [Act.put, List.setIfInBounds_toArray, List.set_cons_zero, List.set_cons_succ]; exact q
          ·
            have hal := below_al W (.cells #[.bool false, .slice none 0 0] 24); have rW2 := rW.keep hal
            go_simp; refine hK.out _ _ ⟨(S18.out.2.2.2.2.2.2.2.1.keep rW2).facts.1, (S18.out.2.2.2.2.2.2.2.1.keep rW2).facts.2.1, (S18.out.2.2.2.2.2.2.2.2.1.keep rW2).facts.1, (S18.out.2.2.2.2.2.2.2.2.1.keep rW2).facts.2.1⟩ (fun _ => ?_); clear hK K
            obtain ⟨gq, hg⟩ : ∃ g, g = W.heap.size := ⟨_, rfl⟩; rw [← hg]
            have q := (HF.out _ _ _ _).1 (st1q _ pp Ap lp cp gq (Lib.hid ⟨rW2, rzp.keep hal, rOp.keep hal, by rw [hg]; exact Bx.new _ W _ _, by rw [hg]; exact rW.out.size⟩)); rw [HA.out] at q; simp only [Act.put, List.setIfInBounds_toArray, List.set_cons_zero, List.set_cons_succ] at q; try simp only [Act.put, List.setIfInBounds_toArray, List.set_cons_zero, List.set_cons_succ]; exact q
          ·
            have hal := below_al W (.cells #[.bool false, .slice none 0 0] 24); have rW2 := rW.keep hal
            go_simp; refine hK.out _ _ ⟨(S18.out.2.2.2.2.2.2.2.1.keep rW2).facts.1, (S18.out.2.2.2.2.2.2.2.1.keep rW2).facts.2.1, (S18.out.2.2.2.2.2.2.2.2.1.keep rW2).facts.1, (S18.out.2.2.2.2.2.2.2.2.1.keep rW2).facts.2.1⟩ (fun _ => ?_); clear hK K
            obtain ⟨gr, hg⟩ : ∃ g, g = W.heap.size := ⟨_, rfl⟩; rw [← hg]
            have q := (HF.out _ _ _ _).1 (st1r _ pp Ap lp cp gr (Lib.hid ⟨rW2, rzp.keep hal, rOp.keep hal, by rw [hg]; exact Bx.new _ W _ _, by rw [hg]; exact rW.out.size⟩)); rw [HA.out] at q; simp only [Act.put, List.setIfInBounds_toArray, List.set_cons_zero, List.set_cons_succ] at q; try simp only [Act.put, List.setIfInBounds_toArray, List.set_cons_zero, List.set_cons_succ]; exact q
        have st0pqr : ∀ (W : World) (gp : Nat) (gq : Nat) (gr : Nat), Hid (Since V7 W ∧ Bx 24 W gp (.bool false) (.slice none 0 0) ∧ V7.heap.size ≤ gp ∧ Bx 24 W gq (.bool false) (.slice none 0 0) ∧ V7.heap.size ≤ gq ∧ Bx 24 W gr (.bool false) (.slice none 0 0) ∧ V7.heap.size ≤ gr ∧ gp ≠ gq ∧ gp ≠ gr ∧ gq ≠ gr) → F 6 #[true, true, false, true, true, false, true, true, false, true, true, true, false, false, false] (((a0.put (some 10) (.pointer (some ⟨gp, 0, none⟩))).put (some 11) (.pointer (some ⟨gq, 0, none⟩))).put (some 12) (.pointer (some ⟨gr, 0, none⟩))) W := by
          intro W gp gq gr R
          refine (HF.out _ _ _ _).2 ?_; rw [HA.out]; try simp only [Act.put, List.setIfInBounds_toArray, List.set_cons_zero, List.set_cons_succ]
          obtain ⟨rW, rXp, rPp, rXq, rPq, rXr, rPr, rNpq, rNpr, rNqr⟩ := R.out
          refine rgReady [2] (rgOne (fun K hK => ?_) rgNil)
          go_simp; go_at_call 32; refine (add_z (S18.out.2.2.2.2.2.2.2.2.2.2.2.2.2.2.2.2.1.keep rW) (S18.out.2.2.2.2.2.2.2.2.2.2.2.2.2.2.2.2.2.1.keep rW) (by decide) (by decide)).mono ?_; rintro e W2 ⟨v, rfl, h⟩
          obtain ⟨pp, Ap, lp, cp, rfl, -⟩ := h.parts
          have rW2 := rW.keep (h.below)
          go_wp2_with fail
          refine hK.out _ _ ⟨(S18.out.2.2.2.2.2.2.2.1.keep rW2).facts.1, (S18.out.2.2.2.2.2.2.2.1.keep rW2).facts.2.1, (S18.out.2.2.2.2.2.2.2.2.1.keep rW2).facts.1, (S18.out.2.2.2.2.2.2.2.2.1.keep rW2).facts.2.1⟩ (fun _ => ?_); clear hK K
          have q := (HF.out _ _ _ _).1 (st1pqr _ pp Ap lp cp gp gq gr (Lib.hid ⟨rW2, h.zo, h.om rW.out.size, rXp.keep (h.below), rPp, rXq.keep (h.below), rPq, rXr.keep (h.below), rPr, rNpq, rNpr, rNqr⟩)); rw [HA.out] at q; simp only [Act.put, List.setIfInBounds_toArray, List.set_cons_zero, List.set_cons_succ] at q; try simp only [Act.put, List.setIfInBounds_toArray, List.set_cons_zero, List.set_cons_succ]; exact q
        have st0pq : ∀ (W : World) (gp : Nat) (gq : Nat), Hid (Since V7 W ∧ Bx 24 W gp (.bool false) (.slice none 0 0) ∧ V7.heap.size ≤ gp ∧ Bx 24 W gq (.bool false) (.slice none 0 0) ∧ V7.heap.size ≤ gq ∧ gp ≠ gq) → F 7 #[true, true, false, true, true, false, true, true, false, true, true, false, false, false, false] ((a0.put (some 10) (.pointer (some ⟨gp, 0, none⟩))).put (some 11) (.pointer (some ⟨gq, 0, none⟩))) W := by
          intro W gp gq R
          refine (HF.out _ _ _ _).2 ?_; rw [HA.out]; try simp only [Act.put, List.setIfInBounds_toArray, List.set_cons_zero, List.set_cons_succ]
          obtain ⟨rW, rXp, rPp, rXq, rPq, rNpq⟩ := R.out
          refine rgReady [2, 11] (rgOne (fun K hK => ?_) (rgOne (fun K hK => ?_) rgNil))
          ·
            go_simp; go_at_call 32; refine (add_z (S18.out.2.2.2.2.2.2.2.2.2.2.2.2.2.2.2.2.1.keep rW) (S18.out.2.2.2.2.2.2.2.2.2.2.2.2.2.2.2.2.2.1.keep rW) (by decide) (by decide)).mono ?_; rintro e W2 ⟨v, rfl, h⟩
            obtain ⟨pp, Ap, lp, cp, rfl, -⟩ := h.parts
            have rW2 := rW.keep (h.below)
            go_wp2_with fail
            refine hK.out _ _ ⟨(S18.out.2.2.2.2.2.2.2.1.keep rW2).facts.1, (S18.out.2.2.2.2.2.2.2.1.keep rW2).facts.2.1, (S18.out.2.2.2.2.2.2.2.2.1.keep rW2).facts.1, (S18.out.2.2.2.2.2.2.2.2.1.keep rW2).facts.2.1⟩ (fun _ => ?_); clear hK K
            have q := (HF.out _ _ _ _).1 (st1pq _ pp Ap lp cp gp gq (Lib.hid ⟨rW2, h.zo, h.om rW.out.size, rXp.keep (h.below), rPp, rXq.keep (h.below), rPq, rNpq⟩)); rw [HA.out] at q; simp only [Act.put, List.setIfInBounds_toArray, List.set_cons_zero, List.set_cons_succ] at q; try simp only [Act.put, List.setIfInBounds_toArray, List.set_cons_zero, List.set_cons_succ]; exact q
          ·
            have hal := below_al W (.cells #[.bool false, .slice none 0 0] 24); have rW2 := rW.keep hal
            go_simp; refine hK.out _ _ ⟨(S18.out.2.2.2.2.2.2.2.1.keep rW2).facts.1, (S18.out.2.2.2.2.2.2.2.1.keep rW2).facts.2.1, (S18.out.2.2.2.2.2.2.2.2.1.keep rW2).facts.1, (S18.out.2.2.2.2.2.2.2.2.1.keep rW2).facts.2.1⟩ (fun _ => ?_); clear hK K
            obtain ⟨gr, hg⟩ : ∃ g, g = W.heap.size := ⟨_, rfl⟩; rw [← hg]
            have q := (HF.out _ _ _ _).1 (st0pqr _ gp gq gr (Lib.hid ⟨rW2, rXp.keep hal, rPp, rXq.keep hal, rPq, by rw [hg]; exact Bx.new _ W _ _, by rw [hg]; exact rW.out.size, rNpq, by rw [hg]; exact Nat.ne_of_lt rXp.lt, by rw [hg]; exact Nat.ne_of_lt rXq.lt⟩)); rw [HA.out] at q; simp only [Act.put, List.setIfInBounds_toArray, List.set_cons_zero, List.set_cons_succ] at q; try simp only [Act.put, List.setIfInBounds_toArray, List.set_cons_zero, List.set_cons_succ]; exact q
        have st0pr : ∀ (W : World) (gp : Nat) (gr : Nat), Hid (Since V7 W ∧ Bx 24 W gp (.bool false) (.slice none 0 0) ∧ V7.heap.size ≤ gp ∧ Bx 24 W gr (.bool false) (.slice none 0 0) ∧ V7.heap.size ≤ gr ∧ gp ≠ gr) → F 7 #[true, true, false, true, true, false, true, true, false, true, false, true, false, false, false] ((a0.put (some 10) (.pointer (some ⟨gp, 0, none⟩))).put (some 12) (.pointer (some ⟨gr, 0, none⟩))) W := by
          intro W gp gr R
          refine (HF.out _ _ _ _).2 ?_; rw [HA.out]; try simp only [Act.put, List.setIfInBounds_toArray, List.set_cons_zero, List.set_cons_succ]
          obtain ⟨rW, rXp, rPp, rXr, rPr, rNpr⟩ := R.out
          refine rgReady [2, 10] (rgOne (fun K hK => ?_) (rgOne (fun K hK => ?_) rgNil))
          ·
            go_simp; go_at_call 32; refine (add_z (S18.out.2.2.2.2.2.2.2.2.2.2.2.2.2.2.2.2.1.keep rW) (S18.out.2.2.2.2.2.2.2.2.2.2.2.2.2.2.2.2.2.1.keep rW) (by decide) (by decide)).mono ?_; rintro e W2 ⟨v, rfl, h⟩
            obtain ⟨pp, Ap, lp, cp, rfl, -⟩ := h.parts
            have rW2 := rW.keep (h.below)
            go_wp2_with fail
            refine hK.out _ _ ⟨(S18.out.2.2.2.2.2.2.2.1.keep rW2).facts.1, (S18.out.2.2.2.2.2.2.2.1.keep rW2).facts.2.1, (S18.out.2.2.2.2.2.2.2.2.1.keep rW2).facts.1, (S18.out.2.2.2.2.2.2.2.2.1.keep rW2).facts.2.1⟩ (fun _ => ?_); clear hK K
            have q := (HF.out _ _ _ _).1 (st1pr _ pp Ap lp cp gp gr (Lib.hid ⟨rW2, h.zo, h.om rW.out.size, rXp.keep (h.below), rPp, rXr.keep (h.below), rPr, rNpr⟩)); rw [HA.out] at q; simp only [Act.put, List.setIfInBounds_toArray, List.set_cons_zero, List.set_cons_succ] at q; try simp only [Act.put, List.setIfInBounds_toArray, List.set_cons_zero, List.set_cons_succ]; exact q
          ·
            have hal := below_al W (.cells #[.bool false, .slice none 0 0] 24); have rW2 := rW.keep hal
            go_simp; refine hK.out _ _ ⟨(S18.out.2.2.2.2.2.2.2.1.keep rW2).facts.1, (S18.out.2.2.2.2.2.2.2.1.keep rW2).facts.2.1, (S18.out.2.2.2.2.2.2.2.2.1.keep rW2).facts.1, (S18.out.2.2.2.2.2.2.2.2.1.keep rW2).facts.2.1⟩ (fun _ => ?_); clear hK K
            obtain ⟨gq, hg⟩ : ∃ g, g = W.heap.size := ⟨_, rfl⟩; rw [← hg]
            have q := (HF.out _ _ _ _).1 (st0pqr _ gp gq gr (Lib.hid ⟨rW2, rXp.keep hal, rPp, by rw [hg]; exact Bx.new _ W _ _, by rw [hg]; exact rW.out.size, rXr.keep hal, rPr, by rw [hg]; exact Nat.ne_of_lt rXp.lt, rNpr, by rw [hg]; exact Nat.ne_of_gt rXr.lt⟩)); rw [HA.out] at q; simp only [Act.put, List.setIfInBounds_toArray, List.set_cons_zero, List.set_cons_succ] at q; try simp only [Act.put, List.setIfInBounds_toArray, List.set_cons_zero, List.set_cons_succ]; exact q
        have st0qr : ∀ (W : World) (gq : Nat) (gr : Nat), Hid (Since V7 W ∧ Bx 24 W gq (.bool false) (.slice none 0 0) ∧ V7.heap.size ≤ gq ∧ Bx 24 W gr (.bool false) (.slice none 0 0) ∧ V7.heap.size ≤ gr ∧ gq ≠ gr) → F 7 #[true, true, false, true, true, false, true, true, false, false, true, true, false, false, false] ((a0.put (some 11) (.pointer (some ⟨gq, 0, none⟩))).put (some 12) (.pointer (some ⟨gr, 0, none⟩))) W := by
          intro W gq gr R
          refine (HF.out _ _ _ _).2 ?_; rw [HA.out]; try simp only [Act.put, List.setIfInBounds_toArray, List.set_cons_zero, List.set_cons_succ]
          obtain ⟨rW, rXq, rPq, rXr, rPr, rNqr⟩ := R.out
          refine rgReady [2, 9] (rgOne (fun K hK => ?_) (rgOne (fun K hK => ?_) rgNil))
          ·
            go_simp; go_at_call 32; refine (add_z (S18.out.2.2.2.2.2.2.2.2.2.2.2.2.2.2.2.2.1.keep rW) (S18.out.2.2.2.2.2.2.2.2.2.2.2.2.2.2.2.2.2.1.keep rW) (by decide) (by decide)).mono ?_; rintro e W2 ⟨v, rfl, h⟩
            obtain ⟨pp, Ap, lp, cp, rfl, -⟩ := h.parts
            have rW2 := rW.keep (h.below)
            go_wp2_with fail
            refine hK.out _ _ ⟨(S18.out.2.2.2.2.2.2.2.1.keep rW2).facts.1, (S18.out.2.2.2.2.2.2.2.1.keep rW2).facts.2.1, (S18.out.2.2.2.2.2.2.2.2.1.keep rW2).facts.1, (S18.out.2.2.2.2.2.2.2.2.1.keep rW2).facts.2.1⟩ (fun _ => ?_); clear hK K
            have q := (HF.out _ _ _ _).1 (st1qr _ pp Ap lp cp gq gr (Lib.hid ⟨rW2, h.zo, h.om rW.out.size, rXq.keep (h.below), rPq, rXr.keep (h.below), rPr, rNqr⟩)); rw [HA.out] at q; simp only [Act.put, List.setIfInBounds_toArray, List.set_cons_zero, List.set_cons_succ] at q; try simp only [Act.put, List.setIfInBounds_toArray, List.set_cons_zero, List.set_cons_succ]; exact q
          ·
            have hal := below_al W (.cells #[.bool false, .slice none 0 0] 24); have rW2 := rW.keep hal
            go_simp; refine hK.out _ _ ⟨(S18.out.2.2.2.2.2.2.2.1.keep rW2).facts.1, (S18.out.2.2.2.2.2.2.2.1.keep rW2).facts.2.1, (S18.out.2.2.2.2.2.2.2.2.1.keep rW2).facts.1, (S18.out.2.2.2.2.2.2.2.2.1.keep rW2).facts.2.1⟩ (fun _ => ?_); clear hK K
            obtain ⟨gp, hg⟩ : ∃ g, g = W.heap.size := ⟨_, rfl⟩; rw [← hg]
            have q := (HF.out _ _ _ _).1 (st0pqr _ gp gq gr (Lib.hid ⟨rW2, by rw [hg]; exact Bx.new _ W _ _, by rw [hg]; exact rW.out.size, rXq.keep hal, rPq, rXr.keep hal, rPr, by rw [hg]; exact Nat.ne_of_gt rXq.lt, by rw [hg]; exact Nat.ne_of_gt rXr.lt, rNqr⟩)); rw [HA.out] at q; simp only [Act.put, List.setIfInBounds_toArray, List.set_cons_zero, List.set_cons_succ] at q; try simp only [Act.put, List.setIfInBounds_toArray, List.set_cons_zero, List.set_cons_succ]; exact q
        have st0p : ∀ (W : World) (gp : Nat), Hid (Since V7 W ∧ Bx 24 W gp (.bool false) (.slice none 0 0) ∧ V7.heap.size ≤ gp) → F 8 #[true, true, false, true, true, false, true, true, false, true, false, false, false, false, false] (a0.put (some 10) (.pointer (some ⟨gp, 0, none⟩))) W := by
          intro W gp R
          refine (HF.out _ _ _ _).2 ?_; rw [HA.out]; try simp only [Act.put, List.setIfInBounds_toArray, List.set_cons_zero, List.set_cons_succ]
          obtain ⟨rW, rXp, rPp⟩ := R.out
          refine rgReady [2, 10, 11] (rgOne (fun K hK => ?_) (rgOne (fun K hK => ?_) (rgOne (fun K hK => ?_) rgNil)))
          ·
            go_simp; go_at_call 32; refine (add_z (S18.out.2.2.2.2.2.2.2.2.2.2.2.2.2.2.2.2.1.keep rW) (S18.out.2.2.2.2.2.2.2.2.2.2.2.2.2.2.2.2.2.1.keep rW) (by decide) (by decide)).mono ?_; rintro e W2 ⟨v, rfl, h⟩
            obtain ⟨pp, Ap, lp, cp, rfl, -⟩ := h.parts
            have rW2 := rW.keep (h.below)
            go_wp2_with fail
            refine hK.out _ _ ⟨(S18.out.2.2.2.2.2.2.2.1.keep rW2).facts.1, (S18.out.2.2.2.2.2.2.2.1.keep rW2).facts.2.1, (S18.out.2.2.2.2.2.2.2.2.1.keep rW2).facts.1, (S18.out.2.2.2.2.2.2.2.2.1.keep rW2).facts.2.1⟩ (fun _ => ?_); clear hK K
            have q := (HF.out _ _ _ _).1 (st1p _ pp Ap lp cp gp (Lib.hid ⟨rW2, h.zo, h.om rW.out.size, rXp.keep (h.below), rPp⟩)); rw [HA.out] at q; simp only [Act.put, List.setIfInBounds_toArray, List.set_cons_zero, List.set_cons_succ] at q; try simp only [Act.put, List.setIfInBounds_toArray, List.set_cons_zero, List.set_cons_succ]; exact q
          ·
            have hal := below_al W (.cells #[.bool false, .slice none 0 0] 24); have rW2 := rW.keep hal
            go_simp; refine hK.out _ _ ⟨(S18.out.2.2.2.2.2.2.2.1.keep rW2).facts.1, (S18.out.2.2.2.2.2.2.2.1.keep rW2).facts.2.1, (S18.out.2.2.2.2.2.2.2.2.1.keep rW2).facts.1, (S18.out.2.2.2.2.2.2.2.2.1.keep rW2).facts.2.1⟩ (fun _ => ?_); clear hK K
            obtain ⟨gq, hg⟩ : ∃ g, g = W.heap.size := ⟨_, rfl⟩; rw [← hg]
            have q := (HF.out _ _ _ _).1 (st0pq _ gp gq (Lib.hid ⟨rW2, rXp.keep hal, rPp, by rw [hg]; exact Bx.new _ W _ _, by rw [hg]; exact rW.out.size, by rw [hg]; exact Nat.ne_of_lt rXp.lt⟩)); rw [HA.out] at q; simp only [Act.put, List.setIfInBounds_toArray, List.set_cons_zero, List.set_cons_succ] at q; try simp only [Act.put, List.setIfInBounds_toArray, List.set_cons_zero, List.set_cons_succ]; exact q
          ·
            have hal := below_al W (.cells #[.bool false, .slice none 0 0] 24); have rW2 := rW.keep hal
            go_simp; refine hK.out _ _ ⟨(S18.out.2.2.2.2.2.2.2.1.keep rW2).facts.1, (S18.out.2.2.2.2.2.2.2.1.keep rW2).facts.2.1, (S18.out.2.2.2.2.2.2.2.2.1.keep rW2).facts.1, (S18.out.2.2.2.2.2.2.2.2.1.keep rW2).facts.2.1⟩ (fun _ => ?_); clear hK K
            obtain ⟨gr, hg⟩ : ∃ g, g = W.heap.size := ⟨_, rfl⟩; rw [← hg]
            have q := (HF.out _ _ _ _).1 (st0pr _ gp gr (Lib.hid ⟨rW2, rXp.keep hal, rPp, by rw [hg]; exact Bx.new _ W _ _, by rw [hg]; exact rW.out.size, by rw [hg]; exact Nat.ne_of_lt rXp.lt⟩)); rw [HA.out] at q; simp only [Act.put, List.setIfInBounds_toArray, List.set_cons_zero, List.set_cons_succ] at q; try simp only [Act.put, List.setIfInBounds_toArray, List.set_cons_zero, List.set_cons_succ]; exact q
        have st0q : ∀ (W : World) (gq : Nat), Hid (Since V7 W ∧ Bx 24 W gq (.bool false) (.slice none 0 0) ∧ V7.heap.size ≤ gq) → F 8 #[true, true, false, true, true, false, true, true, false, false, true, false, false, false, false] (a0.put (some 11) (.pointer (some ⟨gq, 0, none⟩))) W := by
          intro W gq R
          refine (HF.out _ _ _ _).2 ?_; rw [HA.out]; try simp only [Act.put, List.setIfInBounds_toArray, List.set_cons_zero, List.set_cons_succ]
          obtain ⟨rW, rXq, rPq⟩ := R.out
          refine rgReady [2, 9, 11] (rgOne (fun K hK => ?_) (rgOne (fun K hK => ?_) (rgOne (fun K hK => ?_) rgNil)))
          ·
            go_simp; go_at_call 32; refine (add_z (S18.out.2.2.2.2.2.2.2.2.2.2.2.2.2.2.2.2.1.keep rW) (S18.out.2.2.2.2.2.2.2.2.2.2.2.2.2.2.2.2.2.1.keep rW) (by decide) (by decide)).mono ?_; rintro e W2 ⟨v, rfl, h⟩
            obtain ⟨pp, Ap, lp, cp, rfl, -⟩ := h.parts
            have rW2 := rW.keep (h.below)
            go_wp2_with fail
            refine hK.out _ _ ⟨(S18.out.2.2.2.2.2.2.2.1.keep rW2).facts.1, (S18.out.2.2.2.2.2.2.2.1.keep rW2).facts.2.1, (S18.out.2.2.2.2.2.2.2.2.1.keep rW2).facts.1, (S18.out.2.2.2.2.2.2.2.2.1.keep rW2).facts.2.1⟩ (fun _ => ?_); clear hK K
            have q := (HF.out _ _ _ _).1 (st1q _ pp Ap lp cp gq (Lib.hid ⟨rW2, h.zo, h.om rW.out.size, rXq.keep (h.below), rPq⟩)); rw [HA.out] at q; simp only [Act.put, List.setIfInBounds_toArray, List.set_cons_zero, List.set_cons_succ] at q; try simp only [Act.put, List.setIfInBounds_toArray, List.set_cons_zero, List.set_cons_succ]; exact q
          ·
            have hal := below_al W (.cells #[.bool false, .slice none 0 0] 24); have rW2 := rW.keep hal
            go_simp; refine hK.out _ _ ⟨(S18.out.2.2.2.2.2.2.2.1.keep rW2).facts.1, (S18.out.2.2.2.2.2.2.2.1.keep rW2).facts.2.1, (S18.out.2.2.2.2.2.2.2.2.1.keep rW2).facts.1, (S18.out.2.2.2.2.2.2.2.2.1.keep rW2).facts.2.1⟩ (fun _ => ?_); clear hK K
            obtain ⟨gp, hg⟩ : ∃ g, g = W.heap.size := ⟨_, rfl⟩; rw [← hg]
            have q := (HF.out _ _ _ _).1 (st0pq _ gp gq (Lib.hid ⟨rW2, by rw [hg]; exact Bx.new _ W _ _, by rw [hg]; exact rW.out.size, rXq.keep hal, rPq, by rw [hg]; exact Nat.ne_of_gt rXq.lt⟩)); rw [HA.out] at q; simp only [Act.put, List.setIfInBounds_toArray, List.set_cons_zero, List.set_cons_succ] at q; try simp only [Act.put, List.setIfInBounds_toArray, List.set_cons_zero, List.set_cons_succ]; exact q
          ·
            have hal := below_al W (.cells #[.bool false, .slice none 0 0] 24); have rW2 := rW.keep hal
            go_simp; refine hK.out _ _ ⟨(S18.out.2.2.2.2.2.2.2.1.keep rW2).facts.1, (S18.out.2.2.2.2.2.2.2.1.keep rW2).facts.2.1, (S18.out.2.2.2.2.2.2.2.2.1.keep rW2).facts.1, (S18.out.2.2.2.2.2.2.2.2.1.keep rW2).facts.2.1⟩ (fun _ => ?_); clear hK K
            obtain ⟨gr, hg⟩ : ∃ g, g = W.heap.size := ⟨_, rfl⟩; rw [← hg]
            have q := (HF.out _ _ _ _).1 (st0qr _ gq gr (Lib.hid ⟨rW2, rXq.keep hal, rPq, by rw [hg]; exact Bx.new _ W _ _, by rw [hg]; exact rW.out.size, by rw [hg]; exact Nat.ne_of_lt rXq.lt⟩)); rw [HA.out] at q; simp only [Act.put, List.setIfInBounds_toArray, List.set_cons_zero, List.set_cons_succ] at q; try simp only [Act.put, List.setIfInBounds_toArray, List.set_cons_zero, List.set_cons_succ]; exact q
        have st0r : ∀ (W : World) (gr : Nat), Hid (Since V7 W ∧ Bx 24 W gr (.bool false) (.slice none 0 0) ∧ V7.heap.size ≤ gr) → F 8 #[true, true, false, true, true, false, true, true, false, false, false, true, false, false, false] (a0.put (some 12) (.pointer (some ⟨gr, 0, none⟩))) W := by
          intro W gr R
          refine (HF.out _ _ _ _).2 ?_; rw [HA.out]; try simp only [Act.put, List.setIfInBounds_toArray, List.set_cons_zero, List.set_cons_succ]
          obtain ⟨rW, rXr, rPr⟩ := R.out
          refine rgReady [2, 9, 10] (rgOne (fun K hK => ?_) (rgOne (fun K hK => ?_) (rgOne (fun K hK => ?_) rgNil)))
          ·
            go_simp; go_at_call 32; refine (add_z (S18.out.2.2.2.2.2.2.2.2.2.2.2.2.2.2.2.2.1.keep rW) (S18.out.2.2.2.2.2.2.2.2.2.2.2.2.2.2.2.2.2.1.keep rW) (by decide) (by decide)).mono ?_; rintro e W2 ⟨v, rfl, h⟩
            obtain ⟨pp, Ap, lp, cp, rfl, -⟩ := h.parts
            have rW2 := rW.keep (h.below)
            go_wp2_with fail
            refine hK.out _ _ ⟨(S18.out.2.2.2.2.2.2.2.1.keep rW2).facts.1, (S18.out.2.2.2.2.2.2.2.1.keep rW2).facts.2.1, (S18.out.2.2.2.2.2.2.2.2.1.keep rW2).facts.1, (S18.out.2.2.2.2.2.2.2.2.1.keep rW2).facts.2.1⟩ (fun _ => ?_); clear hK K
            have q := (HF.out _ _ _ _).1 (st1r _ pp Ap lp cp gr (Lib.hid ⟨rW2, h.zo, h.om rW.out.size, rXr.keep (h.below), rPr⟩)); rw [HA.out] at q; simp only [Act.put, List.setIfInBounds_toArray, List.set_cons_zero, List.set_cons_succ] at q; try simp only [Act.put, List.setIfInBounds_toArray, List.set_cons_zero, List.set_cons_succ]; exact q
          ·
            have hal := below_al W (.cells #[.bool false, .slice none 0 0] 24); have rW2 := rW.keep hal
            go_simp; refine hK.out _ _ ⟨(S18.out.2.2.2.2.2.2.2.1.keep rW2).facts.1, (S18.out.2.2.2.2.2.2.2.1.keep rW2).facts.2.1, (S18.out.2.2.2.2.2.2.2.2.1.keep rW2).facts.1, (S18.out.2.2.2.2.2.2.2.2.1.keep rW2).facts.2.1⟩ (fun _ => ?_); clear hK K
            obtain ⟨gp, hg⟩ : ∃ g, g = W.heap.size := ⟨_, rfl⟩; rw [← hg]
            have q := (HF.out _ _ _ _).1 (st0pr _ gp gr (Lib.hid ⟨rW2, by rw [hg]; exact Bx.new _ W _ _, by rw [hg]; exact rW.out.size, rXr.keep hal, rPr, by rw [hg]; exact Nat.ne_of_gt rXr.lt⟩)); rw [HA.out] at q; simp only [Act.put, List.setIfInBounds_toArray, List.set_cons_zero, List.set_cons_succ] at q; try simp only [Act.put, List.setIfInBounds_toArray, List.set_cons_zero, List.set_cons_succ]; exact q
          ·
            have hal := below_al W (.cells #[.bool false, .slice none 0 0] 24); have rW2 := rW.keep hal
            go_simp; refine hK.out _ _ ⟨(S18.out.2.2.2.2.2.2.2.1.keep rW2).facts.1, (S18.out.2.2.2.2.2.2.2.1.keep rW2).facts.2.1, (S18.out.2.2.2.2.2.2.2.2.1.keep rW2).facts.1, (S18.out.2.2.2.2.2.2.2.2.1.keep rW2).facts.2.1⟩ (fun _ => ?_); clear hK K
            obtain ⟨gq, hg⟩ : ∃ g, g = W.heap.size := ⟨_, rfl⟩; rw [← hg]
            have q := (HF.out _ _ _ _).1 (st0qr _ gq gr (Lib.hid ⟨rW2, by rw [hg]; exact Bx.new _ W _ _, by rw [hg]; exact rW.out.size, rXr.keep hal, rPr, by rw [hg]; exact Nat.ne_of_gt rXr.lt⟩)); rw [HA.out] at q; simp only [Act.put, List.setIfInBounds_toArray, List.set_cons_zero, List.set_cons_succ] at q; try simp only [Act.put, List.setIfInBounds_toArray, List.set_cons_zero, List.set_cons_succ]; exact q
        have st0 : ∀ (W : World), Hid (Since V7 W) → F 9 #[true, true, false, true, true, false, true, true, false, false, false, false, false, false, false] a0 W := by
          intro W  R
          refine (HF.out _ _ _ _).2 ?_; rw [HA.out]; try simp only [Act.put, List.setIfInBounds_toArray, List.set_cons_zero, List.set_cons_succ]
          have rW := R.out
          refine rgReady [2, 9, 10, 11] (rgOne (fun K hK => ?_) (rgOne (fun K hK => ?_) (rgOne (fun K hK => ?_) (rgOne (fun K hK => ?_) rgNil))))
          ·
            go_simp; go_at_call 32; refine (add_z (S18.out.2.2.2.2.2.2.2.2.2.2.2.2.2.2.2.2.1.keep rW) (S18.out.2.2.2.2.2.2.2.2.2.2.2.2.2.2.2.2.2.1.keep rW) (by decide) (by decide)).mono ?_; rintro e W2 ⟨v, rfl, h⟩
            obtain ⟨pp, Ap, lp, cp, rfl, -⟩ := h.parts
            have rW2 := rW.keep (h.below)
            go_wp2_with fail
            refine hK.out _ _ ⟨(S18.out.2.2.2.2.2.2.2.1.keep rW2).facts.1, (S18.out.2.2.2.2.2.2.2.1.keep rW2).facts.2.1, (S18.out.2.2.2.2.2.2.2.2.1.keep rW2).facts.1, (S18.out.2.2.2.2.2.2.2.2.1.keep rW2).facts.2.1⟩ (fun _ => ?_); clear hK K
            have q := (HF.out _ _ _ _).1 (st1 _ pp Ap lp cp (Lib.hid ⟨rW2, h.zo, h.om rW.out.size⟩)); rw [HA.out] at q; simp only [Act.put, List.setIfInBounds_toArray, List.set_cons_zero, List.set_cons_succ] at q; try simp only [Act.put, List.setIfInBounds_toArray, List.set_cons_zero, List.set_cons_succ]; exact q
          ·
            have hal := below_al W (.cells #[.bool false, .slice none 0 0] 24); have rW2 := rW.keep hal
            go_simp; refine hK.out _ _ ⟨(S18.out.2.2.2.2.2.2.2.1.keep rW2).facts.1, (S18.out.2.2.2.2.2.2.2.1.keep rW2).facts.2.1, (S18.out.2.2.2.2.2.2.2.2.1.keep rW2).facts.1, (S18.out.2.2.2.2.2.2.2.2.1.keep rW2).facts.2.1⟩ (fun _ => ?_); clear hK K
            obtain ⟨gp, hg⟩ : ∃ g, g = W.heap.size := ⟨_, rfl⟩; rw [← hg]
            have q := (HF.out _ _ _ _).1 (st0p _ gp (Lib.hid ⟨rW2, by rw [hg]; exact Bx.new _ W _ _, by rw [hg]; exact rW.out.size⟩)); rw [HA.out] at q; simp only [Act.put, List.setIfInBounds_toArray, List.set_cons_zero, List.set_cons_succ] at q; try simp only [Act.put, List.setIfInBounds_toArray, List.set_cons_zero, List.set_cons_succ]; exact q
          ·
            have hal := below_al W (.cells #[.bool false, .slice none 0 0] 24); have rW2 := rW.keep hal
            go_simp; refine hK.out _ _ ⟨(S18.out.2.2.2.2.2.2.2.1.keep rW2).facts.1, (S18.out.2.2.2.2.2.2.2.1.keep rW2).facts.2.1, (S18.out.2.2.2.2.2.2.2.2.1.keep rW2).facts.1, (S18.out.2.2.2.2.2.2.2.2.1.keep rW2).facts.2.1⟩ (fun _ => ?_); clear hK K
            obtain ⟨gq, hg⟩ : ∃ g, g = W.heap.size := ⟨_, rfl⟩; rw [← hg]
            have q := (HF.out _ _ _ _).1 (st0q _ gq (Lib.hid ⟨rW2, by rw [hg]; exact Bx.new _ W _ _, by rw [hg]; exact rW.out.size⟩)); rw [HA.out] at q; simp only [Act.put, List.setIfInBounds_toArray, List.set_cons_zero, List.set_cons_succ] at q; try simp only [Act.put, List.setIfInBounds_toArray, List.set_cons_zero, List.set_cons_succ]; exact q
          ·
            have hal := below_al W (.cells #[.bool false, .slice none 0 0] 24); have rW2 := rW.keep hal
            go_simp; refine hK.out _ _ ⟨(S18.out.2.2.2.2.2.2.2.1.keep rW2).facts.1, (S18.out.2.2.2.2.2.2.2.1.keep rW2).facts.2.1, (S18.out.2.2.2.2.2.2.2.2.1.keep rW2).facts.1, (S18.out.2.2.2.2.2.2.2.2.1.keep rW2).facts.2.1⟩ (fun _ => ?_); clear hK K
            obtain ⟨gr, hg⟩ : ∃ g, g = W.heap.size := ⟨_, rfl⟩; rw [← hg]
            have q := (HF.out _ _ _ _).1 (st0r _ gr (Lib.hid ⟨rW2, by rw [hg]; exact Bx.new _ W _ _, by rw [hg]; exact rW.out.size⟩)); rw [HA.out] at q; simp only [Act.put, List.setIfInBounds_toArray, List.set_cons_zero, List.set_cons_succ] at q; try simp only [Act.put, List.setIfInBounds_toArray, List.set_cons_zero, List.set_cons_succ]; exact q
        exact st0 Wd R0
      case rest =>
        obtain ⟨gp, gq, gr, pp, Ap, lp, cp, pq, Aq, lq, cq, pr, Ar, lr, cr, rfl, rfl, rfl, hs, h0, h1, h2, h3, h4, h5, h6, h7, h8⟩ := hcut
        have S19 := Lib.hid (And.intro (S18.out.1.keep hs) (And.intro (S18.out.2.1.keep hs) (And.intro (S18.out.2.2.1.keep hs) (And.intro (S18.out.2.2.2.1.keep hs) (And.intro (S18.out.2.2.2.2.1.keep hs) (And.intro (S18.out.2.2.2.2.2.1.keep hs) (And.intro (S18.out.2.2.2.2.2.2.1.keep hs) (And.intro (S18.out.2.2.2.2.2.2.2.1.keep hs) (And.intro (S18.out.2.2.2.2.2.2.2.2.1.keep hs) (And.intro (S18.out.2.2.2.2.2.2.2.2.2.1.keep hs) (And.intro (S18.out.2.2.2.2.2.2.2.2.2.2.1.keep hs) (And.intro (S18.out.2.2.2.2.2.2.2.2.2.2.2.2.1.keep hs) (And.intro (S18.out.2.2.2.2.2.2.2.2.2.2.2.2.2.1.keep hs) (And.intro (S18.out.2.2.2.2.2.2.2.2.2.2.2.2.2.2.1.keep hs) (And.intro (S18.out.2.2.2.2.2.2.2.2.2.2.2.2.2.2.2.1.keep hs) (And.intro (S18.out.2.2.2.2.2.2.2.2.2.2.2.2.2.2.2.2.1.keep hs) (And.intro (S18.out.2.2.2.2.2.2.2.2.2.2.2.2.2.2.2.2.2.1.keep hs) (And.intro (hs) (And.intro (h0) (And.intro (h1) (And.intro (h2) (And.intro (h3) (And.intro (h4) (And.intro (h5) (And.intro (h6) (And.intro (h7) (And.intro (h8) (below_trans (S18.out.2.2.2.2.2.2.2.2.2.2.2.2.2.2.2.2.2.2) hs))))))))))))))))))))))))))))
        clear hs h0 h1 h2 h3 h4 h5 h6 h7 h8 HW S18
        generalize wc = V19 at S19 ⊢
        have S20 := Lib.hid (And.intro (S19.out.1.keep ((Below.refl _ _))) (And.intro (S19.out.2.1.keep ((Below.refl _ _))) (And.intro (S19.out.2.2.1.keep ((Below.refl _ _))) (And.intro (S19.out.2.2.2.1.keep ((Below.refl _ _))) (And.intro (S19.out.2.2.2.2.1.keep ((Below.refl _ _))) (And.intro (S19.out.2.2.2.2.2.1.keep ((Below.refl _ _))) (And.intro (S19.out.2.2.2.2.2.2.1.keep ((Below.refl _ _))) (And.intro (S19.out.2.2.2.2.2.2.2.1.keep ((Below.refl _ _))) (And.intro (S19.out.2.2.2.2.2.2.2.2.1.keep ((Below.refl _ _))) (And.intro (S19.out.2.2.2.2.2.2.2.2.2.1.keep ((Below.refl _ _))) (And.intro (S19.out.2.2.2.2.2.2.2.2.2.2.1.keep ((Below.refl _ _))) (And.intro (S19.out.2.2.2.2.2.2.2.2.2.2.2.1.keep ((Below.refl _ _))) (And.intro (S19.out.2.2.2.2.2.2.2.2.2.2.2.2.1.keep ((Below.refl _ _))) (And.intro (S19.out.2.2.2.2.2.2.2.2.2.2.2.2.2.1.keep ((Below.refl _ _))) (And.intro (S19.out.2.2.2.2.2.2.2.2.2.2.2.2.2.2.1.keep ((Below.refl _ _))) (And.intro (S19.out.2.2.2.2.2.2.2.2.2.2.2.2.2.2.2.1.keep ((Below.refl _ _))) (And.intro (S19.out.2.2.2.2.2.2.2.2.2.2.2.2.2.2.2.2.1.keep ((Below.refl _ _))) (And.intro (S19.out.2.2.2.2.2.2.2.2.2.2.2.2.2.2.2.2.2.2.1.keep ((Below.refl _ _))) (And.intro (S19.out.2.2.2.2.2.2.2.2.2.2.2.2.2.2.2.2.2.2.2.1.keep ((Below.refl _ _))) (And.intro (S19.out.2.2.2.2.2.2.2.2.2.2.2.2.2.2.2.2.2.2.2.2.1.keep ((Below.refl _ _))) (And.intro (S19.out.2.2.2.2.2.2.2.2.2.2.2.2.2.2.2.2.2.2.2.2.2.1.keep ((Below.refl _ _))) (And.intro (S19.out.2.2.2.2.2.2.2.2.2.2.2.2.2.2.2.2.2.2.2.2.2.2.1.keep ((Below.refl _ _))) (And.intro (S19.out.2.2.2.2.2.2.2.2.2.2.2.2.2.2.2.2.2.2.2.2.2.2.2.1.keep ((Below.refl _ _))) (And.intro (S19.out.2.2.2.2.2.2.2.2.2.2.2.2.2.2.2.2.2.2.2.2.2.2.2.2.1.keep ((Below.refl _ _))) (And.intro (S19.out.2.2.2.2.2.2.2.2.2.2.2.2.2.2.2.2.2.2.2.2.2.2.2.2.2.1.keep ((Below.refl _ _))) (And.intro (S19.out.2.2.2.2.2.2.2.2.2.2.2.2.2.2.2.2.2.2.2.2.2.2.2.2.2.2.1.keep ((Below.refl _ _))) (And.intro (S19.out.2.2.2.2.2.2.2.2.2.2.2.2.2.2.2.2.2.1) (below_trans (S19.out.2.2.2.2.2.2.2.2.2.2.2.2.2.2.2.2.2.2.2.2.2.2.2.2.2.2.2) ((Below.refl _ _))))))))))))))))))))))))))))))
        clear S19
        go_upto_region 9 with (fail)
        have S21 := Lib.hid (And.intro (S20.out.1.keep (below_dr _ 1)) (And.intro (S20.out.2.1.keep (below_dr _ 1)) (And.intro (S20.out.2.2.1.keep (below_dr _ 1)) (And.intro (S20.out.2.2.2.1.keep (below_dr _ 1)) (And.intro (S20.out.2.2.2.2.1.keep (below_dr _ 1)) (And.intro (S20.out.2.2.2.2.2.1.keep (below_dr _ 1)) (And.intro (S20.out.2.2.2.2.2.2.1.keep (below_dr _ 1)) (And.intro (S20.out.2.2.2.2.2.2.2.1.keep (below_dr _ 1)) (And.intro (S20.out.2.2.2.2.2.2.2.2.1.keep (below_dr _ 1)) (And.intro (S20.out.2.2.2.2.2.2.2.2.2.1.keep (below_dr _ 1)) (And.intro (S20.out.2.2.2.2.2.2.2.2.2.2.1.keep (below_dr _ 1)) (And.intro (S20.out.2.2.2.2.2.2.2.2.2.2.2.1.keep (below_dr _ 1)) (And.intro (S20.out.2.2.2.2.2.2.2.2.2.2.2.2.1.keep (below_dr _ 1)) (And.intro (S20.out.2.2.2.2.2.2.2.2.2.2.2.2.2.1.keep (below_dr _ 1)) (And.intro (S20.out.2.2.2.2.2.2.2.2.2.2.2.2.2.2.1.keep (below_dr _ 1)) (And.intro (S20.out.2.2.2.2.2.2.2.2.2.2.2.2.2.2.2.1.keep (below_dr _ 1)) (And.intro (S20.out.2.2.2.2.2.2.2.2.2.2.2.2.2.2.2.2.1.keep (below_dr _ 1)) (And.intro (S20.out.2.2.2.2.2.2.2.2.2.2.2.2.2.2.2.2.2.1.keep (below_dr _ 1)) (And.intro (S20.out.2.2.2.2.2.2.2.2.2.2.2.2.2.2.2.2.2.2.1.keep (below_dr _ 1)) (And.intro (S20.out.2.2.2.2.2.2.2.2.2.2.2.2.2.2.2.2.2.2.2.1.keep (below_dr _ 1)) (And.intro (S20.out.2.2.2.2.2.2.2.2.2.2.2.2.2.2.2.2.2.2.2.2.1.keep (below_dr _ 1)) (And.intro (S20.out.2.2.2.2.2.2.2.2.2.2.2.2.2.2.2.2.2.2.2.2.2.1.keep (below_dr _ 1)) (And.intro (S20.out.2.2.2.2.2.2.2.2.2.2.2.2.2.2.2.2.2.2.2.2.2.2.1.keep (below_dr _ 1)) (And.intro (S20.out.2.2.2.2.2.2.2.2.2.2.2.2.2.2.2.2.2.2.2.2.2.2.2.1.keep (below_dr _ 1)) (And.intro (S20.out.2.2.2.2.2.2.2.2.2.2.2.2.2.2.2.2.2.2.2.2.2.2.2.2.1.keep (below_dr _ 1)) (And.intro (S20.out.2.2.2.2.2.2.2.2.2.2.2.2.2.2.2.2.2.2.2.2.2.2.2.2.2.1.keep (below_dr _ 1)) (And.intro (S20.out.2.2.2.2.2.2.2.2.2.2.2.2.2.2.2.2.2.2.2.2.2.2.2.2.2.2.1.keep (below_dr _ 1)) (below_trans (S20.out.2.2.2.2.2.2.2.2.2.2.2.2.2.2.2.2.2.2.2.2.2.2.2.2.2.2.2) (below_dr _ 1)))))))))))))))))))))))))))))
        refine wp_region_held_drew (S := fun W => W.cell? ⟨gp, 0, none⟩ = some (.bool pp) ∧ W.cell? ⟨gp, 1, none⟩ = some (.slice Ap lp cp) ∧ W.cell? ⟨gm, 0, none⟩ = some (.bool pm) ∧ W.cell? ⟨gm, 1, none⟩ = some (.slice Am lm cm) ∧ W.cell? ⟨gn, 0, none⟩ = some (.bool pn) ∧ W.cell? ⟨gn, 1, none⟩ = some (.slice An ln cn) ∧ W.cell? ⟨gq, 0, none⟩ = some (.bool pq) ∧ W.cell? ⟨gq, 1, none⟩ = some (.slice Aq lq cq) ∧ W.cell? ⟨gr, 0, none⟩ = some (.bool pr) ∧ W.cell? ⟨gr, 1, none⟩ = some (.slice Ar lr cr)) (by kernel_rfl) ⟨S21.out.2.2.2.2.2.2.2.2.2.2.2.2.2.2.2.2.2.1.facts.1, S21.out.2.2.2.2.2.2.2.2.2.2.2.2.2.2.2.2.2.1.facts.2.1, S21.out.2.2.2.2.2.2.2.2.2.2.2.1.facts.1, S21.out.2.2.2.2.2.2.2.2.2.2.2.1.facts.2.1, S21.out.2.2.2.2.2.2.2.2.2.2.2.2.1.facts.1, S21.out.2.2.2.2.2.2.2.2.2.2.2.2.1.facts.2.1, S21.out.2.2.2.2.2.2.2.2.2.2.2.2.2.2.2.2.2.2.1.facts.1, S21.out.2.2.2.2.2.2.2.2.2.2.2.2.2.2.2.2.2.2.1.facts.2.1, S21.out.2.2.2.2.2.2.2.2.2.2.2.2.2.2.2.2.2.2.2.1.facts.1, S21.out.2.2.2.2.2.2.2.2.2.2.2.2.2.2.2.2.2.2.2.1.facts.2.1⟩ (fun hHeld => ?_)
        refine rgTake 0 hHeld ?_; try simp only [Act.put, List.setIfInBounds_toArray, List.set_cons_zero, List.set_cons_succ]
        refine rgTake 1 hHeld ?_; try simp only [Act.put, List.setIfInBounds_toArray, List.set_cons_zero, List.set_cons_succ]
        refine rgTake 2 hHeld ?_; try simp only [Act.put, List.setIfInBounds_toArray, List.set_cons_zero, List.set_cons_succ]
        refine rgTake 3 hHeld ?_; try simp only [Act.put, List.setIfInBounds_toArray, List.set_cons_zero, List.set_cons_succ]
        refine rgTake 4 hHeld ?_; try simp only [Act.put, List.setIfInBounds_toArray, List.set_cons_zero, List.set_cons_succ]
        refine rgReady [5] (rgOne (fun K hK => ?_) rgNil)
        go_simp
        go_at_call 35; refine (I.add_d S21.out.2.2.2.2.2.2.2.2.2.2.2.2.2.1 S21.out.2.2.2.2.2.2.2.2.2.2.2.2.2.2.1 (by decide) (by decide)).mono ?_; rintro e w22 ⟨v, rfl, h, hb⟩
        have S22 := Lib.hid (And.intro (S21.out.1.keep (hb)) (And.intro (S21.out.2.1.keep (hb)) (And.intro (S21.out.2.2.1.keep (hb)) (And.intro (S21.out.2.2.2.1.keep (hb)) (And.intro (S21.out.2.2.2.2.1.keep (hb)) (And.intro (S21.out.2.2.2.2.2.1.keep (hb)) (And.intro (S21.out.2.2.2.2.2.2.1.keep (hb)) (And.intro (S21.out.2.2.2.2.2.2.2.1.keep (hb)) (And.intro (S21.out.2.2.2.2.2.2.2.2.1.keep (hb)) (And.intro (S21.out.2.2.2.2.2.2.2.2.2.1.keep (hb)) (And.intro (S21.out.2.2.2.2.2.2.2.2.2.2.1.keep (hb)) (And.intro (S21.out.2.2.2.2.2.2.2.2.2.2.2.1.keep (hb)) (And.intro (S21.out.2.2.2.2.2.2.2.2.2.2.2.2.1.keep (hb)) (And.intro (S21.out.2.2.2.2.2.2.2.2.2.2.2.2.2.1.keep (hb)) (And.intro (S21.out.2.2.2.2.2.2.2.2.2.2.2.2.2.2.1.keep (hb)) (And.intro (S21.out.2.2.2.2.2.2.2.2.2.2.2.2.2.2.2.1.keep (hb)) (And.intro (S21.out.2.2.2.2.2.2.2.2.2.2.2.2.2.2.2.2.1.keep (hb)) (And.intro (S21.out.2.2.2.2.2.2.2.2.2.2.2.2.2.2.2.2.2.1.keep (hb)) (And.intro (S21.out.2.2.2.2.2.2.2.2.2.2.2.2.2.2.2.2.2.2.1.keep (hb)) (And.intro (S21.out.2.2.2.2.2.2.2.2.2.2.2.2.2.2.2.2.2.2.2.1.keep (hb)) (And.intro (S21.out.2.2.2.2.2.2.2.2.2.2.2.2.2.2.2.2.2.2.2.2.1.keep (hb)) (And.intro (S21.out.2.2.2.2.2.2.2.2.2.2.2.2.2.2.2.2.2.2.2.2.2.1.keep (hb)) (And.intro (S21.out.2.2.2.2.2.2.2.2.2.2.2.2.2.2.2.2.2.2.2.2.2.2.1.keep (hb)) (And.intro (S21.out.2.2.2.2.2.2.2.2.2.2.2.2.2.2.2.2.2.2.2.2.2.2.2.1.keep (hb)) (And.intro (S21.out.2.2.2.2.2.2.2.2.2.2.2.2.2.2.2.2.2.2.2.2.2.2.2.2.1.keep (hb)) (And.intro (S21.out.2.2.2.2.2.2.2.2.2.2.2.2.2.2.2.2.2.2.2.2.2.2.2.2.2.1.keep (hb)) (And.intro (S21.out.2.2.2.2.2.2.2.2.2.2.2.2.2.2.2.2.2.2.2.2.2.2.2.2.2.2.1.keep (hb)) (And.intro (h) (below_trans (S21.out.2.2.2.2.2.2.2.2.2.2.2.2.2.2.2.2.2.2.2.2.2.2.2.2.2.2.2) (hb))))))))))))))))))))))))))))))
        clear h hb hHeld
        go_wp2_with fail
        refine hK.out _ _ ⟨S22.out.2.2.2.2.2.2.2.2.2.2.2.2.2.2.2.2.2.1.facts.1, S22.out.2.2.2.2.2.2.2.2.2.2.2.2.2.2.2.2.2.1.facts.2.1, S22.out.2.2.2.2.2.2.2.2.2.2.2.1.facts.1, S22.out.2.2.2.2.2.2.2.2.2.2.2.1.facts.2.1, S22.out.2.2.2.2.2.2.2.2.2.2.2.2.1.facts.1, S22.out.2.2.2.2.2.2.2.2.2.2.2.2.1.facts.2.1, S22.out.2.2.2.2.2.2.2.2.2.2.2.2.2.2.2.2.2.2.1.facts.1, S22.out.2.2.2.2.2.2.2.2.2.2.2.2.2.2.2.2.2.2.1.facts.2.1, S22.out.2.2.2.2.2.2.2.2.2.2.2.2.2.2.2.2.2.2.2.1.facts.1, S22.out.2.2.2.2.2.2.2.2.2.2.2.2.2.2.2.2.2.2.2.1.facts.2.1⟩ (fun hHeld => ?_); clear hK K; try simp only [Act.put, List.setIfInBounds_toArray, List.set_cons_zero, List.set_cons_succ]
        refine rgReady [6] (rgOne (fun K hK => ?_) rgNil)
        go_simp
        go_at_call 20; refine (to_k 25 S22.out.2.2.2.2.2.2.2.2.2.2.2.2.2.2.2.2.2.2.2.2.2.2.2.2.2.2.2.1 (by decide) HB.out.2.2.1 (by decide)).mono ?_; rintro e w23 ⟨v, rfl, h, hb⟩
        have S23 := Lib.hid (And.intro (S22.out.1.keep (hb)) (And.intro (S22.out.2.1.keep (hb)) (And.intro (S22.out.2.2.1.keep (hb)) (And.intro (S22.out.2.2.2.1.keep (hb)) (And.intro (S22.out.2.2.2.2.1.keep (hb)) (And.intro (S22.out.2.2.2.2.2.1.keep (hb)) (And.intro (S22.out.2.2.2.2.2.2.1.keep (hb)) (And.intro (S22.out.2.2.2.2.2.2.2.1.keep (hb)) (And.intro (S22.out.2.2.2.2.2.2.2.2.1.keep (hb)) (And.intro (S22.out.2.2.2.2.2.2.2.2.2.1.keep (hb)) (And.intro (S22.out.2.2.2.2.2.2.2.2.2.2.1.keep (hb)) (And.intro (S22.out.2.2.2.2.2.2.2.2.2.2.2.1.keep (hb)) (And.intro (S22.out.2.2.2.2.2.2.2.2.2.2.2.2.1.keep (hb)) (And.intro (S22.out.2.2.2.2.2.2.2.2.2.2.2.2.2.1.keep (hb)) (And.intro (S22.out.2.2.2.2.2.2.2.2.2.2.2.2.2.2.1.keep (hb)) (And.intro (S22.out.2.2.2.2.2.2.2.2.2.2.2.2.2.2.2.1.keep (hb)) (And.intro (S22.out.2.2.2.2.2.2.2.2.2.2.2.2.2.2.2.2.1.keep (hb)) (And.intro (S22.out.2.2.2.2.2.2.2.2.2.2.2.2.2.2.2.2.2.1.keep (hb)) (And.intro (S22.out.2.2.2.2.2.2.2.2.2.2.2.2.2.2.2.2.2.2.1.keep (hb)) (And.intro (S22.out.2.2.2.2.2.2.2.2.2.2.2.2.2.2.2.2.2.2.2.1.keep (hb)) (And.intro (S22.out.2.2.2.2.2.2.2.2.2.2.2.2.2.2.2.2.2.2.2.2.1.keep (hb)) (And.intro (S22.out.2.2.2.2.2.2.2.2.2.2.2.2.2.2.2.2.2.2.2.2.2.1.keep (hb)) (And.intro (S22.out.2.2.2.2.2.2.2.2.2.2.2.2.2.2.2.2.2.2.2.2.2.2.1.keep (hb)) (And.intro (S22.out.2.2.2.2.2.2.2.2.2.2.2.2.2.2.2.2.2.2.2.2.2.2.2.1.keep (hb)) (And.intro (S22.out.2.2.2.2.2.2.2.2.2.2.2.2.2.2.2.2.2.2.2.2.2.2.2.2.1.keep (hb)) (And.intro (S22.out.2.2.2.2.2.2.2.2.2.2.2.2.2.2.2.2.2.2.2.2.2.2.2.2.2.1.keep (hb)) (And.intro (S22.out.2.2.2.2.2.2.2.2.2.2.2.2.2.2.2.2.2.2.2.2.2.2.2.2.2.2.1.keep (hb)) (And.intro (h) (below_trans (S22.out.2.2.2.2.2.2.2.2.2.2.2.2.2.2.2.2.2.2.2.2.2.2.2.2.2.2.2.2) (hb))))))))))))))))))))))))))))))
        clear h hb hHeld
        go_wp2_with fail
        refine hK.out _ _ ⟨S23.out.2.2.2.2.2.2.2.2.2.2.2.2.2.2.2.2.2.1.facts.1, S23.out.2.2.2.2.2.2.2.2.2.2.2.2.2.2.2.2.2.1.facts.2.1, S23.out.2.2.2.2.2.2.2.2.2.2.2.1.facts.1, S23.out.2.2.2.2.2.2.2.2.2.2.2.1.facts.2.1, S23.out.2.2.2.2.2.2.2.2.2.2.2.2.1.facts.1, S23.out.2.2.2.2.2.2.2.2.2.2.2.2.1.facts.2.1, S23.out.2.2.2.2.2.2.2.2.2.2.2.2.2.2.2.2.2.2.1.facts.1, S23.out.2.2.2.2.2.2.2.2.2.2.2.2.2.2.2.2.2.2.1.facts.2.1, S23.out.2.2.2.2.2.2.2.2.2.2.2.2.2.2.2.2.2.2.2.1.facts.1, S23.out.2.2.2.2.2.2.2.2.2.2.2.2.2.2.2.2.2.2.2.1.facts.2.1⟩ (fun hHeld => ?_); clear hK K; try simp only [Act.put, List.setIfInBounds_toArray, List.set_cons_zero, List.set_cons_succ]
        refine rgReady [7] (rgOne (fun K hK => ?_) rgNil)
        go_simp
        go_at_call 18; refine (same_zo S23.out.2.2.2.2.2.2.2.2.2.2.2.2.2.2.2.2.2.2.2.2.1 S23.out.2.2.2.2.2.2.2.2.2.2.2.2.2.2.2.2.2.2.2.2.2.2.2.2.2.2.2.1 rfl).mono ?_; rintro e w24 ⟨rfl, hb⟩
        have S24 := Lib.hid (And.intro (S23.out.1.keep (hb)) (And.intro (S23.out.2.1.keep (hb)) (And.intro (S23.out.2.2.1.keep (hb)) (And.intro (S23.out.2.2.2.1.keep (hb)) (And.intro (S23.out.2.2.2.2.1.keep (hb)) (And.intro (S23.out.2.2.2.2.2.1.keep (hb)) (And.intro (S23.out.2.2.2.2.2.2.1.keep (hb)) (And.intro (S23.out.2.2.2.2.2.2.2.1.keep (hb)) (And.intro (S23.out.2.2.2.2.2.2.2.2.1.keep (hb)) (And.intro (S23.out.2.2.2.2.2.2.2.2.2.1.keep (hb)) (And.intro (S23.out.2.2.2.2.2.2.2.2.2.2.1.keep (hb)) (And.intro (S23.out.2.2.2.2.2.2.2.2.2.2.2.1.keep (hb)) (And.intro (S23.out.2.2.2.2.2.2.2.2.2.2.2.2.1.keep (hb)) (And.intro (S23.out.2.2.2.2.2.2.2.2.2.2.2.2.2.1.keep (hb)) (And.intro (S23.out.2.2.2.2.2.2.2.2.2.2.2.2.2.2.1.keep (hb)) (And.intro (S23.out.2.2.2.2.2.2.2.2.2.2.2.2.2.2.2.1.keep (hb)) (And.intro (S23.out.2.2.2.2.2.2.2.2.2.2.2.2.2.2.2.2.1.keep (hb)) (And.intro (S23.out.2.2.2.2.2.2.2.2.2.2.2.2.2.2.2.2.2.1.keep (hb)) (And.intro (S23.out.2.2.2.2.2.2.2.2.2.2.2.2.2.2.2.2.2.2.1.keep (hb)) (And.intro (S23.out.2.2.2.2.2.2.2.2.2.2.2.2.2.2.2.2.2.2.2.1.keep (hb)) (And.intro (S23.out.2.2.2.2.2.2.2.2.2.2.2.2.2.2.2.2.2.2.2.2.1.keep (hb)) (And.intro (S23.out.2.2.2.2.2.2.2.2.2.2.2.2.2.2.2.2.2.2.2.2.2.1.keep (hb)) (And.intro (S23.out.2.2.2.2.2.2.2.2.2.2.2.2.2.2.2.2.2.2.2.2.2.2.1.keep (hb)) (And.intro (S23.out.2.2.2.2.2.2.2.2.2.2.2.2.2.2.2.2.2.2.2.2.2.2.2.1.keep (hb)) (And.intro (S23.out.2.2.2.2.2.2.2.2.2.2.2.2.2.2.2.2.2.2.2.2.2.2.2.2.1.keep (hb)) (And.intro (S23.out.2.2.2.2.2.2.2.2.2.2.2.2.2.2.2.2.2.2.2.2.2.2.2.2.2.1.keep (hb)) (And.intro (S23.out.2.2.2.2.2.2.2.2.2.2.2.2.2.2.2.2.2.2.2.2.2.2.2.2.2.2.1.keep (hb)) (below_trans (S23.out.2.2.2.2.2.2.2.2.2.2.2.2.2.2.2.2.2.2.2.2.2.2.2.2.2.2.2.2) (hb)))))))))))))))))))))))))))))
        clear hb hHeld
        go_wp2_with fail
        refine hK.out _ _ ⟨S24.out.2.2.2.2.2.2.2.2.2.2.2.2.2.2.2.2.2.1.facts.1, S24.out.2.2.2.2.2.2.2.2.2.2.2.2.2.2.2.2.2.1.facts.2.1, S24.out.2.2.2.2.2.2.2.2.2.2.2.1.facts.1, S24.out.2.2.2.2.2.2.2.2.2.2.2.1.facts.2.1, S24.out.2.2.2.2.2.2.2.2.2.2.2.2.1.facts.1, S24.out.2.2.2.2.2.2.2.2.2.2.2.2.1.facts.2.1, S24.out.2.2.2.2.2.2.2.2.2.2.2.2.2.2.2.2.2.2.1.facts.1, S24.out.2.2.2.2.2.2.2.2.2.2.2.2.2.2.2.2.2.2.1.facts.2.1, S24.out.2.2.2.2.2.2.2.2.2.2.2.2.2.2.2.2.2.2.2.1.facts.1, S24.out.2.2.2.2.2.2.2.2.2.2.2.2.2.2.2.2.2.2.2.1.facts.2.1⟩ (fun hHeld => ?_); clear hK K; try simp only [Act.put, List.setIfInBounds_toArray, List.set_cons_zero, List.set_cons_succ]
        refine rgTake 8 hHeld ?_; try simp only [Act.put, List.setIfInBounds_toArray, List.set_cons_zero, List.set_cons_succ]
        refine rgTake 9 hHeld ?_; try simp only [Act.put, List.setIfInBounds_toArray, List.set_cons_zero, List.set_cons_succ]
        refine rgTake 10 hHeld ?_; try simp only [Act.put, List.setIfInBounds_toArray, List.set_cons_zero, List.set_cons_succ]
        refine rgTake 11 hHeld ?_; try simp only [Act.put, List.setIfInBounds_toArray, List.set_cons_zero, List.set_cons_succ]
        refine rgTake 12 hHeld ?_; try simp only [Act.put, List.setIfInBounds_toArray, List.set_cons_zero, List.set_cons_succ]
        refine rgReady [13] (rgOne (fun K hK => ?_) rgNil)
        go_simp
        go_at_call 36; refine (I.sub_d S24.out.2.2.2.2.2.2.2.2.2.2.2.2.2.1 S24.out.2.2.2.2.2.2.2.2.2.2.2.2.2.2.1 (by decide) (by decide)).mono ?_; rintro e w25 ⟨v, rfl, h, hb⟩
        have S25 := Lib.hid (And.intro (S24.out.1.keep (hb)) (And.intro (S24.out.2.1.keep (hb)) (And.intro (S24.out.2.2.1.keep (hb)) (And.intro (S24.out.2.2.2.1.keep (hb)) (And.intro (S24.out.2.2.2.2.1.keep (hb)) (And.intro (S24.out.2.2.2.2.2.1.keep (hb)) (And.intro (S24.out.2.2.2.2.2.2.1.keep (hb)) (And.intro (S24.out.2.2.2.2.2.2.2.1.keep (hb)) (And.intro (S24.out.2.2.2.2.2.2.2.2.1.keep (hb)) (And.intro (S24.out.2.2.2.2.2.2.2.2.2.1.keep (hb)) (And.intro (S24.out.2.2.2.2.2.2.2.2.2.2.1.keep (hb)) (And.intro (S24.out.2.2.2.2.2.2.2.2.2.2.2.1.keep (hb)) (And.intro (S24.out.2.2.2.2.2.2.2.2.2.2.2.2.1.keep (hb)) (And.intro (S24.out.2.2.2.2.2.2.2.2.2.2.2.2.2.1.keep (hb)) (And.intro (S24.out.2.2.2.2.2.2.2.2.2.2.2.2.2.2.1.keep (hb)) (And.intro (S24.out.2.2.2.2.2.2.2.2.2.2.2.2.2.2.2.1.keep (hb)) (And.intro (S24.out.2.2.2.2.2.2.2.2.2.2.2.2.2.2.2.2.1.keep (hb)) (And.intro (S24.out.2.2.2.2.2.2.2.2.2.2.2.2.2.2.2.2.2.1.keep (hb)) (And.intro (S24.out.2.2.2.2.2.2.2.2.2.2.2.2.2.2.2.2.2.2.1.keep (hb)) (And.intro (S24.out.2.2.2.2.2.2.2.2.2.2.2.2.2.2.2.2.2.2.2.1.keep (hb)) (And.intro (S24.out.2.2.2.2.2.2.2.2.2.2.2.2.2.2.2.2.2.2.2.2.1.keep (hb)) (And.intro (S24.out.2.2.2.2.2.2.2.2.2.2.2.2.2.2.2.2.2.2.2.2.2.1.keep (hb)) (And.intro (S24.out.2.2.2.2.2.2.2.2.2.2.2.2.2.2.2.2.2.2.2.2.2.2.1.keep (hb)) (And.intro (S24.out.2.2.2.2.2.2.2.2.2.2.2.2.2.2.2.2.2.2.2.2.2.2.2.1.keep (hb)) (And.intro (S24.out.2.2.2.2.2.2.2.2.2.2.2.2.2.2.2.2.2.2.2.2.2.2.2.2.1.keep (hb)) (And.intro (S24.out.2.2.2.2.2.2.2.2.2.2.2.2.2.2.2.2.2.2.2.2.2.2.2.2.2.1.keep (hb)) (And.intro (S24.out.2.2.2.2.2.2.2.2.2.2.2.2.2.2.2.2.2.2.2.2.2.2.2.2.2.2.1.keep (hb)) (And.intro (h) (below_trans (S24.out.2.2.2.2.2.2.2.2.2.2.2.2.2.2.2.2.2.2.2.2.2.2.2.2.2.2.2) (hb))))))))))))))))))))))))))))))
        clear h hb hHeld
        go_wp2_with fail
        refine hK.out _ _ ⟨S25.out.2.2.2.2.2.2.2.2.2.2.2.2.2.2.2.2.2.1.facts.1, S25.out.2.2.2.2.2.2.2.2.2.2.2.2.2.2.2.2.2.1.facts.2.1, S25.out.2.2.2.2.2.2.2.2.2.2.2.1.facts.1, S25.out.2.2.2.2.2.2.2.2.2.2.2.1.facts.2.1, S25.out.2.2.2.2.2.2.2.2.2.2.2.2.1.facts.1, S25.out.2.2.2.2.2.2.2.2.2.2.2.2.1.facts.2.1, S25.out.2.2.2.2.2.2.2.2.2.2.2.2.2.2.2.2.2.2.1.facts.1, S25.out.2.2.2.2.2.2.2.2.2.2.2.2.2.2.2.2.2.2.1.facts.2.1, S25.out.2.2.2.2.2.2.2.2.2.2.2.2.2.2.2.2.2.2.2.1.facts.1, S25.out.2.2.2.2.2.2.2.2.2.2.2.2.2.2.2.2.2.2.2.1.facts.2.1⟩ (fun hHeld => ?_); clear hK K; try simp only [Act.put, List.setIfInBounds_toArray, List.set_cons_zero, List.set_cons_succ]
        refine rgReady [14] (rgOne (fun K hK => ?_) rgNil)
        go_simp
        go_at_call 20; refine (to_k 25 S25.out.2.2.2.2.2.2.2.2.2.2.2.2.2.2.2.2.2.2.2.2.2.2.2.2.2.2.2.1 (by decide) HB.out.2.2.2.1 (by decide)).mono ?_; rintro e w26 ⟨v, rfl, h, hb⟩
        have S26 := Lib.hid (And.intro (S25.out.1.keep (hb)) (And.intro (S25.out.2.1.keep (hb)) (And.intro (S25.out.2.2.1.keep (hb)) (And.intro (S25.out.2.2.2.1.keep (hb)) (And.intro (S25.out.2.2.2.2.1.keep (hb)) (And.intro (S25.out.2.2.2.2.2.1.keep (hb)) (And.intro (S25.out.2.2.2.2.2.2.1.keep (hb)) (And.intro (S25.out.2.2.2.2.2.2.2.1.keep (hb)) (And.intro (S25.out.2.2.2.2.2.2.2.2.1.keep (hb)) (And.intro (S25.out.2.2.2.2.2.2.2.2.2.1.keep (hb)) (And.intro (S25.out.2.2.2.2.2.2.2.2.2.2.1.keep (hb)) (And.intro (S25.out.2.2.2.2.2.2.2.2.2.2.2.1.keep (hb)) (And.intro (S25.out.2.2.2.2.2.2.2.2.2.2.2.2.1.keep (hb)) (And.intro (S25.out.2.2.2.2.2.2.2.2.2.2.2.2.2.1.keep (hb)) (And.intro (S25.out.2.2.2.2.2.2.2.2.2.2.2.2.2.2.1.keep (hb)) (And.intro (S25.out.2.2.2.2.2.2.2.2.2.2.2.2.2.2.2.1.keep (hb)) (And.intro (S25.out.2.2.2.2.2.2.2.2.2.2.2.2.2.2.2.2.1.keep (hb)) (And.intro (S25.out.2.2.2.2.2.2.2.2.2.2.2.2.2.2.2.2.2.1.keep (hb)) (And.intro (S25.out.2.2.2.2.2.2.2.2.2.2.2.2.2.2.2.2.2.2.1.keep (hb)) (And.intro (S25.out.2.2.2.2.2.2.2.2.2.2.2.2.2.2.2.2.2.2.2.1.keep (hb)) (And.intro (S25.out.2.2.2.2.2.2.2.2.2.2.2.2.2.2.2.2.2.2.2.2.1.keep (hb)) (And.intro (S25.out.2.2.2.2.2.2.2.2.2.2.2.2.2.2.2.2.2.2.2.2.2.1.keep (hb)) (And.intro (S25.out.2.2.2.2.2.2.2.2.2.2.2.2.2.2.2.2.2.2.2.2.2.2.1.keep (hb)) (And.intro (S25.out.2.2.2.2.2.2.2.2.2.2.2.2.2.2.2.2.2.2.2.2.2.2.2.1.keep (hb)) (And.intro (S25.out.2.2.2.2.2.2.2.2.2.2.2.2.2.2.2.2.2.2.2.2.2.2.2.2.1.keep (hb)) (And.intro (S25.out.2.2.2.2.2.2.2.2.2.2.2.2.2.2.2.2.2.2.2.2.2.2.2.2.2.1.keep (hb)) (And.intro (S25.out.2.2.2.2.2.2.2.2.2.2.2.2.2.2.2.2.2.2.2.2.2.2.2.2.2.2.1.keep (hb)) (And.intro (h) (below_trans (S25.out.2.2.2.2.2.2.2.2.2.2.2.2.2.2.2.2.2.2.2.2.2.2.2.2.2.2.2.2) (hb))))))))))))))))))))))))))))))
        clear h hb hHeld
        go_wp2_with fail
        refine hK.out _ _ ⟨S26.out.2.2.2.2.2.2.2.2.2.2.2.2.2.2.2.2.2.1.facts.1, S26.out.2.2.2.2.2.2.2.2.2.2.2.2.2.2.2.2.2.1.facts.2.1, S26.out.2.2.2.2.2.2.2.2.2.2.2.1.facts.1, S26.out.2.2.2.2.2.2.2.2.2.2.2.1.facts.2.1, S26.out.2.2.2.2.2.2.2.2.2.2.2.2.1.facts.1, S26.out.2.2.2.2.2.2.2.2.2.2.2.2.1.facts.2.1, S26.out.2.2.2.2.2.2.2.2.2.2.2.2.2.2.2.2.2.2.1.facts.1, S26.out.2.2.2.2.2.2.2.2.2.2.2.2.2.2.2.2.2.2.1.facts.2.1, S26.out.2.2.2.2.2.2.2.2.2.2.2.2.2.2.2.2.2.2.2.1.facts.1, S26.out.2.2.2.2.2.2.2.2.2.2.2.2.2.2.2.2.2.2.2.1.facts.2.1⟩ (fun hHeld => ?_); clear hK K; try simp only [Act.put, List.setIfInBounds_toArray, List.set_cons_zero, List.set_cons_succ]
        refine rgReady [15] (rgOne (fun K hK => ?_) rgNil)
        go_simp
        go_at_call 18; refine (same_zo S26.out.2.2.2.2.2.2.2.2.2.2.2.2.2.2.2.2.2.2.2.2.2.2.1 S26.out.2.2.2.2.2.2.2.2.2.2.2.2.2.2.2.2.2.2.2.2.2.2.2.2.2.2.2.1 rfl).mono ?_; rintro e w27 ⟨rfl, hb⟩
        have S27 := Lib.hid (And.intro (S26.out.1.keep (hb)) (And.intro (S26.out.2.1.keep (hb)) (And.intro (S26.out.2.2.1.keep (hb)) (And.intro (S26.out.2.2.2.1.keep (hb)) (And.intro (S26.out.2.2.2.2.1.keep (hb)) (And.intro (S26.out.2.2.2.2.2.1.keep (hb)) (And.intro (S26.out.2.2.2.2.2.2.1.keep (hb)) (And.intro (S26.out.2.2.2.2.2.2.2.1.keep (hb)) (And.intro (S26.out.2.2.2.2.2.2.2.2.1.keep (hb)) (And.intro (S26.out.2.2.2.2.2.2.2.2.2.1.keep (hb)) (And.intro (S26.out.2.2.2.2.2.2.2.2.2.2.1.keep (hb)) (And.intro (S26.out.2.2.2.2.2.2.2.2.2.2.2.1.keep (hb)) (And.intro (S26.out.2.2.2.2.2.2.2.2.2.2.2.2.1.keep (hb)) (And.intro (S26.out.2.2.2.2.2.2.2.2.2.2.2.2.2.1.keep (hb)) (And.intro (S26.out.2.2.2.2.2.2.2.2.2.2.2.2.2.2.1.keep (hb)) (And.intro (S26.out.2.2.2.2.2.2.2.2.2.2.2.2.2.2.2.1.keep (hb)) (And.intro (S26.out.2.2.2.2.2.2.2.2.2.2.2.2.2.2.2.2.1.keep (hb)) (And.intro (S26.out.2.2.2.2.2.2.2.2.2.2.2.2.2.2.2.2.2.1.keep (hb)) (And.intro (S26.out.2.2.2.2.2.2.2.2.2.2.2.2.2.2.2.2.2.2.1.keep (hb)) (And.intro (S26.out.2.2.2.2.2.2.2.2.2.2.2.2.2.2.2.2.2.2.2.1.keep (hb)) (And.intro (S26.out.2.2.2.2.2.2.2.2.2.2.2.2.2.2.2.2.2.2.2.2.1.keep (hb)) (And.intro (S26.out.2.2.2.2.2.2.2.2.2.2.2.2.2.2.2.2.2.2.2.2.2.1.keep (hb)) (And.intro (S26.out.2.2.2.2.2.2.2.2.2.2.2.2.2.2.2.2.2.2.2.2.2.2.1.keep (hb)) (And.intro (S26.out.2.2.2.2.2.2.2.2.2.2.2.2.2.2.2.2.2.2.2.2.2.2.2.1.keep (hb)) (And.intro (S26.out.2.2.2.2.2.2.2.2.2.2.2.2.2.2.2.2.2.2.2.2.2.2.2.2.1.keep (hb)) (And.intro (S26.out.2.2.2.2.2.2.2.2.2.2.2.2.2.2.2.2.2.2.2.2.2.2.2.2.2.1.keep (hb)) (And.intro (S26.out.2.2.2.2.2.2.2.2.2.2.2.2.2.2.2.2.2.2.2.2.2.2.2.2.2.2.1.keep (hb)) (below_trans (S26.out.2.2.2.2.2.2.2.2.2.2.2.2.2.2.2.2.2.2.2.2.2.2.2.2.2.2.2.2) (hb)))))))))))))))))))))))))))))
        clear hb hHeld
        go_wp2_with fail
        refine hK.out _ _ ⟨S27.out.2.2.2.2.2.2.2.2.2.2.2.2.2.2.2.2.2.1.facts.1, S27.out.2.2.2.2.2.2.2.2.2.2.2.2.2.2.2.2.2.1.facts.2.1, S27.out.2.2.2.2.2.2.2.2.2.2.2.1.facts.1, S27.out.2.2.2.2.2.2.2.2.2.2.2.1.facts.2.1, S27.out.2.2.2.2.2.2.2.2.2.2.2.2.1.facts.1, S27.out.2.2.2.2.2.2.2.2.2.2.2.2.1.facts.2.1, S27.out.2.2.2.2.2.2.2.2.2.2.2.2.2.2.2.2.2.2.1.facts.1, S27.out.2.2.2.2.2.2.2.2.2.2.2.2.2.2.2.2.2.2.1.facts.2.1, S27.out.2.2.2.2.2.2.2.2.2.2.2.2.2.2.2.2.2.2.2.1.facts.1, S27.out.2.2.2.2.2.2.2.2.2.2.2.2.2.2.2.2.2.2.2.1.facts.2.1⟩ (fun hHeld => ?_); clear hK K; try simp only [Act.put, List.setIfInBounds_toArray, List.set_cons_zero, List.set_cons_succ]
        refine rgTake 16 hHeld ?_; try simp only [Act.put, List.setIfInBounds_toArray, List.set_cons_zero, List.set_cons_succ]
        refine rgTake 17 hHeld ?_; try simp only [Act.put, List.setIfInBounds_toArray, List.set_cons_zero, List.set_cons_succ]
        refine rgTake 18 hHeld ?_; try simp only [Act.put, List.setIfInBounds_toArray, List.set_cons_zero, List.set_cons_succ]
        refine rgTake 19 hHeld ?_; try simp only [Act.put, List.setIfInBounds_toArray, List.set_cons_zero, List.set_cons_succ]
        refine rgTake 20 hHeld ?_; try simp only [Act.put, List.setIfInBounds_toArray, List.set_cons_zero, List.set_cons_succ]
        refine rgReady [21] (rgOne (fun K hK => ?_) rgNil)
        go_simp
        go_at_call 37; refine (I.mul_d S27.out.2.2.2.2.2.2.2.2.2.2.2.2.2.1 S27.out.2.2.2.2.2.2.2.2.2.2.2.2.2.2.1 (by decide) (by decide)).mono ?_; rintro e w28 ⟨v, rfl, h, hb⟩
        have S28 := Lib.hid (And.intro (S27.out.1.keep (hb)) (And.intro (S27.out.2.1.keep (hb)) (And.intro (S27.out.2.2.1.keep (hb)) (And.intro (S27.out.2.2.2.1.keep (hb)) (And.intro (S27.out.2.2.2.2.1.keep (hb)) (And.intro (S27.out.2.2.2.2.2.1.keep (hb)) (And.intro (S27.out.2.2.2.2.2.2.1.keep (hb)) (And.intro (S27.out.2.2.2.2.2.2.2.1.keep (hb)) (And.intro (S27.out.2.2.2.2.2.2.2.2.1.keep (hb)) (And.intro (S27.out.2.2.2.2.2.2.2.2.2.1.keep (hb)) (And.intro (S27.out.2.2.2.2.2.2.2.2.2.2.1.keep (hb)) (And.intro (S27.out.2.2.2.2.2.2.2.2.2.2.2.1.keep (hb)) (And.intro (S27.out.2.2.2.2.2.2.2.2.2.2.2.2.1.keep (hb)) (And.intro (S27.out.2.2.2.2.2.2.2.2.2.2.2.2.2.1.keep (hb)) (And.intro (S27.out.2.2.2.2.2.2.2.2.2.2.2.2.2.2.1.keep (hb)) (And.intro (S27.out.2.2.2.2.2.2.2.2.2.2.2.2.2.2.2.1.keep (hb)) (And.intro (S27.out.2.2.2.2.2.2.2.2.2.2.2.2.2.2.2.2.1.keep (hb)) (And.intro (S27.out.2.2.2.2.2.2.2.2.2.2.2.2.2.2.2.2.2.1.keep (hb)) (And.intro (S27.out.2.2.2.2.2.2.2.2.2.2.2.2.2.2.2.2.2.2.1.keep (hb)) (And.intro (S27.out.2.2.2.2.2.2.2.2.2.2.2.2.2.2.2.2.2.2.2.1.keep (hb)) (And.intro (S27.out.2.2.2.2.2.2.2.2.2.2.2.2.2.2.2.2.2.2.2.2.1.keep (hb)) (And.intro (S27.out.2.2.2.2.2.2.2.2.2.2.2.2.2.2.2.2.2.2.2.2.2.1.keep (hb)) (And.intro (S27.out.2.2.2.2.2.2.2.2.2.2.2.2.2.2.2.2.2.2.2.2.2.2.1.keep (hb)) (And.intro (S27.out.2.2.2.2.2.2.2.2.2.2.2.2.2.2.2.2.2.2.2.2.2.2.2.1.keep (hb)) (And.intro (S27.out.2.2.2.2.2.2.2.2.2.2.2.2.2.2.2.2.2.2.2.2.2.2.2.2.1.keep (hb)) (And.intro (S27.out.2.2.2.2.2.2.2.2.2.2.2.2.2.2.2.2.2.2.2.2.2.2.2.2.2.1.keep (hb)) (And.intro (S27.out.2.2.2.2.2.2.2.2.2.2.2.2.2.2.2.2.2.2.2.2.2.2.2.2.2.2.1.keep (hb)) (And.intro (h) (below_trans (S27.out.2.2.2.2.2.2.2.2.2.2.2.2.2.2.2.2.2.2.2.2.2.2.2.2.2.2.2) (hb))))))))))))))))))))))))))))))
        clear h hb hHeld
        go_wp2_with fail
        refine hK.out _ _ ⟨S28.out.2.2.2.2.2.2.2.2.2.2.2.2.2.2.2.2.2.1.facts.1, S28.out.2.2.2.2.2.2.2.2.2.2.2.2.2.2.2.2.2.1.facts.2.1, S28.out.2.2.2.2.2.2.2.2.2.2.2.1.facts.1, S28.out.2.2.2.2.2.2.2.2.2.2.2.1.facts.2.1, S28.out.2.2.2.2.2.2.2.2.2.2.2.2.1.facts.1, S28.out.2.2.2.2.2.2.2.2.2.2.2.2.1.facts.2.1, S28.out.2.2.2.2.2.2.2.2.2.2.2.2.2.2.2.2.2.2.1.facts.1, S28.out.2.2.2.2.2.2.2.2.2.2.2.2.2.2.2.2.2.2.1.facts.2.1, S28.out.2.2.2.2.2.2.2.2.2.2.2.2.2.2.2.2.2.2.2.1.facts.1, S28.out.2.2.2.2.2.2.2.2.2.2.2.2.2.2.2.2.2.2.2.1.facts.2.1⟩ (fun hHeld => ?_); clear hK K; try simp only [Act.put, List.setIfInBounds_toArray, List.set_cons_zero, List.set_cons_succ]
        refine rgReady [22] (rgOne (fun K hK => ?_) rgNil)
        go_simp
        go_at_call 20; refine (to_k 24 S28.out.2.2.2.2.2.2.2.2.2.2.2.2.2.2.2.2.2.2.2.2.2.2.2.2.2.2.2.1 (by decide) HB.out.2.2.2.2 (by decide)).mono ?_; rintro e w29 ⟨v, rfl, h, hb⟩
        have S29 := Lib.hid (And.intro (S28.out.1.keep (hb)) (And.intro (S28.out.2.1.keep (hb)) (And.intro (S28.out.2.2.1.keep (hb)) (And.intro (S28.out.2.2.2.1.keep (hb)) (And.intro (S28.out.2.2.2.2.1.keep (hb)) (And.intro (S28.out.2.2.2.2.2.1.keep (hb)) (And.intro (S28.out.2.2.2.2.2.2.1.keep (hb)) (And.intro (S28.out.2.2.2.2.2.2.2.1.keep (hb)) (And.intro (S28.out.2.2.2.2.2.2.2.2.1.keep (hb)) (And.intro (S28.out.2.2.2.2.2.2.2.2.2.1.keep (hb)) (And.intro (S28.out.2.2.2.2.2.2.2.2.2.2.1.keep (hb)) (And.intro (S28.out.2.2.2.2.2.2.2.2.2.2.2.1.keep (hb)) (And.intro (S28.out.2.2.2.2.2.2.2.2.2.2.2.2.1.keep (hb)) (And.intro (S28.out.2.2.2.2.2.2.2.2.2.2.2.2.2.1.keep (hb)) (And.intro (S28.out.2.2.2.2.2.2.2.2.2.2.2.2.2.2.1.keep (hb)) (And.intro (S28.out.2.2.2.2.2.2.2.2.2.2.2.2.2.2.2.1.keep (hb)) (And.intro (S28.out.2.2.2.2.2.2.2.2.2.2.2.2.2.2.2.2.1.keep (hb)) (And.intro (S28.out.2.2.2.2.2.2.2.2.2.2.2.2.2.2.2.2.2.1.keep (hb)) (And.intro (S28.out.2.2.2.2.2.2.2.2.2.2.2.2.2.2.2.2.2.2.1.keep (hb)) (And.intro (S28.out.2.2.2.2.2.2.2.2.2.2.2.2.2.2.2.2.2.2.2.1.keep (hb)) (And.intro (S28.out.2.2.2.2.2.2.2.2.2.2.2.2.2.2.2.2.2.2.2.2.1.keep (hb)) (And.intro (S28.out.2.2.2.2.2.2.2.2.2.2.2.2.2.2.2.2.2.2.2.2.2.1.keep (hb)) (And.intro (S28.out.2.2.2.2.2.2.2.2.2.2.2.2.2.2.2.2.2.2.2.2.2.2.1.keep (hb)) (And.intro (S28.out.2.2.2.2.2.2.2.2.2.2.2.2.2.2.2.2.2.2.2.2.2.2.2.1.keep (hb)) (And.intro (S28.out.2.2.2.2.2.2.2.2.2.2.2.2.2.2.2.2.2.2.2.2.2.2.2.2.1.keep (hb)) (And.intro (S28.out.2.2.2.2.2.2.2.2.2.2.2.2.2.2.2.2.2.2.2.2.2.2.2.2.2.1.keep (hb)) (And.intro (S28.out.2.2.2.2.2.2.2.2.2.2.2.2.2.2.2.2.2.2.2.2.2.2.2.2.2.2.1.keep (hb)) (And.intro (h) (below_trans (S28.out.2.2.2.2.2.2.2.2.2.2.2.2.2.2.2.2.2.2.2.2.2.2.2.2.2.2.2.2) (hb))))))))))))))))))))))))))))))
        clear h hb hHeld
        go_wp2_with fail
        refine hK.out _ _ ⟨S29.out.2.2.2.2.2.2.2.2.2.2.2.2.2.2.2.2.2.1.facts.1, S29.out.2.2.2.2.2.2.2.2.2.2.2.2.2.2.2.2.2.1.facts.2.1, S29.out.2.2.2.2.2.2.2.2.2.2.2.1.facts.1, S29.out.2.2.2.2.2.2.2.2.2.2.2.1.facts.2.1, S29.out.2.2.2.2.2.2.2.2.2.2.2.2.1.facts.1, S29.out.2.2.2.2.2.2.2.2.2.2.2.2.1.facts.2.1, S29.out.2.2.2.2.2.2.2.2.2.2.2.2.2.2.2.2.2.2.1.facts.1, S29.out.2.2.2.2.2.2.2.2.2.2.2.2.2.2.2.2.2.2.1.facts.2.1, S29.out.2.2.2.2.2.2.2.2.2.2.2.2.2.2.2.2.2.2.2.1.facts.1, S29.out.2.2.2.2.2.2.2.2.2.2.2.2.2.2.2.2.2.2.2.1.facts.2.1⟩ (fun hHeld => ?_); clear hK K; try simp only [Act.put, List.setIfInBounds_toArray, List.set_cons_zero, List.set_cons_succ]
        refine rgReady [23] (rgOne (fun K hK => ?_) rgNil)
        go_simp
        go_at_call 18; refine (same_zo S29.out.2.2.2.2.2.2.2.2.2.2.2.2.2.2.2.2.2.2.2.2.2.2.2.2.1 S29.out.2.2.2.2.2.2.2.2.2.2.2.2.2.2.2.2.2.2.2.2.2.2.2.2.2.2.2.1 rfl).mono ?_; rintro e w30 ⟨rfl, hb⟩
        have S30 := Lib.hid (And.intro (S29.out.1.keep (hb)) (And.intro (S29.out.2.1.keep (hb)) (And.intro (S29.out.2.2.1.keep (hb)) (And.intro (S29.out.2.2.2.1.keep (hb)) (And.intro (S29.out.2.2.2.2.1.keep (hb)) (And.intro (S29.out.2.2.2.2.2.1.keep (hb)) (And.intro (S29.out.2.2.2.2.2.2.1.keep (hb)) (And.intro (S29.out.2.2.2.2.2.2.2.1.keep (hb)) (And.intro (S29.out.2.2.2.2.2.2.2.2.1.keep (hb)) (And.intro (S29.out.2.2.2.2.2.2.2.2.2.1.keep (hb)) (And.intro (S29.out.2.2.2.2.2.2.2.2.2.2.1.keep (hb)) (And.intro (S29.out.2.2.2.2.2.2.2.2.2.2.2.1.keep (hb)) (And.intro (S29.out.2.2.2.2.2.2.2.2.2.2.2.2.1.keep (hb)) (And.intro (S29.out.2.2.2.2.2.2.2.2.2.2.2.2.2.1.keep (hb)) (And.intro (S29.out.2.2.2.2.2.2.2.2.2.2.2.2.2.2.1.keep (hb)) (And.intro (S29.out.2.2.2.2.2.2.2.2.2.2.2.2.2.2.2.1.keep (hb)) (And.intro (S29.out.2.2.2.2.2.2.2.2.2.2.2.2.2.2.2.2.1.keep (hb)) (And.intro (S29.out.2.2.2.2.2.2.2.2.2.2.2.2.2.2.2.2.2.1.keep (hb)) (And.intro (S29.out.2.2.2.2.2.2.2.2.2.2.2.2.2.2.2.2.2.2.1.keep (hb)) (And.intro (S29.out.2.2.2.2.2.2.2.2.2.2.2.2.2.2.2.2.2.2.2.1.keep (hb)) (And.intro (S29.out.2.2.2.2.2.2.2.2.2.2.2.2.2.2.2.2.2.2.2.2.1.keep (hb)) (And.intro (S29.out.2.2.2.2.2.2.2.2.2.2.2.2.2.2.2.2.2.2.2.2.2.1.keep (hb)) (And.intro (S29.out.2.2.2.2.2.2.2.2.2.2.2.2.2.2.2.2.2.2.2.2.2.2.1.keep (hb)) (And.intro (S29.out.2.2.2.2.2.2.2.2.2.2.2.2.2.2.2.2.2.2.2.2.2.2.2.1.keep (hb)) (And.intro (S29.out.2.2.2.2.2.2.2.2.2.2.2.2.2.2.2.2.2.2.2.2.2.2.2.2.1.keep (hb)) (And.intro (S29.out.2.2.2.2.2.2.2.2.2.2.2.2.2.2.2.2.2.2.2.2.2.2.2.2.2.1.keep (hb)) (And.intro (S29.out.2.2.2.2.2.2.2.2.2.2.2.2.2.2.2.2.2.2.2.2.2.2.2.2.2.2.1.keep (hb)) (below_trans (S29.out.2.2.2.2.2.2.2.2.2.2.2.2.2.2.2.2.2.2.2.2.2.2.2.2.2.2.2.2) (hb)))))))))))))))))))))))))))))
        clear hb hHeld
        go_wp2_with fail
        refine hK.out _ _ ⟨S30.out.2.2.2.2.2.2.2.2.2.2.2.2.2.2.2.2.2.1.facts.1, S30.out.2.2.2.2.2.2.2.2.2.2.2.2.2.2.2.2.2.1.facts.2.1, S30.out.2.2.2.2.2.2.2.2.2.2.2.1.facts.1, S30.out.2.2.2.2.2.2.2.2.2.2.2.1.facts.2.1, S30.out.2.2.2.2.2.2.2.2.2.2.2.2.1.facts.1, S30.out.2.2.2.2.2.2.2.2.2.2.2.2.1.facts.2.1, S30.out.2.2.2.2.2.2.2.2.2.2.2.2.2.2.2.2.2.2.1.facts.1, S30.out.2.2.2.2.2.2.2.2.2.2.2.2.2.2.2.2.2.2.1.facts.2.1, S30.out.2.2.2.2.2.2.2.2.2.2.2.2.2.2.2.2.2.2.2.1.facts.1, S30.out.2.2.2.2.2.2.2.2.2.2.2.2.2.2.2.2.2.2.2.1.facts.2.1⟩ (fun hHeld => ?_); clear hK K; try simp only [Act.put, List.setIfInBounds_toArray, List.set_cons_zero, List.set_cons_succ]
        refine rgTake 24 hHeld ?_; try simp only [Act.put, List.setIfInBounds_toArray, List.set_cons_zero, List.set_cons_succ]
        refine rgTake 25 hHeld ?_; try simp only [Act.put, List.setIfInBounds_toArray, List.set_cons_zero, List.set_cons_succ]
        refine wpAnyH_done (by kernel_rfl) ?_ _
        clear hHeld
        obtain ⟨pa, pb, -, -⟩ := S30.out.2.2.2.2.2.2.2.2.2.2.2.2.2.2.2.2.2.1.facts
        go_wp2_with fail
        refine (spoil_om S30.out.2.2.2.2.2.2.2.2.2.2.2.2.2.2.2.2.2.2.2.2.2.1 S30.out.2.2.2.2.2.2.2.2.2.2.2.2.2.2.2.2.2.2.2.2.2.2.2.2.2.2.1.out.size).mono ?_; rintro e w31 ⟨rfl, H⟩
        have S31 := Lib.hid (And.intro (S30.out.2.2.2.2.2.2.2.2.2.2.2.2.2.2.2.2.2.2.2.2.2.2.2.2.2.2.1.hit H (Nat.le_refl _)) (And.intro (S30.out.2.2.2.2.2.2.2.2.2.2.2.2.2.2.2.2.2.2.2.2.2.2.2.1.hit H) (And.intro (S30.out.2.2.2.2.2.2.2.2.2.2.2.2.2.2.2.2.2.2.2.2.2.2.2.2.2.1.hit H) (And.intro (S30.out.2.2.2.2.2.2.2.2.2.2.2.2.2.2.2.2.2.2.1.hit H int_word) (And.intro (S30.out.2.2.2.2.2.2.2.2.2.2.2.2.2.2.2.2.2.2.2.1.hit H int_word) (below_trans (SC.out.2.2.2.2.2.2.2.2.2.2.2.2.2.2.2.2.2.2) (S30.out.2.2.2.2.2.2.2.2.2.2.2.2.2.2.2.2.2.2.2.2.2.2.2.2.2.2.1.hit H (Nat.le_refl _)).out))))))
        clear H pa pb S30
        obtain ⟨qa, qb, -, -⟩ := S31.out.2.2.2.1.facts
        go_wp2_with fail
        refine (spoil_om S31.out.2.1 S31.out.1.out.size).mono ?_; rintro e w32 ⟨rfl, H⟩
        have S32 := Lib.hid (And.intro (S31.out.1.hit H (Nat.le_refl _)) (And.intro (S31.out.2.2.1.hit H) (And.intro (S31.out.2.2.2.2.1.hit H int_word) (below_trans (SC.out.2.2.2.2.2.2.2.2.2.2.2.2.2.2.2.2.2.2) (S31.out.1.hit H (Nat.le_refl _)).out))))
        clear H qa qb S31
        obtain ⟨ra, rb, -, -⟩ := S32.out.2.2.1.facts
        go_wp2_with fail
        refine (spoil_om S32.out.2.1 S32.out.1.out.size).mono ?_; rintro e w33 ⟨rfl, H⟩
        have S33 := Lib.hid (And.intro (S32.out.1.hit H (Nat.le_refl _)) (below_trans (SC.out.2.2.2.2.2.2.2.2.2.2.2.2.2.2.2.2.2.2) (S32.out.1.hit H (Nat.le_refl _)).out))
        clear H ra rb S32
        have S34 := Lib.hid (And.intro (SC.out.2.1.keep S33.out.1) (And.intro (SC.out.2.2.1.keep S33.out.1) (And.intro (SC.out.2.2.2.2.2.2.2.2.2.1.keep S33.out.1) (And.intro (SC.out.2.2.2.2.2.2.2.2.2.2.1.keep S33.out.1) (And.intro (SC.out.2.2.2.2.2.1.keep S33.out.1) (And.intro (SC.out.2.2.2.2.2.2.1.keep S33.out.1) (And.intro (SC.out.2.2.2.2.2.2.2.1.keep S33.out.1) (And.intro (SC.out.2.2.2.2.2.2.2.2.1.keep S33.out.1) (And.intro (SC.out.2.2.2.2.2.2.2.2.2.2.2.2.2.2.2.2.1.keep S33.out.1) (And.intro (SC.out.2.2.2.2.2.2.2.2.2.2.2.2.2.2.2.2.2.1.keep S33.out.1) (below_trans (SC.out.2.2.2.2.2.2.2.2.2.2.2.2.2.2.2.2.2.2) S33.out.1.out)))))))))))
        clear SC S33
        obtain ⟨xa, xb, -, -⟩ := S34.out.2.2.2.2.2.2.1.facts
        go_wp2_with fail
        refine (neg_z S34.out.2.2.2.2.2.2.2.2.1 (by decide)).mono ?_; rintro e w35a ⟨v, rfl, h⟩
        go_wp2_with fail
        refine (spoil_z h (Below.refl _ _)).mono ?_; rintro e w35 ⟨rfl, H⟩
        have S35 := Lib.hid (And.intro (S34.out.1.keep ((h.below.trans H.1))) (And.intro (S34.out.2.1.keep ((h.below.trans H.1))) (And.intro (S34.out.2.2.1.keep ((h.below.trans H.1))) (And.intro (S34.out.2.2.2.1.keep ((h.below.trans H.1))) (And.intro (S34.out.2.2.2.2.1.keep ((h.below.trans H.1))) (And.intro (S34.out.2.2.2.2.2.1.keep ((h.below.trans H.1))) (And.intro (S34.out.2.2.2.2.2.2.1.keep ((h.below.trans H.1))) (And.intro (S34.out.2.2.2.2.2.2.2.1.keep ((h.below.trans H.1))) (And.intro (S34.out.2.2.2.2.2.2.2.2.1.keep ((h.below.trans H.1))) (And.intro (S34.out.2.2.2.2.2.2.2.2.2.1.keep ((h.below.trans H.1))) (below_trans (S34.out.2.2.2.2.2.2.2.2.2.2) ((h.below.trans H.1)))))))))))))
        clear h H xa xb S34
        obtain ⟨ya, yb, -, -⟩ := S35.out.2.2.2.2.2.2.2.1.facts
        go_wp2_with fail
        refine (make_z pb (Zn.abs S35.out.2.2.2.2.2.2.2.2.2.1) (by decide)).mono ?_; rintro e w36a ⟨v, rfl, h⟩
        go_wp2_with fail
        refine (spoil_z h (Below.refl _ _)).mono ?_; rintro e w36 ⟨rfl, H⟩
        have S36 := Lib.hid (And.intro (S35.out.1.keep ((h.below.trans H.1))) (And.intro (S35.out.2.1.keep ((h.below.trans H.1))) (And.intro (S35.out.2.2.1.keep ((h.below.trans H.1))) (And.intro (S35.out.2.2.2.1.keep ((h.below.trans H.1))) (And.intro (S35.out.2.2.2.2.1.keep ((h.below.trans H.1))) (And.intro (S35.out.2.2.2.2.2.1.keep ((h.below.trans H.1))) (And.intro (S35.out.2.2.2.2.2.2.1.keep ((h.below.trans H.1))) (And.intro (S35.out.2.2.2.2.2.2.2.1.keep ((h.below.trans H.1))) (And.intro (S35.out.2.2.2.2.2.2.2.2.1.keep ((h.below.trans H.1))) (And.intro (S35.out.2.2.2.2.2.2.2.2.2.1.keep ((h.below.trans H.1))) (below_trans (S35.out.2.2.2.2.2.2.2.2.2.2) ((h.below.trans H.1)))))))))))))
        clear h H ya yb S35
        obtain ⟨xa, xb, -, -⟩ := S36.out.2.2.2.2.2.2.1.facts
        obtain ⟨aa, ab, -, -⟩ := S36.out.2.2.2.2.1.facts
        go_wp2_with fail
        refine (same_z S36.out.2.2.1 S36.out.1).mono ?_; rintro e w37 ⟨rfl, hb⟩
        have S37 := Lib.hid (And.intro (S36.out.1.keep (hb)) (And.intro (S36.out.2.1.keep (hb)) (And.intro (S36.out.2.2.1.keep (hb)) (And.intro (S36.out.2.2.2.1.keep (hb)) (And.intro (S36.out.2.2.2.2.1.keep (hb)) (And.intro (S36.out.2.2.2.2.2.1.keep (hb)) (And.intro (S36.out.2.2.2.2.2.2.1.keep (hb)) (And.intro (S36.out.2.2.2.2.2.2.2.1.keep (hb)) (And.intro (S36.out.2.2.2.2.2.2.2.2.1.keep (hb)) (And.intro (S36.out.2.2.2.2.2.2.2.2.2.1.keep (hb)) (below_trans (S36.out.2.2.2.2.2.2.2.2.2.2) (hb))))))))))))
        clear hb xa xb aa ab S36
        obtain ⟨ya, yb, -, -⟩ := S37.out.2.2.2.2.2.2.2.1.facts
        obtain ⟨ba, bb, -, -⟩ := S37.out.2.2.2.2.2.1.facts
        go_wp2_with fail
        refine (same_z S37.out.2.2.2.1 S37.out.2.1).mono ?_; rintro e w38 ⟨rfl, hb⟩
        have S38 := Lib.hid (And.intro (S37.out.1.keep (hb)) (And.intro (S37.out.2.1.keep (hb)) (And.intro (S37.out.2.2.1.keep (hb)) (And.intro (S37.out.2.2.2.1.keep (hb)) (And.intro (S37.out.2.2.2.2.1.keep (hb)) (And.intro (S37.out.2.2.2.2.2.1.keep (hb)) (And.intro (S37.out.2.2.2.2.2.2.1.keep (hb)) (And.intro (S37.out.2.2.2.2.2.2.2.1.keep (hb)) (And.intro (S37.out.2.2.2.2.2.2.2.2.1.keep (hb)) (And.intro (S37.out.2.2.2.2.2.2.2.2.2.1.keep (hb)) (below_trans (S37.out.2.2.2.2.2.2.2.2.2.2) (hb))))))))))))
        clear hb ya yb ba bb S37
        go_wp2_with fail
        go_ret
        exact ⟨rfl, S38.out.2.2.2.2.2.2.2.2.2.2⟩
set_option maxRecDepth 100000 in
set_option maxHeartbeats 2000000 in
theorem zintSums_big (w : World) (ht : Tab w) {a : Value} {pa : Bool} {xa : List Nat} {b : Value} {pb : Bool} {xb : List Nat} (ha : Zl w a pa xa) (hb : Zl w b pb xb) (hg : ¬ (xa.length ≤ 12 ∧ xb.length ≤ 12)) :
    Calls Tryz.prog 5 #[a, b] w fun e w' => e = .returned (.bool true) ∧ Below w.heap.size w w' := by
  obtain ⟨Aa, na, ca, rfl, ea, ha⟩ := ha.parts
  obtain ⟨Ab, nb, cb, rfl, eb, hb⟩ := hb.parts
  have HG := Lib.hid hg
  have S0 := Lib.hid (And.intro (ht) (And.intro (ha.out) (And.intro (hb.out) (Below.refl w.heap.size w))))
  clear ht ha hb ea eb hg
  go_enter Tryz.func5, Tryz.ntmps5
  go_upto_region 1 with (fail)
  obtain ⟨h0, h1, hb⟩ := box2 w 24 24 (.bool pa) (.slice Aa na ca) (.bool pb) (.slice Ab nb cb)
  have S1 := Lib.hid (And.intro (S0.out.1.keep (hb)) (And.intro (S0.out.2.1.keep (hb)) (And.intro (S0.out.2.2.1.keep (hb)) (And.intro (h0) (And.intro (h1) (below_trans (S0.out.2.2.2) (hb)))))))
  clear hb h0 h1 S0
  generalize (w.alloc _).alloc _ = W0 at S1 ⊢
  go_wp2_with fail
  refine (speaks_z _ S1.out.1).mono ?_; rintro e w2 ⟨rfl, hb⟩
  have S2 := Lib.hid (And.intro (S1.out.1.keep (hb)) (And.intro (S1.out.2.1.keep (hb)) (And.intro (S1.out.2.2.1.keep (hb)) (And.intro (S1.out.2.2.2.1.keep (hb)) (And.intro (S1.out.2.2.2.2.1.keep (hb)) (below_trans (S1.out.2.2.2.2.2) (hb)))))))
  clear hb  S1
  obtain ⟨aa, ab, -, -⟩ := S2.out.2.2.2.1.facts
  obtain ⟨ba, bb, -, -⟩ := S2.out.2.2.2.2.1.facts
  go_wp2_with fail
  refine (big_yes S2.out.2.1 S2.out.2.2.1 HG.out).mono ?_; rintro e w3 ⟨rfl, hb⟩
  have S3 := Lib.hid (And.intro (S2.out.1.keep (hb)) (And.intro (S2.out.2.1.keep (hb)) (And.intro (S2.out.2.2.1.keep (hb)) (And.intro (S2.out.2.2.2.1.keep (hb)) (And.intro (S2.out.2.2.2.2.1.keep (hb)) (below_trans (S2.out.2.2.2.2.2) (hb)))))))
  clear hb aa ab ba bb S2
  go_wp2_with fail
  go_ret
  exact ⟨rfl, S3.out.2.2.2.2.2⟩
theorem zintSums_walk (w : World) (ht : Tab w) {a : Value} {pa : Bool} {xa : List Nat} {b : Value} {pb : Bool} {xb : List Nat} (ha : Zl w a pa xa) (hb : Zl w b pb xb) :
    Calls Tryz.prog 5 #[a, b] w fun e w' => e = .returned (.bool true) ∧ Below w.heap.size w w' := by
  by_cases hg : xa.length ≤ 12 ∧ xb.length ≤ 12
  · exact zintSums_main w ht ha hg.1 hb hg.2
  · exact zintSums_big w ht ha hb hg
end Go.Proofs.YtgbfpimdnmmfpaaGreatDoor
