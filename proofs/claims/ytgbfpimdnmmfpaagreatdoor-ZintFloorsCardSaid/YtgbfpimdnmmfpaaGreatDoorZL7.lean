/-
  The law ZintFloors, walked.
-/
import Derived.Test.YtgbfpimdnmmfpaaGreatDoorZ9
import Derived.Test.YtgbfpimdnmmfpaaGreatDoorY5
namespace Go.Proofs.YtgbfpimdnmmfpaaGreatDoor
open Go Go.RowKit Go.Proofs Pl
set_option linter.unusedVariables false
set_option linter.unusedSimpArgs false

theorem sign_dk {w : World} {L : Nat} {a : Value} {x o : Int} (ho : signZ x = o) (ha : I.Zd w L a x) :
    Calls Tryz.prog 17 #[a] w fun e w' => e = .returned (.int .i64 o) ∧ Below w.heap.size w w' := by
  subst ho; exact I.sign_d ha
set_option maxRecDepth 100000 in
set_option maxHeartbeats 2000000 in
theorem zintFloors_by0 (w : World) (ht : Tab w) {a : Value} {pa : Bool} {xa : List Nat} {b : Value} {pb : Bool} {xb : List Nat} (ha : Zl w a pa xa) (la : xa.length ≤ 12) (hb : Zl w b pb xb) (lb : xb.length ≤ 12) (h0 : sg pb (val WB xb) = 0) :
    Calls Tryz.prog 3 #[a, b] w fun e w' => e = .returned (.bool true) ∧ Below w.heap.size w w' := by
  obtain ⟨x, hx⟩ : ∃ x, x = sg pa (val WB xa) := ⟨_, rfl⟩
  obtain ⟨y, hy⟩ : ∃ y, y = sg pb (val WB xb) := ⟨_, rfl⟩
  have bx := zl_abs ha la
  have bv := zl_abs hb lb
  rw [← hx] at bx
  rw [← hy] at bv
  have hza := ha.zn la
  have hzb := hb.zn lb
  rw [← hx] at hza
  rw [← hy] at hzb
  rw [← hy] at h0
  have HG := Lib.hid (And.intro la lb)
  have HX := Lib.hid (And.intro hx hy)
  have HE := Lib.hid (And.intro h0 (show signZ y = 0 by rw [h0]; rfl))
  clear h0 bx bv
  obtain ⟨Aa, na, ca, rfl, ea, ha⟩ := ha.parts
  obtain ⟨Ab, nb, cb, rfl, eb, hb⟩ := hb.parts
  have S0 := Lib.hid (And.intro (ht) (And.intro (ha.out) (And.intro (hb.out) (And.intro (hza) (And.intro (hzb) (Below.refl w.heap.size w))))))
  clear ht hza hzb ha hb la lb ea eb hx hy
  go_enter Tryz.func3, Tryz.ntmps3
  go_upto_region 1 with (fail)
  obtain ⟨h0, h1, hb⟩ := box2 w 24 24 (.bool pa) (.slice Aa na ca) (.bool pb) (.slice Ab nb cb)
  have S1 := Lib.hid (And.intro (S0.out.1.keep (hb)) (And.intro (S0.out.2.1.keep (hb)) (And.intro (S0.out.2.2.1.keep (hb)) (And.intro (S0.out.2.2.2.1.keep (hb)) (And.intro (S0.out.2.2.2.2.1.keep (hb)) (And.intro (h0) (And.intro (h1) (below_trans (S0.out.2.2.2.2.2) (hb)))))))))
  clear hb h0 h1 S0
  generalize (w.alloc _).alloc _ = W0 at S1 ⊢
  go_wp2_with fail
  refine (speaks_z _ S1.out.1).mono ?_; rintro e w2 ⟨rfl, hb⟩
  have S2 := Lib.hid (And.intro (S1.out.1.keep (hb)) (And.intro (S1.out.2.1.keep (hb)) (And.intro (S1.out.2.2.1.keep (hb)) (And.intro (S1.out.2.2.2.1.keep (hb)) (And.intro (S1.out.2.2.2.2.1.keep (hb)) (And.intro (S1.out.2.2.2.2.2.1.keep (hb)) (And.intro (S1.out.2.2.2.2.2.2.1.keep (hb)) (below_trans (S1.out.2.2.2.2.2.2.2) (hb)))))))))
  clear hb  S1
  obtain ⟨aa, ab, -, -⟩ := S2.out.2.2.2.2.2.1.facts
  obtain ⟨ba, bb, -, -⟩ := S2.out.2.2.2.2.2.2.1.facts
  go_wp2_with fail
  refine (big_no S2.out.2.1 S2.out.2.2.1 HG.out.1 HG.out.2).mono ?_; rintro e w3 ⟨rfl, hb⟩
  have S3 := Lib.hid (And.intro (S2.out.1.keep (hb)) (And.intro (S2.out.2.1.keep (hb)) (And.intro (S2.out.2.2.1.keep (hb)) (And.intro (S2.out.2.2.2.1.keep (hb)) (And.intro (S2.out.2.2.2.2.1.keep (hb)) (And.intro (S2.out.2.2.2.2.2.1.keep (hb)) (And.intro (S2.out.2.2.2.2.2.2.1.keep (hb)) (below_trans (S2.out.2.2.2.2.2.2.2) (hb)))))))))
  clear hb aa ab ba bb S2
  have HW := Lib.hid (Since.refl w3)
  go_upto_region 5 with (fail)
  have kal : ∀ (W : World) (o : Obj), (W.cell? ⟨w.heap.size, 0, none⟩ = some (.bool pa) ∧ W.cell? ⟨w.heap.size, 1, none⟩ = some (.slice Aa na ca) ∧ W.cell? ⟨w.heap.size + 1, 0, none⟩ = some (.bool pb) ∧ W.cell? ⟨w.heap.size + 1, 1, none⟩ = some (.slice Ab nb cb)) → ((W.alloc o).cell? ⟨w.heap.size, 0, none⟩ = some (.bool pa) ∧ (W.alloc o).cell? ⟨w.heap.size, 1, none⟩ = some (.slice Aa na ca) ∧ (W.alloc o).cell? ⟨w.heap.size + 1, 0, none⟩ = some (.bool pb) ∧ (W.alloc o).cell? ⟨w.heap.size + 1, 1, none⟩ = some (.slice Ab nb cb)) := fun W o h => ⟨cell_al _ (h.1), cell_al _ (h.2.1), cell_al _ (h.2.2.1), cell_al _ (h.2.2.2)⟩
  have kst : ∀ (W : World) (g : Nat) (x y : Value), w3.heap.size ≤ g → (W.cell? ⟨w.heap.size, 0, none⟩ = some (.bool pa) ∧ W.cell? ⟨w.heap.size, 1, none⟩ = some (.slice Aa na ca) ∧ W.cell? ⟨w.heap.size + 1, 0, none⟩ = some (.bool pb) ∧ W.cell? ⟨w.heap.size + 1, 1, none⟩ = some (.slice Ab nb cb)) → (((W.setCell ⟨g, 0, none⟩ x).setCell ⟨g, 1, none⟩ y).cell? ⟨w.heap.size, 0, none⟩ = some (.bool pa) ∧ ((W.setCell ⟨g, 0, none⟩ x).setCell ⟨g, 1, none⟩ y).cell? ⟨w.heap.size, 1, none⟩ = some (.slice Aa na ca) ∧ ((W.setCell ⟨g, 0, none⟩ x).setCell ⟨g, 1, none⟩ y).cell? ⟨w.heap.size + 1, 0, none⟩ = some (.bool pb) ∧ ((W.setCell ⟨g, 0, none⟩ x).setCell ⟨g, 1, none⟩ y).cell? ⟨w.heap.size + 1, 1, none⟩ = some (.slice Ab nb cb)) := fun W g x y hg h => ⟨cell_st _ (h.1) (Nat.ne_of_lt (Nat.lt_of_lt_of_le S3.out.2.2.2.2.2.1.lt hg)), cell_st _ (h.2.1) (Nat.ne_of_lt (Nat.lt_of_lt_of_le S3.out.2.2.2.2.2.1.lt hg)), cell_st _ (h.2.2.1) (Nat.ne_of_lt (Nat.lt_of_lt_of_le S3.out.2.2.2.2.2.2.1.lt hg)), cell_st _ (h.2.2.2) (Nat.ne_of_lt (Nat.lt_of_lt_of_le S3.out.2.2.2.2.2.2.1.lt hg))⟩
  have KK := Lib.hid (And.intro kal kst)
  clear kal kst
  go_cut [5, 6] (fun s5 s6 wx => ∃ (gx : Nat) (px : Bool) (Ax : Option Addr) (lx : Nat) (cx : Nat) (gy : Nat) (py : Bool) (Ay : Option Addr) (ly : Nat) (cy : Nat), s5 = .pointer (some ⟨gx, 0, none⟩) ∧ s6 = .pointer (some ⟨gy, 0, none⟩) ∧ Since w3 wx ∧ Bx 24 wx gx (.bool px) (.slice Ax lx cx) ∧ Bx 24 wx gy (.bool py) (.slice Ay ly cy) ∧ Zl wx (.agg #[.bool px, .slice Ax lx cx]) pa xa ∧ Zl wx (.agg #[.bool py, .slice Ay ly cy]) pb xb)
  case first =>
    refine wp_region_held_drew (S := fun W => W.cell? ⟨w.heap.size, 0, none⟩ = some (.bool pa) ∧ W.cell? ⟨w.heap.size, 1, none⟩ = some (.slice Aa na ca) ∧ W.cell? ⟨w.heap.size + 1, 0, none⟩ = some (.bool pb) ∧ W.cell? ⟨w.heap.size + 1, 1, none⟩ = some (.slice Ab nb cb)) (by kernel_rfl) ⟨(S3.out.2.2.2.2.2.1.drewN 1).facts.1, (S3.out.2.2.2.2.2.1.drewN 1).facts.2.1, (S3.out.2.2.2.2.2.2.1.drewN 1).facts.1, (S3.out.2.2.2.2.2.2.1.drewN 1).facts.2.1⟩ (fun hHeld => ?_)
    refine wpAnyH_take (i := 0) (v := ?v1) (by simp only [List.getElem?_toArray, List.getElem?_cons_succ, List.getElem?_cons_zero]; rfl) (by kernel_rfl) (by kernel_rfl) (by kernel_rfl) (by exact fun _ _ _ h => h) (Or.inl ⟨by rfl, ?h1⟩) hHeld ?r1
    case h1 => (intro w hSw; (try dsimp only at hSw); (first | (go_simp; done) | (go_simp; with_reducible rfl)))
    try simp only [Act.put, List.setIfInBounds_toArray, List.set_cons_zero, List.set_cons_succ]
    refine wpAnyH_take (i := 2) (v := ?v2) (by simp only [List.getElem?_toArray, List.getElem?_cons_succ, List.getElem?_cons_zero]; rfl) (by kernel_rfl) (by kernel_rfl) (by kernel_rfl) (by exact fun _ _ _ h => h) (Or.inl ⟨by rfl, ?h2⟩) hHeld ?r2
    case h2 => (intro w hSw; (try dsimp only at hSw); (first | (go_simp; done) | (go_simp; with_reducible rfl)))
    try simp only [Act.put, List.setIfInBounds_toArray, List.set_cons_zero, List.set_cons_succ]
    have R0 := Lib.hid (show Since w3 w3.drew from HW.out.keep (below_dr _ 1))
    generalize w3.drew = Wd at R0 hHeld ⊢
    refine wpAnyH_ready (rs := [1, 4, 5]) (by kernel_rfl) (by simp) (AllReadyH.cons (by simp only [List.getElem?_toArray, List.getElem?_cons_succ, List.getElem?_cons_zero]; rfl) (fun K hK => ?_) (AllReadyH.cons (by simp only [List.getElem?_toArray, List.getElem?_cons_succ, List.getElem?_cons_zero]; rfl) (fun K hK => ?_) (AllReadyH.cons (by simp only [List.getElem?_toArray, List.getElem?_cons_succ, List.getElem?_cons_zero]; rfl) (fun K hK => ?_) AllReadyH.nil)))
    ·
      go_simp
      go_at_call 14; refine (copy_z (S3.out.2.1.keep R0.out) (by have := HG.out; omega)).mono ?_; rintro e w1 ⟨v, rfl, h, hb⟩
      obtain ⟨Ax, lx, cx, rfl, -, h⟩ := h.parts
      have R1 := Lib.hid (And.intro (R0.out.keep (hb)) ((h.out)))
      have hN : w1.cell? ⟨w.heap.size, 0, none⟩ = some (.bool pa) ∧ w1.cell? ⟨w.heap.size, 1, none⟩ = some (.slice Aa na ca) ∧ w1.cell? ⟨w.heap.size + 1, 0, none⟩ = some (.bool pb) ∧ w1.cell? ⟨w.heap.size + 1, 1, none⟩ = some (.slice Ab nb cb) := ⟨((S3.out.2.2.2.2.2.1.keep R1.out.1)).facts.1, ((S3.out.2.2.2.2.2.1.keep R1.out.1)).facts.2.1, ((S3.out.2.2.2.2.2.2.1.keep R1.out.1)).facts.1, ((S3.out.2.2.2.2.2.2.1.keep R1.out.1)).facts.2.1⟩
      clear hHeld h hb
      go_wp2_with fail
      refine hK.out _ _ hN (fun hHeld => ?_); clear hK K hN; try simp only [Act.put, List.setIfInBounds_toArray, List.set_cons_zero, List.set_cons_succ]
      refine wpAnyH_ready (rs := [3, 4, 5]) (by kernel_rfl) (by simp) (AllReadyH.cons (by simp only [List.getElem?_toArray, List.getElem?_cons_succ, List.getElem?_cons_zero]; rfl) (fun K hK => ?_) (AllReadyH.cons (by simp only [List.getElem?_toArray, List.getElem?_cons_succ, List.getElem?_cons_zero]; rfl) (fun K hK => ?_) (AllReadyH.cons (by simp only [List.getElem?_toArray, List.getElem?_cons_succ, List.getElem?_cons_zero]; rfl) (fun K hK => ?_) AllReadyH.nil)))
      ·
        go_simp
        go_at_call 14; refine (copy_z (S3.out.2.2.1.keep R1.out.1) (by have := HG.out; omega)).mono ?_; rintro e w2 ⟨v, rfl, h, hb⟩
        obtain ⟨Ay, ly, cy, rfl, -, h⟩ := h.parts
        have R2 := Lib.hid (And.intro (R1.out.1.keep (hb)) (And.intro (R1.out.2.keep (hb)) ((h.out))))
        have hN : w2.cell? ⟨w.heap.size, 0, none⟩ = some (.bool pa) ∧ w2.cell? ⟨w.heap.size, 1, none⟩ = some (.slice Aa na ca) ∧ w2.cell? ⟨w.heap.size + 1, 0, none⟩ = some (.bool pb) ∧ w2.cell? ⟨w.heap.size + 1, 1, none⟩ = some (.slice Ab nb cb) := ⟨((S3.out.2.2.2.2.2.1.keep R2.out.1)).facts.1, ((S3.out.2.2.2.2.2.1.keep R2.out.1)).facts.2.1, ((S3.out.2.2.2.2.2.2.1.keep R2.out.1)).facts.1, ((S3.out.2.2.2.2.2.2.1.keep R2.out.1)).facts.2.1⟩
        clear hHeld h hb
        go_wp2_with fail
        refine hK.out _ _ hN (fun hHeld => ?_); clear hK K hN; try simp only [Act.put, List.setIfInBounds_toArray, List.set_cons_zero, List.set_cons_succ]
        refine wpAnyH_ready (rs := [4, 5]) (by kernel_rfl) (by simp) (AllReadyH.cons (by simp only [List.getElem?_toArray, List.getElem?_cons_succ, List.getElem?_cons_zero]; rfl) (fun K hK => ?_) (AllReadyH.cons (by simp only [List.getElem?_toArray, List.getElem?_cons_succ, List.getElem?_cons_zero]; rfl) (fun K hK => ?_) AllReadyH.nil))
        ·
          go_simp
          refine hK.out _ _ (KK.out.1 _ _ hHeld) (fun hHeld => ?_); clear hK K; try simp only [Act.put, List.setIfInBounds_toArray, List.set_cons_zero, List.set_cons_succ]
          obtain ⟨gx, hgx⟩ : ∃ g, g = w2.heap.size := ⟨_, rfl⟩
          have R3 := Lib.hid (And.intro (R2.out.1.keep (below_al w2 (.cells #[.bool false, .slice none 0 0] 24))) (And.intro (R2.out.2.1.keep (below_al w2 (.cells #[.bool false, .slice none 0 0] 24))) (And.intro (R2.out.2.2.keep (below_al w2 (.cells #[.bool false, .slice none 0 0] 24))) (And.intro (Bx.new 24 w2 (.bool false) (.slice none 0 0)) ((R2.out.1.out.size))))))
          generalize w2.alloc _ = W3 at R3 hHeld ⊢; rw [← hgx] at R3 ⊢; clear hgx 
          refine wpAnyH_ready (rs := [5]) (by kernel_rfl) (by simp) (AllReadyH.cons (by simp only [List.getElem?_toArray, List.getElem?_cons_succ, List.getElem?_cons_zero]; rfl) (fun K hK => ?_) AllReadyH.nil)
          go_simp
          refine hK.out _ _ (KK.out.1 _ _ hHeld) (fun hHeld => ?_); clear hK K; try simp only [Act.put, List.setIfInBounds_toArray, List.set_cons_zero, List.set_cons_succ]
          obtain ⟨gy, hgy⟩ : ∃ g, g = W3.heap.size := ⟨_, rfl⟩
          have R4 := Lib.hid (And.intro (R3.out.1.keep (below_al W3 (.cells #[.bool false, .slice none 0 0] 24))) (And.intro (R3.out.2.1.keep (below_al W3 (.cells #[.bool false, .slice none 0 0] 24))) (And.intro (R3.out.2.2.1.keep (below_al W3 (.cells #[.bool false, .slice none 0 0] 24))) (And.intro (R3.out.2.2.2.1.keep (below_al W3 (.cells #[.bool false, .slice none 0 0] 24))) (And.intro (R3.out.2.2.2.2) (And.intro (Bx.new 24 W3 (.bool false) (.slice none 0 0)) (And.intro (R3.out.1.out.size) ((Nat.ne_of_lt R3.out.2.2.2.1.lt)))))))))
          generalize W3.alloc _ = W4 at R4 hHeld ⊢; rw [← hgy] at R4 ⊢; clear hgy 
          refine wpAnyH_ready (rs := [6]) (by kernel_rfl) (by simp) (AllReadyH.cons (by simp only [List.getElem?_toArray, List.getElem?_cons_succ, List.getElem?_cons_zero]; rfl) (fun K hK => ?_) AllReadyH.nil)
          obtain ⟨fa, fb, fc, fd⟩ := R4.out.2.2.2.1.facts; go_simp; clear fa fb fc fd
          refine hK.out _ _ (KK.out.2 _ _ _ _ (R4.out.2.2.2.2.1) hHeld) (fun hHeld => ?_); clear hK K; try simp only [Act.put, List.setIfInBounds_toArray, List.set_cons_zero, List.set_cons_succ]
          have R5 := Lib.hid (And.intro (R4.out.1.put R4.out.2.2.2.1 R4.out.2.2.2.2.1 (.bool pa) (.slice Ax lx cx)) (And.intro (R4.out.2.1.put R4.out.2.2.2.1 (.bool pa) (.slice Ax lx cx)) (And.intro (R4.out.2.2.1.put R4.out.2.2.2.1 (.bool pa) (.slice Ax lx cx)) (And.intro (R4.out.2.2.2.1.set (.bool pa) (.slice Ax lx cx)) (And.intro (R4.out.2.2.2.2.1) (And.intro (R4.out.2.2.2.2.2.1.other2 (R4.out.2.2.2.2.2.2.2) (.bool pa) (.slice Ax lx cx)) (And.intro (R4.out.2.2.2.2.2.2.1) ((R4.out.2.2.2.2.2.2.2)))))))))
          generalize (W4.setCell _ _).setCell _ _ = W5 at R5 hHeld ⊢
          refine wpAnyH_ready (rs := [7]) (by kernel_rfl) (by simp) (AllReadyH.cons (by simp only [List.getElem?_toArray, List.getElem?_cons_succ, List.getElem?_cons_zero]; rfl) (fun K hK => ?_) AllReadyH.nil)
          obtain ⟨fa, fb, fc, fd⟩ := R5.out.2.2.2.2.2.1.facts; go_simp; clear fa fb fc fd
          refine hK.out _ _ (KK.out.2 _ _ _ _ (R5.out.2.2.2.2.2.2.1) hHeld) (fun hHeld => ?_); clear hK K; try simp only [Act.put, List.setIfInBounds_toArray, List.set_cons_zero, List.set_cons_succ]
          have R6 := Lib.hid (And.intro (R5.out.1.put R5.out.2.2.2.2.2.1 R5.out.2.2.2.2.2.2.1 (.bool pb) (.slice Ay ly cy)) (And.intro (R5.out.2.1.put R5.out.2.2.2.2.2.1 (.bool pb) (.slice Ay ly cy)) (And.intro (R5.out.2.2.1.put R5.out.2.2.2.2.2.1 (.bool pb) (.slice Ay ly cy)) (And.intro (R5.out.2.2.2.1.other2 (Ne.symm R5.out.2.2.2.2.2.2.2) (.bool pb) (.slice Ay ly cy)) (And.intro (R5.out.2.2.2.2.1) (And.intro (R5.out.2.2.2.2.2.1.set (.bool pb) (.slice Ay ly cy)) (And.intro (R5.out.2.2.2.2.2.2.1) ((R5.out.2.2.2.2.2.2.2)))))))))
          generalize (W5.setCell _ _).setCell _ _ = W6 at R6 hHeld ⊢
          refine wpAnyH_done (by kernel_rfl) ?_ _; clear hHeld
          go_wp2_with fail; go_meet
          exact ⟨_, _, _, _, _, _, _, _, _, _, rfl, rfl, R6.out.1, R6.out.2.2.2.1, R6.out.2.2.2.2.2.1, R6.out.2.1, R6.out.2.2.1⟩
        ·
          go_simp
          refine hK.out _ _ (KK.out.1 _ _ hHeld) (fun hHeld => ?_); clear hK K; try simp only [Act.put, List.setIfInBounds_toArray, List.set_cons_zero, List.set_cons_succ]
          obtain ⟨gy, hgy⟩ : ∃ g, g = w2.heap.size := ⟨_, rfl⟩
          have R7 := Lib.hid (And.intro (R2.out.1.keep (below_al w2 (.cells #[.bool false, .slice none 0 0] 24))) (And.intro (R2.out.2.1.keep (below_al w2 (.cells #[.bool false, .slice none 0 0] 24))) (And.intro (R2.out.2.2.keep (below_al w2 (.cells #[.bool false, .slice none 0 0] 24))) (And.intro (Bx.new 24 w2 (.bool false) (.slice none 0 0)) ((R2.out.1.out.size))))))
          generalize w2.alloc _ = W7 at R7 hHeld ⊢; rw [← hgy] at R7 ⊢; clear hgy 
          refine wpAnyH_ready (rs := [4]) (by kernel_rfl) (by simp) (AllReadyH.cons (by simp only [List.getElem?_toArray, List.getElem?_cons_succ, List.getElem?_cons_zero]; rfl) (fun K hK => ?_) AllReadyH.nil)
          go_simp
          refine hK.out _ _ (KK.out.1 _ _ hHeld) (fun hHeld => ?_); clear hK K; try simp only [Act.put, List.setIfInBounds_toArray, List.set_cons_zero, List.set_cons_succ]
          obtain ⟨gx, hgx⟩ : ∃ g, g = W7.heap.size := ⟨_, rfl⟩
          have R8 := Lib.hid (And.intro (R7.out.1.keep (below_al W7 (.cells #[.bool false, .slice none 0 0] 24))) (And.intro (R7.out.2.1.keep (below_al W7 (.cells #[.bool false, .slice none 0 0] 24))) (And.intro (R7.out.2.2.1.keep (below_al W7 (.cells #[.bool false, .slice none 0 0] 24))) (And.intro (R7.out.2.2.2.1.keep (below_al W7 (.cells #[.bool false, .slice none 0 0] 24))) (And.intro (R7.out.2.2.2.2) (And.intro (Bx.new 24 W7 (.bool false) (.slice none 0 0)) (And.intro (R7.out.1.out.size) ((Nat.ne_of_lt R7.out.2.2.2.1.lt)))))))))
          generalize W7.alloc _ = W8 at R8 hHeld ⊢; rw [← hgx] at R8 ⊢; clear hgx 
          refine wpAnyH_ready (rs := [6]) (by kernel_rfl) (by simp) (AllReadyH.cons (by simp only [List.getElem?_toArray, List.getElem?_cons_succ, List.getElem?_cons_zero]; rfl) (fun K hK => ?_) AllReadyH.nil)
          obtain ⟨fa, fb, fc, fd⟩ := R8.out.2.2.2.2.2.1.facts; go_simp; clear fa fb fc fd
          refine hK.out _ _ (KK.out.2 _ _ _ _ (R8.out.2.2.2.2.2.2.1) hHeld) (fun hHeld => ?_); clear hK K; try simp only [Act.put, List.setIfInBounds_toArray, List.set_cons_zero, List.set_cons_succ]
          have R9 := Lib.hid (And.intro (R8.out.1.put R8.out.2.2.2.2.2.1 R8.out.2.2.2.2.2.2.1 (.bool pa) (.slice Ax lx cx)) (And.intro (R8.out.2.1.put R8.out.2.2.2.2.2.1 (.bool pa) (.slice Ax lx cx)) (And.intro (R8.out.2.2.1.put R8.out.2.2.2.2.2.1 (.bool pa) (.slice Ax lx cx)) (And.intro (R8.out.2.2.2.1.other2 (Ne.symm R8.out.2.2.2.2.2.2.2) (.bool pa) (.slice Ax lx cx)) (And.intro (R8.out.2.2.2.2.1) (And.intro (R8.out.2.2.2.2.2.1.set (.bool pa) (.slice Ax lx cx)) (And.intro (R8.out.2.2.2.2.2.2.1) ((R8.out.2.2.2.2.2.2.2)))))))))
          generalize (W8.setCell _ _).setCell _ _ = W9 at R9 hHeld ⊢
          refine wpAnyH_ready (rs := [7]) (by kernel_rfl) (by simp) (AllReadyH.cons (by simp only [List.getElem?_toArray, List.getElem?_cons_succ, List.getElem?_cons_zero]; rfl) (fun K hK => ?_) AllReadyH.nil)
          obtain ⟨fa, fb, fc, fd⟩ := R9.out.2.2.2.1.facts; go_simp; clear fa fb fc fd
          refine hK.out _ _ (KK.out.2 _ _ _ _ (R9.out.2.2.2.2.1) hHeld) (fun hHeld => ?_); clear hK K; try simp only [Act.put, List.setIfInBounds_toArray, List.set_cons_zero, List.set_cons_succ]
          have R10 := Lib.hid (And.intro (R9.out.1.put R9.out.2.2.2.1 R9.out.2.2.2.2.1 (.bool pb) (.slice Ay ly cy)) (And.intro (R9.out.2.1.put R9.out.2.2.2.1 (.bool pb) (.slice Ay ly cy)) (And.intro (R9.out.2.2.1.put R9.out.2.2.2.1 (.bool pb) (.slice Ay ly cy)) (And.intro (R9.out.2.2.2.1.set (.bool pb) (.slice Ay ly cy)) (And.intro (R9.out.2.2.2.2.1) (And.intro (R9.out.2.2.2.2.2.1.other2 (R9.out.2.2.2.2.2.2.2) (.bool pb) (.slice Ay ly cy)) (And.intro (R9.out.2.2.2.2.2.2.1) ((R9.out.2.2.2.2.2.2.2)))))))))
          generalize (W9.setCell _ _).setCell _ _ = W10 at R10 hHeld ⊢
          refine wpAnyH_done (by kernel_rfl) ?_ _; clear hHeld
          go_wp2_with fail; go_meet
          exact ⟨_, _, _, _, _, _, _, _, _, _, rfl, rfl, R10.out.1, R10.out.2.2.2.2.2.1, R10.out.2.2.2.1, R10.out.2.1, R10.out.2.2.1⟩
      ·
        go_simp
        refine hK.out _ _ (KK.out.1 _ _ hHeld) (fun hHeld => ?_); clear hK K; try simp only [Act.put, List.setIfInBounds_toArray, List.set_cons_zero, List.set_cons_succ]
        obtain ⟨gx, hgx⟩ : ∃ g, g = w1.heap.size := ⟨_, rfl⟩
        have R11 := Lib.hid (And.intro (R1.out.1.keep (below_al w1 (.cells #[.bool false, .slice none 0 0] 24))) (And.intro (R1.out.2.keep (below_al w1 (.cells #[.bool false, .slice none 0 0] 24))) (And.intro (Bx.new 24 w1 (.bool false) (.slice none 0 0)) ((R1.out.1.out.size)))))
        generalize w1.alloc _ = W11 at R11 hHeld ⊢; rw [← hgx] at R11 ⊢; clear hgx 
        refine wpAnyH_ready (rs := [3, 5]) (by kernel_rfl) (by simp) (AllReadyH.cons (by simp only [List.getElem?_toArray, List.getElem?_cons_succ, List.getElem?_cons_zero]; rfl) (fun K hK => ?_) (AllReadyH.cons (by simp only [List.getElem?_toArray, List.getElem?_cons_succ, List.getElem?_cons_zero]; rfl) (fun K hK => ?_) AllReadyH.nil))
        ·
          go_simp
          go_at_call 14; refine (copy_z (S3.out.2.2.1.keep R11.out.1) (by have := HG.out; omega)).mono ?_; rintro e w12 ⟨v, rfl, h, hb⟩
          obtain ⟨Ay, ly, cy, rfl, -, h⟩ := h.parts
          have R12 := Lib.hid (And.intro (R11.out.1.keep (hb)) (And.intro (R11.out.2.1.keep (hb)) (And.intro (R11.out.2.2.1.keep (hb)) (And.intro (R11.out.2.2.2) ((h.out))))))
          have hN : w12.cell? ⟨w.heap.size, 0, none⟩ = some (.bool pa) ∧ w12.cell? ⟨w.heap.size, 1, none⟩ = some (.slice Aa na ca) ∧ w12.cell? ⟨w.heap.size + 1, 0, none⟩ = some (.bool pb) ∧ w12.cell? ⟨w.heap.size + 1, 1, none⟩ = some (.slice Ab nb cb) := ⟨((S3.out.2.2.2.2.2.1.keep R12.out.1)).facts.1, ((S3.out.2.2.2.2.2.1.keep R12.out.1)).facts.2.1, ((S3.out.2.2.2.2.2.2.1.keep R12.out.1)).facts.1, ((S3.out.2.2.2.2.2.2.1.keep R12.out.1)).facts.2.1⟩
          clear hHeld h hb
          go_wp2_with fail
          refine hK.out _ _ hN (fun hHeld => ?_); clear hK K hN; try simp only [Act.put, List.setIfInBounds_toArray, List.set_cons_zero, List.set_cons_succ]
          refine wpAnyH_ready (rs := [5]) (by kernel_rfl) (by simp) (AllReadyH.cons (by simp only [List.getElem?_toArray, List.getElem?_cons_succ, List.getElem?_cons_zero]; rfl) (fun K hK => ?_) AllReadyH.nil)
          go_simp
          refine hK.out _ _ (KK.out.1 _ _ hHeld) (fun hHeld => ?_); clear hK K; try simp only [Act.put, List.setIfInBounds_toArray, List.set_cons_zero, List.set_cons_succ]
          obtain ⟨gy, hgy⟩ : ∃ g, g = w12.heap.size := ⟨_, rfl⟩
          have R13 := Lib.hid (And.intro (R12.out.1.keep (below_al w12 (.cells #[.bool false, .slice none 0 0] 24))) (And.intro (R12.out.2.1.keep (below_al w12 (.cells #[.bool false, .slice none 0 0] 24))) (And.intro (R12.out.2.2.1.keep (below_al w12 (.cells #[.bool false, .slice none 0 0] 24))) (And.intro (R12.out.2.2.2.1) (And.intro (R12.out.2.2.2.2.keep (below_al w12 (.cells #[.bool false, .slice none 0 0] 24))) (And.intro (Bx.new 24 w12 (.bool false) (.slice none 0 0)) (And.intro (R12.out.1.out.size) ((Nat.ne_of_lt R12.out.2.2.1.lt)))))))))
          generalize w12.alloc _ = W13 at R13 hHeld ⊢; rw [← hgy] at R13 ⊢; clear hgy 
          refine wpAnyH_ready (rs := [6]) (by kernel_rfl) (by simp) (AllReadyH.cons (by simp only [List.getElem?_toArray, List.getElem?_cons_succ, List.getElem?_cons_zero]; rfl) (fun K hK => ?_) AllReadyH.nil)
          obtain ⟨fa, fb, fc, fd⟩ := R13.out.2.2.1.facts; go_simp; clear fa fb fc fd
          refine hK.out _ _ (KK.out.2 _ _ _ _ (R13.out.2.2.2.1) hHeld) (fun hHeld => ?_); clear hK K; try simp only [Act.put, List.setIfInBounds_toArray, List.set_cons_zero, List.set_cons_succ]
          have R14 := Lib.hid (And.intro (R13.out.1.put R13.out.2.2.1 R13.out.2.2.2.1 (.bool pa) (.slice Ax lx cx)) (And.intro (R13.out.2.1.put R13.out.2.2.1 (.bool pa) (.slice Ax lx cx)) (And.intro (R13.out.2.2.1.set (.bool pa) (.slice Ax lx cx)) (And.intro (R13.out.2.2.2.1) (And.intro (R13.out.2.2.2.2.1.put R13.out.2.2.1 (.bool pa) (.slice Ax lx cx)) (And.intro (R13.out.2.2.2.2.2.1.other2 (R13.out.2.2.2.2.2.2.2) (.bool pa) (.slice Ax lx cx)) (And.intro (R13.out.2.2.2.2.2.2.1) ((R13.out.2.2.2.2.2.2.2)))))))))
          generalize (W13.setCell _ _).setCell _ _ = W14 at R14 hHeld ⊢
          refine wpAnyH_ready (rs := [7]) (by kernel_rfl) (by simp) (AllReadyH.cons (by simp only [List.getElem?_toArray, List.getElem?_cons_succ, List.getElem?_cons_zero]; rfl) (fun K hK => ?_) AllReadyH.nil)
          obtain ⟨fa, fb, fc, fd⟩ := R14.out.2.2.2.2.2.1.facts; go_simp; clear fa fb fc fd
          refine hK.out _ _ (KK.out.2 _ _ _ _ (R14.out.2.2.2.2.2.2.1) hHeld) (fun hHeld => ?_); clear hK K; try simp only [Act.put, List.setIfInBounds_toArray, List.set_cons_zero, List.set_cons_succ]
          have R15 := Lib.hid (And.intro (R14.out.1.put R14.out.2.2.2.2.2.1 R14.out.2.2.2.2.2.2.1 (.bool pb) (.slice Ay ly cy)) (And.intro (R14.out.2.1.put R14.out.2.2.2.2.2.1 (.bool pb) (.slice Ay ly cy)) (And.intro (R14.out.2.2.1.other2 (Ne.symm R14.out.2.2.2.2.2.2.2) (.bool pb) (.slice Ay ly cy)) (And.intro (R14.out.2.2.2.1) (And.intro (R14.out.2.2.2.2.1.put R14.out.2.2.2.2.2.1 (.bool pb) (.slice Ay ly cy)) (And.intro (R14.out.2.2.2.2.2.1.set (.bool pb) (.slice Ay ly cy)) (And.intro (R14.out.2.2.2.2.2.2.1) ((R14.out.2.2.2.2.2.2.2)))))))))
          generalize (W14.setCell _ _).setCell _ _ = W15 at R15 hHeld ⊢
          refine wpAnyH_done (by kernel_rfl) ?_ _; clear hHeld
          go_wp2_with fail; go_meet
          exact ⟨_, _, _, _, _, _, _, _, _, _, rfl, rfl, R15.out.1, R15.out.2.2.1, R15.out.2.2.2.2.2.1, R15.out.2.1, R15.out.2.2.2.2.1⟩
        ·
          go_simp
          refine hK.out _ _ (KK.out.1 _ _ hHeld) (fun hHeld => ?_); clear hK K; try simp only [Act.put, List.setIfInBounds_toArray, List.set_cons_zero, List.set_cons_succ]
          obtain ⟨gy, hgy⟩ : ∃ g, g = W11.heap.size := ⟨_, rfl⟩
          have R16 := Lib.hid (And.intro (R11.out.1.keep (below_al W11 (.cells #[.bool false, .slice none 0 0] 24))) (And.intro (R11.out.2.1.keep (below_al W11 (.cells #[.bool false, .slice none 0 0] 24))) (And.intro (R11.out.2.2.1.keep (below_al W11 (.cells #[.bool false, .slice none 0 0] 24))) (And.intro (R11.out.2.2.2) (And.intro (Bx.new 24 W11 (.bool false) (.slice none 0 0)) (And.intro (R11.out.1.out.size) ((Nat.ne_of_lt R11.out.2.2.1.lt))))))))
          generalize W11.alloc _ = W16 at R16 hHeld ⊢; rw [← hgy] at R16 ⊢; clear hgy 
          refine wpAnyH_ready (rs := [3]) (by kernel_rfl) (by simp) (AllReadyH.cons (by simp only [List.getElem?_toArray, List.getElem?_cons_succ, List.getElem?_cons_zero]; rfl) (fun K hK => ?_) AllReadyH.nil)
          go_simp
          go_at_call 14; refine (copy_z (S3.out.2.2.1.keep R16.out.1) (by have := HG.out; omega)).mono ?_; rintro e w17 ⟨v, rfl, h, hb⟩
          obtain ⟨Ay, ly, cy, rfl, -, h⟩ := h.parts
          have R17 := Lib.hid (And.intro (R16.out.1.keep (hb)) (And.intro (R16.out.2.1.keep (hb)) (And.intro (R16.out.2.2.1.keep (hb)) (And.intro (R16.out.2.2.2.1) (And.intro (R16.out.2.2.2.2.1.keep (hb)) (And.intro (R16.out.2.2.2.2.2.1) (And.intro (R16.out.2.2.2.2.2.2) ((h.out)))))))))
          have hN : w17.cell? ⟨w.heap.size, 0, none⟩ = some (.bool pa) ∧ w17.cell? ⟨w.heap.size, 1, none⟩ = some (.slice Aa na ca) ∧ w17.cell? ⟨w.heap.size + 1, 0, none⟩ = some (.bool pb) ∧ w17.cell? ⟨w.heap.size + 1, 1, none⟩ = some (.slice Ab nb cb) := ⟨((S3.out.2.2.2.2.2.1.keep R17.out.1)).facts.1, ((S3.out.2.2.2.2.2.1.keep R17.out.1)).facts.2.1, ((S3.out.2.2.2.2.2.2.1.keep R17.out.1)).facts.1, ((S3.out.2.2.2.2.2.2.1.keep R17.out.1)).facts.2.1⟩
          clear hHeld h hb
          go_wp2_with fail
          refine hK.out _ _ hN (fun hHeld => ?_); clear hK K hN; try simp only [Act.put, List.setIfInBounds_toArray, List.set_cons_zero, List.set_cons_succ]
          refine wpAnyH_ready (rs := [6]) (by kernel_rfl) (by simp) (AllReadyH.cons (by simp only [List.getElem?_toArray, List.getElem?_cons_succ, List.getElem?_cons_zero]; rfl) (fun K hK => ?_) AllReadyH.nil)
          obtain ⟨fa, fb, fc, fd⟩ := R17.out.2.2.1.facts; go_simp; clear fa fb fc fd
          refine hK.out _ _ (KK.out.2 _ _ _ _ (R17.out.2.2.2.1) hHeld) (fun hHeld => ?_); clear hK K; try simp only [Act.put, List.setIfInBounds_toArray, List.set_cons_zero, List.set_cons_succ]
          have R18 := Lib.hid (And.intro (R17.out.1.put R17.out.2.2.1 R17.out.2.2.2.1 (.bool pa) (.slice Ax lx cx)) (And.intro (R17.out.2.1.put R17.out.2.2.1 (.bool pa) (.slice Ax lx cx)) (And.intro (R17.out.2.2.1.set (.bool pa) (.slice Ax lx cx)) (And.intro (R17.out.2.2.2.1) (And.intro (R17.out.2.2.2.2.1.other2 (R17.out.2.2.2.2.2.2.1) (.bool pa) (.slice Ax lx cx)) (And.intro (R17.out.2.2.2.2.2.1) (And.intro (R17.out.2.2.2.2.2.2.1) ((R17.out.2.2.2.2.2.2.2.put R17.out.2.2.1 (.bool pa) (.slice Ax lx cx))))))))))
          generalize (w17.setCell _ _).setCell _ _ = W18 at R18 hHeld ⊢
          refine wpAnyH_ready (rs := [7]) (by kernel_rfl) (by simp) (AllReadyH.cons (by simp only [List.getElem?_toArray, List.getElem?_cons_succ, List.getElem?_cons_zero]; rfl) (fun K hK => ?_) AllReadyH.nil)
          obtain ⟨fa, fb, fc, fd⟩ := R18.out.2.2.2.2.1.facts; go_simp; clear fa fb fc fd
          refine hK.out _ _ (KK.out.2 _ _ _ _ (R18.out.2.2.2.2.2.1) hHeld) (fun hHeld => ?_); clear hK K; try simp only [Act.put, List.setIfInBounds_toArray, List.set_cons_zero, List.set_cons_succ]
          have R19 := Lib.hid (And.intro (R18.out.1.put R18.out.2.2.2.2.1 R18.out.2.2.2.2.2.1 (.bool pb) (.slice Ay ly cy)) (And.intro (R18.out.2.1.put R18.out.2.2.2.2.1 (.bool pb) (.slice Ay ly cy)) (And.intro (R18.out.2.2.1.other2 (Ne.symm R18.out.2.2.2.2.2.2.1) (.bool pb) (.slice Ay ly cy)) (And.intro (R18.out.2.2.2.1) (And.intro (R18.out.2.2.2.2.1.set (.bool pb) (.slice Ay ly cy)) (And.intro (R18.out.2.2.2.2.2.1) (And.intro (R18.out.2.2.2.2.2.2.1) ((R18.out.2.2.2.2.2.2.2.put R18.out.2.2.2.2.1 (.bool pb) (.slice Ay ly cy))))))))))
          generalize (W18.setCell _ _).setCell _ _ = W19 at R19 hHeld ⊢
          refine wpAnyH_done (by kernel_rfl) ?_ _; clear hHeld
          go_wp2_with fail; go_meet
          exact ⟨_, _, _, _, _, _, _, _, _, _, rfl, rfl, R19.out.1, R19.out.2.2.1, R19.out.2.2.2.2.1, R19.out.2.1, R19.out.2.2.2.2.2.2.2⟩
      ·
        go_simp
        refine hK.out _ _ (KK.out.1 _ _ hHeld) (fun hHeld => ?_); clear hK K; try simp only [Act.put, List.setIfInBounds_toArray, List.set_cons_zero, List.set_cons_succ]
        obtain ⟨gy, hgy⟩ : ∃ g, g = w1.heap.size := ⟨_, rfl⟩
        have R20 := Lib.hid (And.intro (R1.out.1.keep (below_al w1 (.cells #[.bool false, .slice none 0 0] 24))) (And.intro (R1.out.2.keep (below_al w1 (.cells #[.bool false, .slice none 0 0] 24))) (And.intro (Bx.new 24 w1 (.bool false) (.slice none 0 0)) ((R1.out.1.out.size)))))
        generalize w1.alloc _ = W20 at R20 hHeld ⊢; rw [← hgy] at R20 ⊢; clear hgy 
        refine wpAnyH_ready (rs := [3, 4]) (by kernel_rfl) (by simp) (AllReadyH.cons (by simp only [List.getElem?_toArray, List.getElem?_cons_succ, List.getElem?_cons_zero]; rfl) (fun K hK => ?_) (AllReadyH.cons (by simp only [List.getElem?_toArray, List.getElem?_cons_succ, List.getElem?_cons_zero]; rfl) (fun K hK => ?_) AllReadyH.nil))
        ·
          go_simp
          go_at_call 14; refine (copy_z (S3.out.2.2.1.keep R20.out.1) (by have := HG.out; omega)).mono ?_; rintro e w21 ⟨v, rfl, h, hb⟩
          obtain ⟨Ay, ly, cy, rfl, -, h⟩ := h.parts
          have R21 := Lib.hid (And.intro (R20.out.1.keep (hb)) (And.intro (R20.out.2.1.keep (hb)) (And.intro (R20.out.2.2.1.keep (hb)) (And.intro (R20.out.2.2.2) ((h.out))))))
          have hN : w21.cell? ⟨w.heap.size, 0, none⟩ = some (.bool pa) ∧ w21.cell? ⟨w.heap.size, 1, none⟩ = some (.slice Aa na ca) ∧ w21.cell? ⟨w.heap.size + 1, 0, none⟩ = some (.bool pb) ∧ w21.cell? ⟨w.heap.size + 1, 1, none⟩ = some (.slice Ab nb cb) := ⟨((S3.out.2.2.2.2.2.1.keep R21.out.1)).facts.1, ((S3.out.2.2.2.2.2.1.keep R21.out.1)).facts.2.1, ((S3.out.2.2.2.2.2.2.1.keep R21.out.1)).facts.1, ((S3.out.2.2.2.2.2.2.1.keep R21.out.1)).facts.2.1⟩
          clear hHeld h hb
          go_wp2_with fail
          refine hK.out _ _ hN (fun hHeld => ?_); clear hK K hN; try simp only [Act.put, List.setIfInBounds_toArray, List.set_cons_zero, List.set_cons_succ]
          refine wpAnyH_ready (rs := [4]) (by kernel_rfl) (by simp) (AllReadyH.cons (by simp only [List.getElem?_toArray, List.getElem?_cons_succ, List.getElem?_cons_zero]; rfl) (fun K hK => ?_) AllReadyH.nil)
          go_simp
          refine hK.out _ _ (KK.out.1 _ _ hHeld) (fun hHeld => ?_); clear hK K; try simp only [Act.put, List.setIfInBounds_toArray, List.set_cons_zero, List.set_cons_succ]
          obtain ⟨gx, hgx⟩ : ∃ g, g = w21.heap.size := ⟨_, rfl⟩
          have R22 := Lib.hid (And.intro (R21.out.1.keep (below_al w21 (.cells #[.bool false, .slice none 0 0] 24))) (And.intro (R21.out.2.1.keep (below_al w21 (.cells #[.bool false, .slice none 0 0] 24))) (And.intro (R21.out.2.2.1.keep (below_al w21 (.cells #[.bool false, .slice none 0 0] 24))) (And.intro (R21.out.2.2.2.1) (And.intro (R21.out.2.2.2.2.keep (below_al w21 (.cells #[.bool false, .slice none 0 0] 24))) (And.intro (Bx.new 24 w21 (.bool false) (.slice none 0 0)) (And.intro (R21.out.1.out.size) ((Nat.ne_of_lt R21.out.2.2.1.lt)))))))))
          generalize w21.alloc _ = W22 at R22 hHeld ⊢; rw [← hgx] at R22 ⊢; clear hgx 
          refine wpAnyH_ready (rs := [6]) (by kernel_rfl) (by simp) (AllReadyH.cons (by simp only [List.getElem?_toArray, List.getElem?_cons_succ, List.getElem?_cons_zero]; rfl) (fun K hK => ?_) AllReadyH.nil)
          obtain ⟨fa, fb, fc, fd⟩ := R22.out.2.2.2.2.2.1.facts; go_simp; clear fa fb fc fd
          refine hK.out _ _ (KK.out.2 _ _ _ _ (R22.out.2.2.2.2.2.2.1) hHeld) (fun hHeld => ?_); clear hK K; try simp only [Act.put, List.setIfInBounds_toArray, List.set_cons_zero, List.set_cons_succ]
          have R23 := Lib.hid (And.intro (R22.out.1.put R22.out.2.2.2.2.2.1 R22.out.2.2.2.2.2.2.1 (.bool pa) (.slice Ax lx cx)) (And.intro (R22.out.2.1.put R22.out.2.2.2.2.2.1 (.bool pa) (.slice Ax lx cx)) (And.intro (R22.out.2.2.1.other2 (Ne.symm R22.out.2.2.2.2.2.2.2) (.bool pa) (.slice Ax lx cx)) (And.intro (R22.out.2.2.2.1) (And.intro (R22.out.2.2.2.2.1.put R22.out.2.2.2.2.2.1 (.bool pa) (.slice Ax lx cx)) (And.intro (R22.out.2.2.2.2.2.1.set (.bool pa) (.slice Ax lx cx)) (And.intro (R22.out.2.2.2.2.2.2.1) ((R22.out.2.2.2.2.2.2.2)))))))))
          generalize (W22.setCell _ _).setCell _ _ = W23 at R23 hHeld ⊢
          refine wpAnyH_ready (rs := [7]) (by kernel_rfl) (by simp) (AllReadyH.cons (by simp only [List.getElem?_toArray, List.getElem?_cons_succ, List.getElem?_cons_zero]; rfl) (fun K hK => ?_) AllReadyH.nil)
          obtain ⟨fa, fb, fc, fd⟩ := R23.out.2.2.1.facts; go_simp; clear fa fb fc fd
          refine hK.out _ _ (KK.out.2 _ _ _ _ (R23.out.2.2.2.1) hHeld) (fun hHeld => ?_); clear hK K; try simp only [Act.put, List.setIfInBounds_toArray, List.set_cons_zero, List.set_cons_succ]
          have R24 := Lib.hid (And.intro (R23.out.1.put R23.out.2.2.1 R23.out.2.2.2.1 (.bool pb) (.slice Ay ly cy)) (And.intro (R23.out.2.1.put R23.out.2.2.1 (.bool pb) (.slice Ay ly cy)) (And.intro (R23.out.2.2.1.set (.bool pb) (.slice Ay ly cy)) (And.intro (R23.out.2.2.2.1) (And.intro (R23.out.2.2.2.2.1.put R23.out.2.2.1 (.bool pb) (.slice Ay ly cy)) (And.intro (R23.out.2.2.2.2.2.1.other2 (R23.out.2.2.2.2.2.2.2) (.bool pb) (.slice Ay ly cy)) (And.intro (R23.out.2.2.2.2.2.2.1) ((R23.out.2.2.2.2.2.2.2)))))))))
          generalize (W23.setCell _ _).setCell _ _ = W24 at R24 hHeld ⊢
          refine wpAnyH_done (by kernel_rfl) ?_ _; clear hHeld
          go_wp2_with fail; go_meet
          exact ⟨_, _, _, _, _, _, _, _, _, _, rfl, rfl, R24.out.1, R24.out.2.2.2.2.2.1, R24.out.2.2.1, R24.out.2.1, R24.out.2.2.2.2.1⟩
        ·
          go_simp
          refine hK.out _ _ (KK.out.1 _ _ hHeld) (fun hHeld => ?_); clear hK K; try simp only [Act.put, List.setIfInBounds_toArray, List.set_cons_zero, List.set_cons_succ]
          obtain ⟨gx, hgx⟩ : ∃ g, g = W20.heap.size := ⟨_, rfl⟩
          have R25 := Lib.hid (And.intro (R20.out.1.keep (below_al W20 (.cells #[.bool false, .slice none 0 0] 24))) (And.intro (R20.out.2.1.keep (below_al W20 (.cells #[.bool false, .slice none 0 0] 24))) (And.intro (R20.out.2.2.1.keep (below_al W20 (.cells #[.bool false, .slice none 0 0] 24))) (And.intro (R20.out.2.2.2) (And.intro (Bx.new 24 W20 (.bool false) (.slice none 0 0)) (And.intro (R20.out.1.out.size) ((Nat.ne_of_lt R20.out.2.2.1.lt))))))))
          generalize W20.alloc _ = W25 at R25 hHeld ⊢; rw [← hgx] at R25 ⊢; clear hgx 
          refine wpAnyH_ready (rs := [3]) (by kernel_rfl) (by simp) (AllReadyH.cons (by simp only [List.getElem?_toArray, List.getElem?_cons_succ, List.getElem?_cons_zero]; rfl) (fun K hK => ?_) AllReadyH.nil)
          go_simp
          go_at_call 14; refine (copy_z (S3.out.2.2.1.keep R25.out.1) (by have := HG.out; omega)).mono ?_; rintro e w26 ⟨v, rfl, h, hb⟩
          obtain ⟨Ay, ly, cy, rfl, -, h⟩ := h.parts
          have R26 := Lib.hid (And.intro (R25.out.1.keep (hb)) (And.intro (R25.out.2.1.keep (hb)) (And.intro (R25.out.2.2.1.keep (hb)) (And.intro (R25.out.2.2.2.1) (And.intro (R25.out.2.2.2.2.1.keep (hb)) (And.intro (R25.out.2.2.2.2.2.1) (And.intro (R25.out.2.2.2.2.2.2) ((h.out)))))))))
          have hN : w26.cell? ⟨w.heap.size, 0, none⟩ = some (.bool pa) ∧ w26.cell? ⟨w.heap.size, 1, none⟩ = some (.slice Aa na ca) ∧ w26.cell? ⟨w.heap.size + 1, 0, none⟩ = some (.bool pb) ∧ w26.cell? ⟨w.heap.size + 1, 1, none⟩ = some (.slice Ab nb cb) := ⟨((S3.out.2.2.2.2.2.1.keep R26.out.1)).facts.1, ((S3.out.2.2.2.2.2.1.keep R26.out.1)).facts.2.1, ((S3.out.2.2.2.2.2.2.1.keep R26.out.1)).facts.1, ((S3.out.2.2.2.2.2.2.1.keep R26.out.1)).facts.2.1⟩
          clear hHeld h hb
          go_wp2_with fail
          refine hK.out _ _ hN (fun hHeld => ?_); clear hK K hN; try simp only [Act.put, List.setIfInBounds_toArray, List.set_cons_zero, List.set_cons_succ]
          refine wpAnyH_ready (rs := [6]) (by kernel_rfl) (by simp) (AllReadyH.cons (by simp only [List.getElem?_toArray, List.getElem?_cons_succ, List.getElem?_cons_zero]; rfl) (fun K hK => ?_) AllReadyH.nil)
          obtain ⟨fa, fb, fc, fd⟩ := R26.out.2.2.2.2.1.facts; go_simp; clear fa fb fc fd
          refine hK.out _ _ (KK.out.2 _ _ _ _ (R26.out.2.2.2.2.2.1) hHeld) (fun hHeld => ?_); clear hK K; try simp only [Act.put, List.setIfInBounds_toArray, List.set_cons_zero, List.set_cons_succ]
          have R27 := Lib.hid (And.intro (R26.out.1.put R26.out.2.2.2.2.1 R26.out.2.2.2.2.2.1 (.bool pa) (.slice Ax lx cx)) (And.intro (R26.out.2.1.put R26.out.2.2.2.2.1 (.bool pa) (.slice Ax lx cx)) (And.intro (R26.out.2.2.1.other2 (Ne.symm R26.out.2.2.2.2.2.2.1) (.bool pa) (.slice Ax lx cx)) (And.intro (R26.out.2.2.2.1) (And.intro (R26.out.2.2.2.2.1.set (.bool pa) (.slice Ax lx cx)) (And.intro (R26.out.2.2.2.2.2.1) (And.intro (R26.out.2.2.2.2.2.2.1) ((R26.out.2.2.2.2.2.2.2.put R26.out.2.2.2.2.1 (.bool pa) (.slice Ax lx cx))))))))))
          generalize (w26.setCell _ _).setCell _ _ = W27 at R27 hHeld ⊢
          refine wpAnyH_ready (rs := [7]) (by kernel_rfl) (by simp) (AllReadyH.cons (by simp only [List.getElem?_toArray, List.getElem?_cons_succ, List.getElem?_cons_zero]; rfl) (fun K hK => ?_) AllReadyH.nil)
          obtain ⟨fa, fb, fc, fd⟩ := R27.out.2.2.1.facts; go_simp; clear fa fb fc fd
          refine hK.out _ _ (KK.out.2 _ _ _ _ (R27.out.2.2.2.1) hHeld) (fun hHeld => ?_); clear hK K; try simp only [Act.put, List.setIfInBounds_toArray, List.set_cons_zero, List.set_cons_succ]
          have R28 := Lib.hid (And.intro (R27.out.1.put R27.out.2.2.1 R27.out.2.2.2.1 (.bool pb) (.slice Ay ly cy)) (And.intro (R27.out.2.1.put R27.out.2.2.1 (.bool pb) (.slice Ay ly cy)) (And.intro (R27.out.2.2.1.set (.bool pb) (.slice Ay ly cy)) (And.intro (R27.out.2.2.2.1) (And.intro (R27.out.2.2.2.2.1.other2 (R27.out.2.2.2.2.2.2.1) (.bool pb) (.slice Ay ly cy)) (And.intro (R27.out.2.2.2.2.2.1) (And.intro (R27.out.2.2.2.2.2.2.1) ((R27.out.2.2.2.2.2.2.2.put R27.out.2.2.1 (.bool pb) (.slice Ay ly cy))))))))))
          generalize (W27.setCell _ _).setCell _ _ = W28 at R28 hHeld ⊢
          refine wpAnyH_done (by kernel_rfl) ?_ _; clear hHeld
          go_wp2_with fail; go_meet
          exact ⟨_, _, _, _, _, _, _, _, _, _, rfl, rfl, R28.out.1, R28.out.2.2.2.2.1, R28.out.2.2.1, R28.out.2.1, R28.out.2.2.2.2.2.2.2⟩
    ·
      go_simp
      refine hK.out _ _ (KK.out.1 _ _ hHeld) (fun hHeld => ?_); clear hK K; try simp only [Act.put, List.setIfInBounds_toArray, List.set_cons_zero, List.set_cons_succ]
      obtain ⟨gx, hgx⟩ : ∃ g, g = Wd.heap.size := ⟨_, rfl⟩
      have R29 := Lib.hid (And.intro (R0.out.keep (below_al Wd (.cells #[.bool false, .slice none 0 0] 24))) (And.intro (Bx.new 24 Wd (.bool false) (.slice none 0 0)) ((R0.out.out.size))))
      generalize Wd.alloc _ = W29 at R29 hHeld ⊢; rw [← hgx] at R29 ⊢; clear hgx 
      refine wpAnyH_ready (rs := [1, 5]) (by kernel_rfl) (by simp) (AllReadyH.cons (by simp only [List.getElem?_toArray, List.getElem?_cons_succ, List.getElem?_cons_zero]; rfl) (fun K hK => ?_) (AllReadyH.cons (by simp only [List.getElem?_toArray, List.getElem?_cons_succ, List.getElem?_cons_zero]; rfl) (fun K hK => ?_) AllReadyH.nil))
      ·
        go_simp
        go_at_call 14; refine (copy_z (S3.out.2.1.keep R29.out.1) (by have := HG.out; omega)).mono ?_; rintro e w30 ⟨v, rfl, h, hb⟩
        obtain ⟨Ax, lx, cx, rfl, -, h⟩ := h.parts
        have R30 := Lib.hid (And.intro (R29.out.1.keep (hb)) (And.intro (R29.out.2.1.keep (hb)) (And.intro (R29.out.2.2) ((h.out)))))
        have hN : w30.cell? ⟨w.heap.size, 0, none⟩ = some (.bool pa) ∧ w30.cell? ⟨w.heap.size, 1, none⟩ = some (.slice Aa na ca) ∧ w30.cell? ⟨w.heap.size + 1, 0, none⟩ = some (.bool pb) ∧ w30.cell? ⟨w.heap.size + 1, 1, none⟩ = some (.slice Ab nb cb) := ⟨((S3.out.2.2.2.2.2.1.keep R30.out.1)).facts.1, ((S3.out.2.2.2.2.2.1.keep R30.out.1)).facts.2.1, ((S3.out.2.2.2.2.2.2.1.keep R30.out.1)).facts.1, ((S3.out.2.2.2.2.2.2.1.keep R30.out.1)).facts.2.1⟩
        clear hHeld h hb
        go_wp2_with fail
        refine hK.out _ _ hN (fun hHeld => ?_); clear hK K hN; try simp only [Act.put, List.setIfInBounds_toArray, List.set_cons_zero, List.set_cons_succ]
        refine wpAnyH_ready (rs := [3, 5]) (by kernel_rfl) (by simp) (AllReadyH.cons (by simp only [List.getElem?_toArray, List.getElem?_cons_succ, List.getElem?_cons_zero]; rfl) (fun K hK => ?_) (AllReadyH.cons (by simp only [List.getElem?_toArray, List.getElem?_cons_succ, List.getElem?_cons_zero]; rfl) (fun K hK => ?_) AllReadyH.nil))
        ·
          go_simp
          go_at_call 14; refine (copy_z (S3.out.2.2.1.keep R30.out.1) (by have := HG.out; omega)).mono ?_; rintro e w31 ⟨v, rfl, h, hb⟩
          obtain ⟨Ay, ly, cy, rfl, -, h⟩ := h.parts
          have R31 := Lib.hid (And.intro (R30.out.1.keep (hb)) (And.intro (R30.out.2.1.keep (hb)) (And.intro (R30.out.2.2.1) (And.intro (R30.out.2.2.2.keep (hb)) ((h.out))))))
          have hN : w31.cell? ⟨w.heap.size, 0, none⟩ = some (.bool pa) ∧ w31.cell? ⟨w.heap.size, 1, none⟩ = some (.slice Aa na ca) ∧ w31.cell? ⟨w.heap.size + 1, 0, none⟩ = some (.bool pb) ∧ w31.cell? ⟨w.heap.size + 1, 1, none⟩ = some (.slice Ab nb cb) := ⟨((S3.out.2.2.2.2.2.1.keep R31.out.1)).facts.1, ((S3.out.2.2.2.2.2.1.keep R31.out.1)).facts.2.1, ((S3.out.2.2.2.2.2.2.1.keep R31.out.1)).facts.1, ((S3.out.2.2.2.2.2.2.1.keep R31.out.1)).facts.2.1⟩
          clear hHeld h hb
          go_wp2_with fail
          refine hK.out _ _ hN (fun hHeld => ?_); clear hK K hN; try simp only [Act.put, List.setIfInBounds_toArray, List.set_cons_zero, List.set_cons_succ]
          refine wpAnyH_ready (rs := [5]) (by kernel_rfl) (by simp) (AllReadyH.cons (by simp only [List.getElem?_toArray, List.getElem?_cons_succ, List.getElem?_cons_zero]; rfl) (fun K hK => ?_) AllReadyH.nil)
          go_simp
          refine hK.out _ _ (KK.out.1 _ _ hHeld) (fun hHeld => ?_); clear hK K; try simp only [Act.put, List.setIfInBounds_toArray, List.set_cons_zero, List.set_cons_succ]
          obtain ⟨gy, hgy⟩ : ∃ g, g = w31.heap.size := ⟨_, rfl⟩
          have R32 := Lib.hid (And.intro (R31.out.1.keep (below_al w31 (.cells #[.bool false, .slice none 0 0] 24))) (And.intro (R31.out.2.1.keep (below_al w31 (.cells #[.bool false, .slice none 0 0] 24))) (And.intro (R31.out.2.2.1) (And.intro (R31.out.2.2.2.1.keep (below_al w31 (.cells #[.bool false, .slice none 0 0] 24))) (And.intro (R31.out.2.2.2.2.keep (below_al w31 (.cells #[.bool false, .slice none 0 0] 24))) (And.intro (Bx.new 24 w31 (.bool false) (.slice none 0 0)) (And.intro (R31.out.1.out.size) ((Nat.ne_of_lt R31.out.2.1.lt)))))))))
          generalize w31.alloc _ = W32 at R32 hHeld ⊢; rw [← hgy] at R32 ⊢; clear hgy 
          refine wpAnyH_ready (rs := [6]) (by kernel_rfl) (by simp) (AllReadyH.cons (by simp only [List.getElem?_toArray, List.getElem?_cons_succ, List.getElem?_cons_zero]; rfl) (fun K hK => ?_) AllReadyH.nil)
          obtain ⟨fa, fb, fc, fd⟩ := R32.out.2.1.facts; go_simp; clear fa fb fc fd
          refine hK.out _ _ (KK.out.2 _ _ _ _ (R32.out.2.2.1) hHeld) (fun hHeld => ?_); clear hK K; try simp only [Act.put, List.setIfInBounds_toArray, List.set_cons_zero, List.set_cons_succ]
          have R33 := Lib.hid (And.intro (R32.out.1.put R32.out.2.1 R32.out.2.2.1 (.bool pa) (.slice Ax lx cx)) (And.intro (R32.out.2.1.set (.bool pa) (.slice Ax lx cx)) (And.intro (R32.out.2.2.1) (And.intro (R32.out.2.2.2.1.put R32.out.2.1 (.bool pa) (.slice Ax lx cx)) (And.intro (R32.out.2.2.2.2.1.put R32.out.2.1 (.bool pa) (.slice Ax lx cx)) (And.intro (R32.out.2.2.2.2.2.1.other2 (R32.out.2.2.2.2.2.2.2) (.bool pa) (.slice Ax lx cx)) (And.intro (R32.out.2.2.2.2.2.2.1) ((R32.out.2.2.2.2.2.2.2)))))))))
          generalize (W32.setCell _ _).setCell _ _ = W33 at R33 hHeld ⊢
          refine wpAnyH_ready (rs := [7]) (by kernel_rfl) (by simp) (AllReadyH.cons (by simp only [List.getElem?_toArray, List.getElem?_cons_succ, List.getElem?_cons_zero]; rfl) (fun K hK => ?_) AllReadyH.nil)
          obtain ⟨fa, fb, fc, fd⟩ := R33.out.2.2.2.2.2.1.facts; go_simp; clear fa fb fc fd
          refine hK.out _ _ (KK.out.2 _ _ _ _ (R33.out.2.2.2.2.2.2.1) hHeld) (fun hHeld => ?_); clear hK K; try simp only [Act.put, List.setIfInBounds_toArray, List.set_cons_zero, List.set_cons_succ]
          have R34 := Lib.hid (And.intro (R33.out.1.put R33.out.2.2.2.2.2.1 R33.out.2.2.2.2.2.2.1 (.bool pb) (.slice Ay ly cy)) (And.intro (R33.out.2.1.other2 (Ne.symm R33.out.2.2.2.2.2.2.2) (.bool pb) (.slice Ay ly cy)) (And.intro (R33.out.2.2.1) (And.intro (R33.out.2.2.2.1.put R33.out.2.2.2.2.2.1 (.bool pb) (.slice Ay ly cy)) (And.intro (R33.out.2.2.2.2.1.put R33.out.2.2.2.2.2.1 (.bool pb) (.slice Ay ly cy)) (And.intro (R33.out.2.2.2.2.2.1.set (.bool pb) (.slice Ay ly cy)) (And.intro (R33.out.2.2.2.2.2.2.1) ((R33.out.2.2.2.2.2.2.2)))))))))
          generalize (W33.setCell _ _).setCell _ _ = W34 at R34 hHeld ⊢
          refine wpAnyH_done (by kernel_rfl) ?_ _; clear hHeld
          go_wp2_with fail; go_meet
          exact ⟨_, _, _, _, _, _, _, _, _, _, rfl, rfl, R34.out.1, R34.out.2.1, R34.out.2.2.2.2.2.1, R34.out.2.2.2.1, R34.out.2.2.2.2.1⟩
        ·
          go_simp
          refine hK.out _ _ (KK.out.1 _ _ hHeld) (fun hHeld => ?_); clear hK K; try simp only [Act.put, List.setIfInBounds_toArray, List.set_cons_zero, List.set_cons_succ]
          obtain ⟨gy, hgy⟩ : ∃ g, g = w30.heap.size := ⟨_, rfl⟩
          have R35 := Lib.hid (And.intro (R30.out.1.keep (below_al w30 (.cells #[.bool false, .slice none 0 0] 24))) (And.intro (R30.out.2.1.keep (below_al w30 (.cells #[.bool false, .slice none 0 0] 24))) (And.intro (R30.out.2.2.1) (And.intro (R30.out.2.2.2.keep (below_al w30 (.cells #[.bool false, .slice none 0 0] 24))) (And.intro (Bx.new 24 w30 (.bool false) (.slice none 0 0)) (And.intro (R30.out.1.out.size) ((Nat.ne_of_lt R30.out.2.1.lt))))))))
          generalize w30.alloc _ = W35 at R35 hHeld ⊢; rw [← hgy] at R35 ⊢; clear hgy 
          refine wpAnyH_ready (rs := [3]) (by kernel_rfl) (by simp) (AllReadyH.cons (by simp only [List.getElem?_toArray, List.getElem?_cons_succ, List.getElem?_cons_zero]; rfl) (fun K hK => ?_) AllReadyH.nil)
          go_simp
          go_at_call 14; refine (copy_z (S3.out.2.2.1.keep R35.out.1) (by have := HG.out; omega)).mono ?_; rintro e w36 ⟨v, rfl, h, hb⟩
          obtain ⟨Ay, ly, cy, rfl, -, h⟩ := h.parts
          have R36 := Lib.hid (And.intro (R35.out.1.keep (hb)) (And.intro (R35.out.2.1.keep (hb)) (And.intro (R35.out.2.2.1) (And.intro (R35.out.2.2.2.1.keep (hb)) (And.intro (R35.out.2.2.2.2.1.keep (hb)) (And.intro (R35.out.2.2.2.2.2.1) (And.intro (R35.out.2.2.2.2.2.2) ((h.out)))))))))
          have hN : w36.cell? ⟨w.heap.size, 0, none⟩ = some (.bool pa) ∧ w36.cell? ⟨w.heap.size, 1, none⟩ = some (.slice Aa na ca) ∧ w36.cell? ⟨w.heap.size + 1, 0, none⟩ = some (.bool pb) ∧ w36.cell? ⟨w.heap.size + 1, 1, none⟩ = some (.slice Ab nb cb) := ⟨((S3.out.2.2.2.2.2.1.keep R36.out.1)).facts.1, ((S3.out.2.2.2.2.2.1.keep R36.out.1)).facts.2.1, ((S3.out.2.2.2.2.2.2.1.keep R36.out.1)).facts.1, ((S3.out.2.2.2.2.2.2.1.keep R36.out.1)).facts.2.1⟩
          clear hHeld h hb
          go_wp2_with fail
          refine hK.out _ _ hN (fun hHeld => ?_); clear hK K hN; try simp only [Act.put, List.setIfInBounds_toArray, List.set_cons_zero, List.set_cons_succ]
          refine wpAnyH_ready (rs := [6]) (by kernel_rfl) (by simp) (AllReadyH.cons (by simp only [List.getElem?_toArray, List.getElem?_cons_succ, List.getElem?_cons_zero]; rfl) (fun K hK => ?_) AllReadyH.nil)
          obtain ⟨fa, fb, fc, fd⟩ := R36.out.2.1.facts; go_simp; clear fa fb fc fd
          refine hK.out _ _ (KK.out.2 _ _ _ _ (R36.out.2.2.1) hHeld) (fun hHeld => ?_); clear hK K; try simp only [Act.put, List.setIfInBounds_toArray, List.set_cons_zero, List.set_cons_succ]
          have R37 := Lib.hid (And.intro (R36.out.1.put R36.out.2.1 R36.out.2.2.1 (.bool pa) (.slice Ax lx cx)) (And.intro (R36.out.2.1.set (.bool pa) (.slice Ax lx cx)) (And.intro (R36.out.2.2.1) (And.intro (R36.out.2.2.2.1.put R36.out.2.1 (.bool pa) (.slice Ax lx cx)) (And.intro (R36.out.2.2.2.2.1.other2 (R36.out.2.2.2.2.2.2.1) (.bool pa) (.slice Ax lx cx)) (And.intro (R36.out.2.2.2.2.2.1) (And.intro (R36.out.2.2.2.2.2.2.1) ((R36.out.2.2.2.2.2.2.2.put R36.out.2.1 (.bool pa) (.slice Ax lx cx))))))))))
          generalize (w36.setCell _ _).setCell _ _ = W37 at R37 hHeld ⊢
          refine wpAnyH_ready (rs := [7]) (by kernel_rfl) (by simp) (AllReadyH.cons (by simp only [List.getElem?_toArray, List.getElem?_cons_succ, List.getElem?_cons_zero]; rfl) (fun K hK => ?_) AllReadyH.nil)
          obtain ⟨fa, fb, fc, fd⟩ := R37.out.2.2.2.2.1.facts; go_simp; clear fa fb fc fd
          refine hK.out _ _ (KK.out.2 _ _ _ _ (R37.out.2.2.2.2.2.1) hHeld) (fun hHeld => ?_); clear hK K; try simp only [Act.put, List.setIfInBounds_toArray, List.set_cons_zero, List.set_cons_succ]
          have R38 := Lib.hid (And.intro (R37.out.1.put R37.out.2.2.2.2.1 R37.out.2.2.2.2.2.1 (.bool pb) (.slice Ay ly cy)) (And.intro (R37.out.2.1.other2 (Ne.symm R37.out.2.2.2.2.2.2.1) (.bool pb) (.slice Ay ly cy)) (And.intro (R37.out.2.2.1) (And.intro (R37.out.2.2.2.1.put R37.out.2.2.2.2.1 (.bool pb) (.slice Ay ly cy)) (And.intro (R37.out.2.2.2.2.1.set (.bool pb) (.slice Ay ly cy)) (And.intro (R37.out.2.2.2.2.2.1) (And.intro (R37.out.2.2.2.2.2.2.1) ((R37.out.2.2.2.2.2.2.2.put R37.out.2.2.2.2.1 (.bool pb) (.slice Ay ly cy))))))))))
          generalize (W37.setCell _ _).setCell _ _ = W38 at R38 hHeld ⊢
          refine wpAnyH_done (by kernel_rfl) ?_ _; clear hHeld
          go_wp2_with fail; go_meet
          exact ⟨_, _, _, _, _, _, _, _, _, _, rfl, rfl, R38.out.1, R38.out.2.1, R38.out.2.2.2.2.1, R38.out.2.2.2.1, R38.out.2.2.2.2.2.2.2⟩
      ·
        go_simp
        refine hK.out _ _ (KK.out.1 _ _ hHeld) (fun hHeld => ?_); clear hK K; try simp only [Act.put, List.setIfInBounds_toArray, List.set_cons_zero, List.set_cons_succ]
        obtain ⟨gy, hgy⟩ : ∃ g, g = W29.heap.size := ⟨_, rfl⟩
        have R39 := Lib.hid (And.intro (R29.out.1.keep (below_al W29 (.cells #[.bool false, .slice none 0 0] 24))) (And.intro (R29.out.2.1.keep (below_al W29 (.cells #[.bool false, .slice none 0 0] 24))) (And.intro (R29.out.2.2) (And.intro (Bx.new 24 W29 (.bool false) (.slice none 0 0)) (And.intro (R29.out.1.out.size) ((Nat.ne_of_lt R29.out.2.1.lt)))))))
        generalize W29.alloc _ = W39 at R39 hHeld ⊢; rw [← hgy] at R39 ⊢; clear hgy 
        refine wpAnyH_ready (rs := [1]) (by kernel_rfl) (by simp) (AllReadyH.cons (by simp only [List.getElem?_toArray, List.getElem?_cons_succ, List.getElem?_cons_zero]; rfl) (fun K hK => ?_) AllReadyH.nil)
        go_simp
        go_at_call 14; refine (copy_z (S3.out.2.1.keep R39.out.1) (by have := HG.out; omega)).mono ?_; rintro e w40 ⟨v, rfl, h, hb⟩
        obtain ⟨Ax, lx, cx, rfl, -, h⟩ := h.parts
        have R40 := Lib.hid (And.intro (R39.out.1.keep (hb)) (And.intro (R39.out.2.1.keep (hb)) (And.intro (R39.out.2.2.1) (And.intro (R39.out.2.2.2.1.keep (hb)) (And.intro (R39.out.2.2.2.2.1) (And.intro (R39.out.2.2.2.2.2) ((h.out))))))))
        have hN : w40.cell? ⟨w.heap.size, 0, none⟩ = some (.bool pa) ∧ w40.cell? ⟨w.heap.size, 1, none⟩ = some (.slice Aa na ca) ∧ w40.cell? ⟨w.heap.size + 1, 0, none⟩ = some (.bool pb) ∧ w40.cell? ⟨w.heap.size + 1, 1, none⟩ = some (.slice Ab nb cb) := ⟨((S3.out.2.2.2.2.2.1.keep R40.out.1)).facts.1, ((S3.out.2.2.2.2.2.1.keep R40.out.1)).facts.2.1, ((S3.out.2.2.2.2.2.2.1.keep R40.out.1)).facts.1, ((S3.out.2.2.2.2.2.2.1.keep R40.out.1)).facts.2.1⟩
        clear hHeld h hb
        go_wp2_with fail
        refine hK.out _ _ hN (fun hHeld => ?_); clear hK K hN; try simp only [Act.put, List.setIfInBounds_toArray, List.set_cons_zero, List.set_cons_succ]
        refine wpAnyH_ready (rs := [3]) (by kernel_rfl) (by simp) (AllReadyH.cons (by simp only [List.getElem?_toArray, List.getElem?_cons_succ, List.getElem?_cons_zero]; rfl) (fun K hK => ?_) AllReadyH.nil)
        go_simp
        go_at_call 14; refine (copy_z (S3.out.2.2.1.keep R40.out.1) (by have := HG.out; omega)).mono ?_; rintro e w41 ⟨v, rfl, h, hb⟩
        obtain ⟨Ay, ly, cy, rfl, -, h⟩ := h.parts
        have R41 := Lib.hid (And.intro (R40.out.1.keep (hb)) (And.intro (R40.out.2.1.keep (hb)) (And.intro (R40.out.2.2.1) (And.intro (R40.out.2.2.2.1.keep (hb)) (And.intro (R40.out.2.2.2.2.1) (And.intro (R40.out.2.2.2.2.2.1) (And.intro (R40.out.2.2.2.2.2.2.keep (hb)) ((h.out)))))))))
        have hN : w41.cell? ⟨w.heap.size, 0, none⟩ = some (.bool pa) ∧ w41.cell? ⟨w.heap.size, 1, none⟩ = some (.slice Aa na ca) ∧ w41.cell? ⟨w.heap.size + 1, 0, none⟩ = some (.bool pb) ∧ w41.cell? ⟨w.heap.size + 1, 1, none⟩ = some (.slice Ab nb cb) := ⟨((S3.out.2.2.2.2.2.1.keep R41.out.1)).facts.1, ((S3.out.2.2.2.2.2.1.keep R41.out.1)).facts.2.1, ((S3.out.2.2.2.2.2.2.1.keep R41.out.1)).facts.1, ((S3.out.2.2.2.2.2.2.1.keep R41.out.1)).facts.2.1⟩
        clear hHeld h hb
        go_wp2_with fail
        refine hK.out _ _ hN (fun hHeld => ?_); clear hK K hN; try simp only [Act.put, List.setIfInBounds_toArray, List.set_cons_zero, List.set_cons_succ]
        refine wpAnyH_ready (rs := [6]) (by kernel_rfl) (by simp) (AllReadyH.cons (by simp only [List.getElem?_toArray, List.getElem?_cons_succ, List.getElem?_cons_zero]; rfl) (fun K hK => ?_) AllReadyH.nil)
        obtain ⟨fa, fb, fc, fd⟩ := R41.out.2.1.facts; go_simp; clear fa fb fc fd
        refine hK.out _ _ (KK.out.2 _ _ _ _ (R41.out.2.2.1) hHeld) (fun hHeld => ?_); clear hK K; try simp only [Act.put, List.setIfInBounds_toArray, List.set_cons_zero, List.set_cons_succ]
        have R42 := Lib.hid (And.intro (R41.out.1.put R41.out.2.1 R41.out.2.2.1 (.bool pa) (.slice Ax lx cx)) (And.intro (R41.out.2.1.set (.bool pa) (.slice Ax lx cx)) (And.intro (R41.out.2.2.1) (And.intro (R41.out.2.2.2.1.other2 (R41.out.2.2.2.2.2.1) (.bool pa) (.slice Ax lx cx)) (And.intro (R41.out.2.2.2.2.1) (And.intro (R41.out.2.2.2.2.2.1) (And.intro (R41.out.2.2.2.2.2.2.1.put R41.out.2.1 (.bool pa) (.slice Ax lx cx)) ((R41.out.2.2.2.2.2.2.2.put R41.out.2.1 (.bool pa) (.slice Ax lx cx))))))))))
        generalize (w41.setCell _ _).setCell _ _ = W42 at R42 hHeld ⊢
        refine wpAnyH_ready (rs := [7]) (by kernel_rfl) (by simp) (AllReadyH.cons (by simp only [List.getElem?_toArray, List.getElem?_cons_succ, List.getElem?_cons_zero]; rfl) (fun K hK => ?_) AllReadyH.nil)
        obtain ⟨fa, fb, fc, fd⟩ := R42.out.2.2.2.1.facts; go_simp; clear fa fb fc fd
        refine hK.out _ _ (KK.out.2 _ _ _ _ (R42.out.2.2.2.2.1) hHeld) (fun hHeld => ?_); clear hK K; try simp only [Act.put, List.setIfInBounds_toArray, List.set_cons_zero, List.set_cons_succ]
        have R43 := Lib.hid (And.intro (R42.out.1.put R42.out.2.2.2.1 R42.out.2.2.2.2.1 (.bool pb) (.slice Ay ly cy)) (And.intro (R42.out.2.1.other2 (Ne.symm R42.out.2.2.2.2.2.1) (.bool pb) (.slice Ay ly cy)) (And.intro (R42.out.2.2.1) (And.intro (R42.out.2.2.2.1.set (.bool pb) (.slice Ay ly cy)) (And.intro (R42.out.2.2.2.2.1) (And.intro (R42.out.2.2.2.2.2.1) (And.intro (R42.out.2.2.2.2.2.2.1.put R42.out.2.2.2.1 (.bool pb) (.slice Ay ly cy)) ((R42.out.2.2.2.2.2.2.2.put R42.out.2.2.2.1 (.bool pb) (.slice Ay ly cy))))))))))
        generalize (W42.setCell _ _).setCell _ _ = W43 at R43 hHeld ⊢
        refine wpAnyH_done (by kernel_rfl) ?_ _; clear hHeld
        go_wp2_with fail; go_meet
        exact ⟨_, _, _, _, _, _, _, _, _, _, rfl, rfl, R43.out.1, R43.out.2.1, R43.out.2.2.2.1, R43.out.2.2.2.2.2.2.1, R43.out.2.2.2.2.2.2.2⟩
    ·
      go_simp
      refine hK.out _ _ (KK.out.1 _ _ hHeld) (fun hHeld => ?_); clear hK K; try simp only [Act.put, List.setIfInBounds_toArray, List.set_cons_zero, List.set_cons_succ]
      obtain ⟨gy, hgy⟩ : ∃ g, g = Wd.heap.size := ⟨_, rfl⟩
      have R44 := Lib.hid (And.intro (R0.out.keep (below_al Wd (.cells #[.bool false, .slice none 0 0] 24))) (And.intro (Bx.new 24 Wd (.bool false) (.slice none 0 0)) ((R0.out.out.size))))
      generalize Wd.alloc _ = W44 at R44 hHeld ⊢; rw [← hgy] at R44 ⊢; clear hgy 
      refine wpAnyH_ready (rs := [1, 4]) (by kernel_rfl) (by simp) (AllReadyH.cons (by simp only [List.getElem?_toArray, List.getElem?_cons_succ, List.getElem?_cons_zero]; rfl) (fun K hK => ?_) (AllReadyH.cons (by simp only [List.getElem?_toArray, List.getElem?_cons_succ, List.getElem?_cons_zero]; rfl) (fun K hK => ?_) AllReadyH.nil))
      ·
        go_simp
        go_at_call 14; refine (copy_z (S3.out.2.1.keep R44.out.1) (by have := HG.out; omega)).mono ?_; rintro e w45 ⟨v, rfl, h, hb⟩
        obtain ⟨Ax, lx, cx, rfl, -, h⟩ := h.parts
        have R45 := Lib.hid (And.intro (R44.out.1.keep (hb)) (And.intro (R44.out.2.1.keep (hb)) (And.intro (R44.out.2.2) ((h.out)))))
        have hN : w45.cell? ⟨w.heap.size, 0, none⟩ = some (.bool pa) ∧ w45.cell? ⟨w.heap.size, 1, none⟩ = some (.slice Aa na ca) ∧ w45.cell? ⟨w.heap.size + 1, 0, none⟩ = some (.bool pb) ∧ w45.cell? ⟨w.heap.size + 1, 1, none⟩ = some (.slice Ab nb cb) := ⟨((S3.out.2.2.2.2.2.1.keep R45.out.1)).facts.1, ((S3.out.2.2.2.2.2.1.keep R45.out.1)).facts.2.1, ((S3.out.2.2.2.2.2.2.1.keep R45.out.1)).facts.1, ((S3.out.2.2.2.2.2.2.1.keep R45.out.1)).facts.2.1⟩
        clear hHeld h hb
        go_wp2_with fail
        refine hK.out _ _ hN (fun hHeld => ?_); clear hK K hN; try simp only [Act.put, List.setIfInBounds_toArray, List.set_cons_zero, List.set_cons_succ]
        refine wpAnyH_ready (rs := [3, 4]) (by kernel_rfl) (by simp) (AllReadyH.cons (by simp only [List.getElem?_toArray, List.getElem?_cons_succ, List.getElem?_cons_zero]; rfl) (fun K hK => ?_) (AllReadyH.cons (by simp only [List.getElem?_toArray, List.getElem?_cons_succ, List.getElem?_cons_zero]; rfl) (fun K hK => ?_) AllReadyH.nil))
        ·
          go_simp
          go_at_call 14; refine (copy_z (S3.out.2.2.1.keep R45.out.1) (by have := HG.out; omega)).mono ?_; rintro e w46 ⟨v, rfl, h, hb⟩
          obtain ⟨Ay, ly, cy, rfl, -, h⟩ := h.parts
          have R46 := Lib.hid (And.intro (R45.out.1.keep (hb)) (And.intro (R45.out.2.1.keep (hb)) (And.intro (R45.out.2.2.1) (And.intro (R45.out.2.2.2.keep (hb)) ((h.out))))))
          have hN : w46.cell? ⟨w.heap.size, 0, none⟩ = some (.bool pa) ∧ w46.cell? ⟨w.heap.size, 1, none⟩ = some (.slice Aa na ca) ∧ w46.cell? ⟨w.heap.size + 1, 0, none⟩ = some (.bool pb) ∧ w46.cell? ⟨w.heap.size + 1, 1, none⟩ = some (.slice Ab nb cb) := ⟨((S3.out.2.2.2.2.2.1.keep R46.out.1)).facts.1, ((S3.out.2.2.2.2.2.1.keep R46.out.1)).facts.2.1, ((S3.out.2.2.2.2.2.2.1.keep R46.out.1)).facts.1, ((S3.out.2.2.2.2.2.2.1.keep R46.out.1)).facts.2.1⟩
          clear hHeld h hb
          go_wp2_with fail
          refine hK.out _ _ hN (fun hHeld => ?_); clear hK K hN; try simp only [Act.put, List.setIfInBounds_toArray, List.set_cons_zero, List.set_cons_succ]
          refine wpAnyH_ready (rs := [4]) (by kernel_rfl) (by simp) (AllReadyH.cons (by simp only [List.getElem?_toArray, List.getElem?_cons_succ, List.getElem?_cons_zero]; rfl) (fun K hK => ?_) AllReadyH.nil)
          go_simp
          refine hK.out _ _ (KK.out.1 _ _ hHeld) (fun hHeld => ?_); clear hK K; try simp only [Act.put, List.setIfInBounds_toArray, List.set_cons_zero, List.set_cons_succ]
          obtain ⟨gx, hgx⟩ : ∃ g, g = w46.heap.size := ⟨_, rfl⟩
          have R47 := Lib.hid (And.intro (R46.out.1.keep (below_al w46 (.cells #[.bool false, .slice none 0 0] 24))) (And.intro (R46.out.2.1.keep (below_al w46 (.cells #[.bool false, .slice none 0 0] 24))) (And.intro (R46.out.2.2.1) (And.intro (R46.out.2.2.2.1.keep (below_al w46 (.cells #[.bool false, .slice none 0 0] 24))) (And.intro (R46.out.2.2.2.2.keep (below_al w46 (.cells #[.bool false, .slice none 0 0] 24))) (And.intro (Bx.new 24 w46 (.bool false) (.slice none 0 0)) (And.intro (R46.out.1.out.size) ((Nat.ne_of_lt R46.out.2.1.lt)))))))))
          generalize w46.alloc _ = W47 at R47 hHeld ⊢; rw [← hgx] at R47 ⊢; clear hgx 
          refine wpAnyH_ready (rs := [6]) (by kernel_rfl) (by simp) (AllReadyH.cons (by simp only [List.getElem?_toArray, List.getElem?_cons_succ, List.getElem?_cons_zero]; rfl) (fun K hK => ?_) AllReadyH.nil)
          obtain ⟨fa, fb, fc, fd⟩ := R47.out.2.2.2.2.2.1.facts; go_simp; clear fa fb fc fd
          refine hK.out _ _ (KK.out.2 _ _ _ _ (R47.out.2.2.2.2.2.2.1) hHeld) (fun hHeld => ?_); clear hK K; try simp only [Act.put, List.setIfInBounds_toArray, List.set_cons_zero, List.set_cons_succ]
          have R48 := Lib.hid (And.intro (R47.out.1.put R47.out.2.2.2.2.2.1 R47.out.2.2.2.2.2.2.1 (.bool pa) (.slice Ax lx cx)) (And.intro (R47.out.2.1.other2 (Ne.symm R47.out.2.2.2.2.2.2.2) (.bool pa) (.slice Ax lx cx)) (And.intro (R47.out.2.2.1) (And.intro (R47.out.2.2.2.1.put R47.out.2.2.2.2.2.1 (.bool pa) (.slice Ax lx cx)) (And.intro (R47.out.2.2.2.2.1.put R47.out.2.2.2.2.2.1 (.bool pa) (.slice Ax lx cx)) (And.intro (R47.out.2.2.2.2.2.1.set (.bool pa) (.slice Ax lx cx)) (And.intro (R47.out.2.2.2.2.2.2.1) ((R47.out.2.2.2.2.2.2.2)))))))))
          generalize (W47.setCell _ _).setCell _ _ = W48 at R48 hHeld ⊢
          refine wpAnyH_ready (rs := [7]) (by kernel_rfl) (by simp) (AllReadyH.cons (by simp only [List.getElem?_toArray, List.getElem?_cons_succ, List.getElem?_cons_zero]; rfl) (fun K hK => ?_) AllReadyH.nil)
          obtain ⟨fa, fb, fc, fd⟩ := R48.out.2.1.facts; go_simp; clear fa fb fc fd
          refine hK.out _ _ (KK.out.2 _ _ _ _ (R48.out.2.2.1) hHeld) (fun hHeld => ?_); clear hK K; try simp only [Act.put, List.setIfInBounds_toArray, List.set_cons_zero, List.set_cons_succ]
          have R49 := Lib.hid (And.intro (R48.out.1.put R48.out.2.1 R48.out.2.2.1 (.bool pb) (.slice Ay ly cy)) (And.intro (R48.out.2.1.set (.bool pb) (.slice Ay ly cy)) (And.intro (R48.out.2.2.1) (And.intro (R48.out.2.2.2.1.put R48.out.2.1 (.bool pb) (.slice Ay ly cy)) (And.intro (R48.out.2.2.2.2.1.put R48.out.2.1 (.bool pb) (.slice Ay ly cy)) (And.intro (R48.out.2.2.2.2.2.1.other2 (R48.out.2.2.2.2.2.2.2) (.bool pb) (.slice Ay ly cy)) (And.intro (R48.out.2.2.2.2.2.2.1) ((R48.out.2.2.2.2.2.2.2)))))))))
          generalize (W48.setCell _ _).setCell _ _ = W49 at R49 hHeld ⊢
          refine wpAnyH_done (by kernel_rfl) ?_ _; clear hHeld
          go_wp2_with fail; go_meet
          exact ⟨_, _, _, _, _, _, _, _, _, _, rfl, rfl, R49.out.1, R49.out.2.2.2.2.2.1, R49.out.2.1, R49.out.2.2.2.1, R49.out.2.2.2.2.1⟩
        ·
          go_simp
          refine hK.out _ _ (KK.out.1 _ _ hHeld) (fun hHeld => ?_); clear hK K; try simp only [Act.put, List.setIfInBounds_toArray, List.set_cons_zero, List.set_cons_succ]
          obtain ⟨gx, hgx⟩ : ∃ g, g = w45.heap.size := ⟨_, rfl⟩
          have R50 := Lib.hid (And.intro (R45.out.1.keep (below_al w45 (.cells #[.bool false, .slice none 0 0] 24))) (And.intro (R45.out.2.1.keep (below_al w45 (.cells #[.bool false, .slice none 0 0] 24))) (And.intro (R45.out.2.2.1) (And.intro (R45.out.2.2.2.keep (below_al w45 (.cells #[.bool false, .slice none 0 0] 24))) (And.intro (Bx.new 24 w45 (.bool false) (.slice none 0 0)) (And.intro (R45.out.1.out.size) ((Nat.ne_of_lt R45.out.2.1.lt))))))))
          generalize w45.alloc _ = W50 at R50 hHeld ⊢; rw [← hgx] at R50 ⊢; clear hgx 
          refine wpAnyH_ready (rs := [3]) (by kernel_rfl) (by simp) (AllReadyH.cons (by simp only [List.getElem?_toArray, List.getElem?_cons_succ, List.getElem?_cons_zero]; rfl) (fun K hK => ?_) AllReadyH.nil)
          go_simp
          go_at_call 14; refine (copy_z (S3.out.2.2.1.keep R50.out.1) (by have := HG.out; omega)).mono ?_; rintro e w51 ⟨v, rfl, h, hb⟩
          obtain ⟨Ay, ly, cy, rfl, -, h⟩ := h.parts
          have R51 := Lib.hid (And.intro (R50.out.1.keep (hb)) (And.intro (R50.out.2.1.keep (hb)) (And.intro (R50.out.2.2.1) (And.intro (R50.out.2.2.2.1.keep (hb)) (And.intro (R50.out.2.2.2.2.1.keep (hb)) (And.intro (R50.out.2.2.2.2.2.1) (And.intro (R50.out.2.2.2.2.2.2) ((h.out)))))))))
          have hN : w51.cell? ⟨w.heap.size, 0, none⟩ = some (.bool pa) ∧ w51.cell? ⟨w.heap.size, 1, none⟩ = some (.slice Aa na ca) ∧ w51.cell? ⟨w.heap.size + 1, 0, none⟩ = some (.bool pb) ∧ w51.cell? ⟨w.heap.size + 1, 1, none⟩ = some (.slice Ab nb cb) := ⟨((S3.out.2.2.2.2.2.1.keep R51.out.1)).facts.1, ((S3.out.2.2.2.2.2.1.keep R51.out.1)).facts.2.1, ((S3.out.2.2.2.2.2.2.1.keep R51.out.1)).facts.1, ((S3.out.2.2.2.2.2.2.1.keep R51.out.1)).facts.2.1⟩
          clear hHeld h hb
          go_wp2_with fail
          refine hK.out _ _ hN (fun hHeld => ?_); clear hK K hN; try simp only [Act.put, List.setIfInBounds_toArray, List.set_cons_zero, List.set_cons_succ]
          refine wpAnyH_ready (rs := [6]) (by kernel_rfl) (by simp) (AllReadyH.cons (by simp only [List.getElem?_toArray, List.getElem?_cons_succ, List.getElem?_cons_zero]; rfl) (fun K hK => ?_) AllReadyH.nil)
          obtain ⟨fa, fb, fc, fd⟩ := R51.out.2.2.2.2.1.facts; go_simp; clear fa fb fc fd
          refine hK.out _ _ (KK.out.2 _ _ _ _ (R51.out.2.2.2.2.2.1) hHeld) (fun hHeld => ?_); clear hK K; try simp only [Act.put, List.setIfInBounds_toArray, List.set_cons_zero, List.set_cons_succ]
          have R52 := Lib.hid (And.intro (R51.out.1.put R51.out.2.2.2.2.1 R51.out.2.2.2.2.2.1 (.bool pa) (.slice Ax lx cx)) (And.intro (R51.out.2.1.other2 (Ne.symm R51.out.2.2.2.2.2.2.1) (.bool pa) (.slice Ax lx cx)) (And.intro (R51.out.2.2.1) (And.intro (R51.out.2.2.2.1.put R51.out.2.2.2.2.1 (.bool pa) (.slice Ax lx cx)) (And.intro (R51.out.2.2.2.2.1.set (.bool pa) (.slice Ax lx cx)) (And.intro (R51.out.2.2.2.2.2.1) (And.intro (R51.out.2.2.2.2.2.2.1) ((R51.out.2.2.2.2.2.2.2.put R51.out.2.2.2.2.1 (.bool pa) (.slice Ax lx cx))))))))))
          generalize (w51.setCell _ _).setCell _ _ = W52 at R52 hHeld ⊢
          refine wpAnyH_ready (rs := [7]) (by kernel_rfl) (by simp) (AllReadyH.cons (by simp only [List.getElem?_toArray, List.getElem?_cons_succ, List.getElem?_cons_zero]; rfl) (fun K hK => ?_) AllReadyH.nil)
          obtain ⟨fa, fb, fc, fd⟩ := R52.out.2.1.facts; go_simp; clear fa fb fc fd
          refine hK.out _ _ (KK.out.2 _ _ _ _ (R52.out.2.2.1) hHeld) (fun hHeld => ?_); clear hK K; try simp only [Act.put, List.setIfInBounds_toArray, List.set_cons_zero, List.set_cons_succ]
          have R53 := Lib.hid (And.intro (R52.out.1.put R52.out.2.1 R52.out.2.2.1 (.bool pb) (.slice Ay ly cy)) (And.intro (R52.out.2.1.set (.bool pb) (.slice Ay ly cy)) (And.intro (R52.out.2.2.1) (And.intro (R52.out.2.2.2.1.put R52.out.2.1 (.bool pb) (.slice Ay ly cy)) (And.intro (R52.out.2.2.2.2.1.other2 (R52.out.2.2.2.2.2.2.1) (.bool pb) (.slice Ay ly cy)) (And.intro (R52.out.2.2.2.2.2.1) (And.intro (R52.out.2.2.2.2.2.2.1) ((R52.out.2.2.2.2.2.2.2.put R52.out.2.1 (.bool pb) (.slice Ay ly cy))))))))))
          generalize (W52.setCell _ _).setCell _ _ = W53 at R53 hHeld ⊢
          refine wpAnyH_done (by kernel_rfl) ?_ _; clear hHeld
          go_wp2_with fail; go_meet
          exact ⟨_, _, _, _, _, _, _, _, _, _, rfl, rfl, R53.out.1, R53.out.2.2.2.2.1, R53.out.2.1, R53.out.2.2.2.1, R53.out.2.2.2.2.2.2.2⟩
      ·
        go_simp
        refine hK.out _ _ (KK.out.1 _ _ hHeld) (fun hHeld => ?_); clear hK K; try simp only [Act.put, List.setIfInBounds_toArray, List.set_cons_zero, List.set_cons_succ]
        obtain ⟨gx, hgx⟩ : ∃ g, g = W44.heap.size := ⟨_, rfl⟩
        have R54 := Lib.hid (And.intro (R44.out.1.keep (below_al W44 (.cells #[.bool false, .slice none 0 0] 24))) (And.intro (R44.out.2.1.keep (below_al W44 (.cells #[.bool false, .slice none 0 0] 24))) (And.intro (R44.out.2.2) (And.intro (Bx.new 24 W44 (.bool false) (.slice none 0 0)) (And.intro (R44.out.1.out.size) ((Nat.ne_of_lt R44.out.2.1.lt)))))))
        generalize W44.alloc _ = W54 at R54 hHeld ⊢; rw [← hgx] at R54 ⊢; clear hgx 
        refine wpAnyH_ready (rs := [1]) (by kernel_rfl) (by simp) (AllReadyH.cons (by simp only [List.getElem?_toArray, List.getElem?_cons_succ, List.getElem?_cons_zero]; rfl) (fun K hK => ?_) AllReadyH.nil)
        go_simp
        go_at_call 14; refine (copy_z (S3.out.2.1.keep R54.out.1) (by have := HG.out; omega)).mono ?_; rintro e w55 ⟨v, rfl, h, hb⟩
        obtain ⟨Ax, lx, cx, rfl, -, h⟩ := h.parts
        have R55 := Lib.hid (And.intro (R54.out.1.keep (hb)) (And.intro (R54.out.2.1.keep (hb)) (And.intro (R54.out.2.2.1) (And.intro (R54.out.2.2.2.1.keep (hb)) (And.intro (R54.out.2.2.2.2.1) (And.intro (R54.out.2.2.2.2.2) ((h.out))))))))
        have hN : w55.cell? ⟨w.heap.size, 0, none⟩ = some (.bool pa) ∧ w55.cell? ⟨w.heap.size, 1, none⟩ = some (.slice Aa na ca) ∧ w55.cell? ⟨w.heap.size + 1, 0, none⟩ = some (.bool pb) ∧ w55.cell? ⟨w.heap.size + 1, 1, none⟩ = some (.slice Ab nb cb) := ⟨((S3.out.2.2.2.2.2.1.keep R55.out.1)).facts.1, ((S3.out.2.2.2.2.2.1.keep R55.out.1)).facts.2.1, ((S3.out.2.2.2.2.2.2.1.keep R55.out.1)).facts.1, ((S3.out.2.2.2.2.2.2.1.keep R55.out.1)).facts.2.1⟩
        clear hHeld h hb
        go_wp2_with fail
        refine hK.out _ _ hN (fun hHeld => ?_); clear hK K hN; try simp only [Act.put, List.setIfInBounds_toArray, List.set_cons_zero, List.set_cons_succ]
        refine wpAnyH_ready (rs := [3]) (by kernel_rfl) (by simp) (AllReadyH.cons (by simp only [List.getElem?_toArray, List.getElem?_cons_succ, List.getElem?_cons_zero]; rfl) (fun K hK => ?_) AllReadyH.nil)
        go_simp
        go_at_call 14; refine (copy_z (S3.out.2.2.1.keep R55.out.1) (by have := HG.out; omega)).mono ?_; rintro e w56 ⟨v, rfl, h, hb⟩
        obtain ⟨Ay, ly, cy, rfl, -, h⟩ := h.parts
        have R56 := Lib.hid (And.intro (R55.out.1.keep (hb)) (And.intro (R55.out.2.1.keep (hb)) (And.intro (R55.out.2.2.1) (And.intro (R55.out.2.2.2.1.keep (hb)) (And.intro (R55.out.2.2.2.2.1) (And.intro (R55.out.2.2.2.2.2.1) (And.intro (R55.out.2.2.2.2.2.2.keep (hb)) ((h.out)))))))))
        have hN : w56.cell? ⟨w.heap.size, 0, none⟩ = some (.bool pa) ∧ w56.cell? ⟨w.heap.size, 1, none⟩ = some (.slice Aa na ca) ∧ w56.cell? ⟨w.heap.size + 1, 0, none⟩ = some (.bool pb) ∧ w56.cell? ⟨w.heap.size + 1, 1, none⟩ = some (.slice Ab nb cb) := ⟨((S3.out.2.2.2.2.2.1.keep R56.out.1)).facts.1, ((S3.out.2.2.2.2.2.1.keep R56.out.1)).facts.2.1, ((S3.out.2.2.2.2.2.2.1.keep R56.out.1)).facts.1, ((S3.out.2.2.2.2.2.2.1.keep R56.out.1)).facts.2.1⟩
        clear hHeld h hb
        go_wp2_with fail
        refine hK.out _ _ hN (fun hHeld => ?_); clear hK K hN; try simp only [Act.put, List.setIfInBounds_toArray, List.set_cons_zero, List.set_cons_succ]
        refine wpAnyH_ready (rs := [6]) (by kernel_rfl) (by simp) (AllReadyH.cons (by simp only [List.getElem?_toArray, List.getElem?_cons_succ, List.getElem?_cons_zero]; rfl) (fun K hK => ?_) AllReadyH.nil)
        obtain ⟨fa, fb, fc, fd⟩ := R56.out.2.2.2.1.facts; go_simp; clear fa fb fc fd
        refine hK.out _ _ (KK.out.2 _ _ _ _ (R56.out.2.2.2.2.1) hHeld) (fun hHeld => ?_); clear hK K; try simp only [Act.put, List.setIfInBounds_toArray, List.set_cons_zero, List.set_cons_succ]
        have R57 := Lib.hid (And.intro (R56.out.1.put R56.out.2.2.2.1 R56.out.2.2.2.2.1 (.bool pa) (.slice Ax lx cx)) (And.intro (R56.out.2.1.other2 (Ne.symm R56.out.2.2.2.2.2.1) (.bool pa) (.slice Ax lx cx)) (And.intro (R56.out.2.2.1) (And.intro (R56.out.2.2.2.1.set (.bool pa) (.slice Ax lx cx)) (And.intro (R56.out.2.2.2.2.1) (And.intro (R56.out.2.2.2.2.2.1) (And.intro (R56.out.2.2.2.2.2.2.1.put R56.out.2.2.2.1 (.bool pa) (.slice Ax lx cx)) ((R56.out.2.2.2.2.2.2.2.put R56.out.2.2.2.1 (.bool pa) (.slice Ax lx cx))))))))))
        generalize (w56.setCell _ _).setCell _ _ = W57 at R57 hHeld ⊢
        refine wpAnyH_ready (rs := [7]) (by kernel_rfl) (by simp) (AllReadyH.cons (by simp only [List.getElem?_toArray, List.getElem?_cons_succ, List.getElem?_cons_zero]; rfl) (fun K hK => ?_) AllReadyH.nil)
        obtain ⟨fa, fb, fc, fd⟩ := R57.out.2.1.facts; go_simp; clear fa fb fc fd
        refine hK.out _ _ (KK.out.2 _ _ _ _ (R57.out.2.2.1) hHeld) (fun hHeld => ?_); clear hK K; try simp only [Act.put, List.setIfInBounds_toArray, List.set_cons_zero, List.set_cons_succ]
        have R58 := Lib.hid (And.intro (R57.out.1.put R57.out.2.1 R57.out.2.2.1 (.bool pb) (.slice Ay ly cy)) (And.intro (R57.out.2.1.set (.bool pb) (.slice Ay ly cy)) (And.intro (R57.out.2.2.1) (And.intro (R57.out.2.2.2.1.other2 (R57.out.2.2.2.2.2.1) (.bool pb) (.slice Ay ly cy)) (And.intro (R57.out.2.2.2.2.1) (And.intro (R57.out.2.2.2.2.2.1) (And.intro (R57.out.2.2.2.2.2.2.1.put R57.out.2.1 (.bool pb) (.slice Ay ly cy)) ((R57.out.2.2.2.2.2.2.2.put R57.out.2.1 (.bool pb) (.slice Ay ly cy))))))))))
        generalize (W57.setCell _ _).setCell _ _ = W58 at R58 hHeld ⊢
        refine wpAnyH_done (by kernel_rfl) ?_ _; clear hHeld
        go_wp2_with fail; go_meet
        exact ⟨_, _, _, _, _, _, _, _, _, _, rfl, rfl, R58.out.1, R58.out.2.2.2.1, R58.out.2.1, R58.out.2.2.2.2.2.2.1, R58.out.2.2.2.2.2.2.2⟩
  case rest =>
    obtain ⟨gx, px, Ax, lx, cx, gy, py, Ay, ly, cy, rfl, rfl, hs, h0, h1, h2, h3⟩ := hcut
    have S4 := Lib.hid (And.intro (S3.out.1.keep hs) (And.intro (S3.out.2.1.keep hs) (And.intro (S3.out.2.2.1.keep hs) (And.intro (S3.out.2.2.2.1.keep hs) (And.intro (S3.out.2.2.2.2.1.keep hs) (And.intro (S3.out.2.2.2.2.2.1.keep hs) (And.intro (S3.out.2.2.2.2.2.2.1.keep hs) (And.intro (hs) (And.intro (h0) (And.intro (h1) (And.intro (h2) (And.intro (h3) (below_trans (S3.out.2.2.2.2.2.2.2) hs)))))))))))))
    clear hs h0 h1 h2 h3 HW KK S3
    generalize wc = V4 at S4 ⊢
    have SC := S4
    obtain ⟨xa, xb, -, -⟩ := S4.out.2.2.2.2.2.2.2.2.1.facts
    obtain ⟨ya, yb, -, -⟩ := S4.out.2.2.2.2.2.2.2.2.2.1.facts
    go_wp2_with fail
    refine (divFloor_by0 (L1 := 12) (L2 := 12) (x := x) (y := y) (by rw [HX.out.1]; exact S4.out.2.2.2.2.2.2.2.2.2.2.1.zn HG.out.1) (by rw [HX.out.2]; exact S4.out.2.2.2.2.2.2.2.2.2.2.2.1.zn HG.out.2) HE.out.1).mono ?_; rintro e w5 ⟨rfl, hb⟩
    have S5 := Lib.hid (And.intro (S4.out.1.keep (hb)) (And.intro (S4.out.2.1.keep (hb)) (And.intro (S4.out.2.2.1.keep (hb)) (And.intro (S4.out.2.2.2.1.keep (hb)) (And.intro (S4.out.2.2.2.2.1.keep (hb)) (And.intro (S4.out.2.2.2.2.2.1.keep (hb)) (And.intro (S4.out.2.2.2.2.2.2.1.keep (hb)) (And.intro (S4.out.2.2.2.2.2.2.2.1.keep (hb)) (And.intro (S4.out.2.2.2.2.2.2.2.2.1.keep (hb)) (And.intro (S4.out.2.2.2.2.2.2.2.2.2.1.keep (hb)) (And.intro (S4.out.2.2.2.2.2.2.2.2.2.2.1.keep (hb)) (And.intro (S4.out.2.2.2.2.2.2.2.2.2.2.2.1.keep (hb)) (below_trans (S4.out.2.2.2.2.2.2.2.2.2.2.2.2) (hb))))))))))))))
    clear hb SC xa xb ya yb S4
    go_upto_region 7 with (fail)
    obtain ⟨h0, h1, hb⟩ := box2 w5 24 24 (.bool false) (.slice none 0 0) (.bool false) (.slice none 0 0)
    obtain ⟨gq, hgq⟩ : ∃ g, g = w5.heap.size := ⟨_, rfl⟩
    obtain ⟨gr, hgr⟩ : ∃ g, g = w5.heap.size + 1 := ⟨_, rfl⟩
    have S6 := Lib.hid (And.intro (S5.out.1.keep (hb)) (And.intro (S5.out.2.1.keep (hb)) (And.intro (S5.out.2.2.1.keep (hb)) (And.intro (S5.out.2.2.2.1.keep (hb)) (And.intro (S5.out.2.2.2.2.1.keep (hb)) (And.intro (S5.out.2.2.2.2.2.1.keep (hb)) (And.intro (S5.out.2.2.2.2.2.2.1.keep (hb)) (And.intro (S5.out.2.2.2.2.2.2.2.1.keep (hb)) (And.intro (S5.out.2.2.2.2.2.2.2.2.1.keep (hb)) (And.intro (S5.out.2.2.2.2.2.2.2.2.2.1.keep (hb)) (And.intro (S5.out.2.2.2.2.2.2.2.2.2.2.1.keep (hb)) (And.intro (S5.out.2.2.2.2.2.2.2.2.2.2.2.1.keep (hb)) (And.intro (h0) (And.intro (h1) (below_trans (S5.out.2.2.2.2.2.2.2.2.2.2.2.2) (hb))))))))))))))))
    clear hb h0 h1 S5
    generalize (w5.alloc _).alloc _ = Wq at S6 ⊢
    rw [← hgr] at S6 ⊢
    rw [← hgq] at S6 ⊢
    clear hgq hgr
    obtain ⟨ba, bb, -, -⟩ := S6.out.2.2.2.2.2.2.1.facts
    go_wp2_with fail
    refine (I.of_d S6.out.2.2.2.2.1 (by decide)).mono ?_; rintro e w7 ⟨v5, rfl, h, hb⟩
    obtain ⟨pn, An, ln, cn, rfl⟩ := Zd.pat h
    have S7 := Lib.hid (And.intro (S6.out.1.keep (hb)) (And.intro (S6.out.2.1.keep (hb)) (And.intro (S6.out.2.2.1.keep (hb)) (And.intro (S6.out.2.2.2.1.keep (hb)) (And.intro (S6.out.2.2.2.2.1.keep (hb)) (And.intro (S6.out.2.2.2.2.2.1.keep (hb)) (And.intro (S6.out.2.2.2.2.2.2.1.keep (hb)) (And.intro (S6.out.2.2.2.2.2.2.2.1.keep (hb)) (And.intro (S6.out.2.2.2.2.2.2.2.2.1.keep (hb)) (And.intro (S6.out.2.2.2.2.2.2.2.2.2.1.keep (hb)) (And.intro (S6.out.2.2.2.2.2.2.2.2.2.2.1.keep (hb)) (And.intro (S6.out.2.2.2.2.2.2.2.2.2.2.2.1.keep (hb)) (And.intro (S6.out.2.2.2.2.2.2.2.2.2.2.2.2.1.keep (hb)) (And.intro (S6.out.2.2.2.2.2.2.2.2.2.2.2.2.2.1.keep (hb)) (And.intro (h) (below_trans (S6.out.2.2.2.2.2.2.2.2.2.2.2.2.2.2) (hb)))))))))))))))))
    clear h hb ba bb S6
    go_upto_region 8 with (fail)
    obtain ⟨h0, hb⟩ := box1 w7 33 (.bool pn) (.slice An ln cn)
    obtain ⟨gn, hgn⟩ : ∃ g, g = w7.heap.size := ⟨_, rfl⟩
    have S8 := Lib.hid (And.intro (S7.out.1.keep (hb)) (And.intro (S7.out.2.1.keep (hb)) (And.intro (S7.out.2.2.1.keep (hb)) (And.intro (S7.out.2.2.2.1.keep (hb)) (And.intro (S7.out.2.2.2.2.1.keep (hb)) (And.intro (S7.out.2.2.2.2.2.1.keep (hb)) (And.intro (S7.out.2.2.2.2.2.2.1.keep (hb)) (And.intro (S7.out.2.2.2.2.2.2.2.1.keep (hb)) (And.intro (S7.out.2.2.2.2.2.2.2.2.1.keep (hb)) (And.intro (S7.out.2.2.2.2.2.2.2.2.2.1.keep (hb)) (And.intro (S7.out.2.2.2.2.2.2.2.2.2.2.1.keep (hb)) (And.intro (S7.out.2.2.2.2.2.2.2.2.2.2.2.1.keep (hb)) (And.intro (S7.out.2.2.2.2.2.2.2.2.2.2.2.2.1.keep (hb)) (And.intro (S7.out.2.2.2.2.2.2.2.2.2.2.2.2.2.1.keep (hb)) (And.intro (S7.out.2.2.2.2.2.2.2.2.2.2.2.2.2.2.1.keep (hb)) (And.intro (h0) (below_trans (S7.out.2.2.2.2.2.2.2.2.2.2.2.2.2.2.2) (hb))))))))))))))))))
    clear hb h0 S7
    generalize w7.alloc _ = Wn at S8 ⊢
    rw [← hgn] at S8 ⊢
    clear hgn
    obtain ⟨na, nb, -, -⟩ := S8.out.2.2.2.2.2.2.2.2.2.2.2.2.2.2.2.1.facts
    go_wp2_with fail
    refine (sign_dk HE.out.2 S8.out.2.2.2.2.2.2.2.2.2.2.2.2.2.2.1).mono ?_; rintro e w9 ⟨rfl, hb⟩
    have S9 := Lib.hid (And.intro (S8.out.1.keep (hb)) (And.intro (S8.out.2.1.keep (hb)) (And.intro (S8.out.2.2.1.keep (hb)) (And.intro (S8.out.2.2.2.1.keep (hb)) (And.intro (S8.out.2.2.2.2.1.keep (hb)) (And.intro (S8.out.2.2.2.2.2.1.keep (hb)) (And.intro (S8.out.2.2.2.2.2.2.1.keep (hb)) (And.intro (S8.out.2.2.2.2.2.2.2.1.keep (hb)) (And.intro (S8.out.2.2.2.2.2.2.2.2.1.keep (hb)) (And.intro (S8.out.2.2.2.2.2.2.2.2.2.1.keep (hb)) (And.intro (S8.out.2.2.2.2.2.2.2.2.2.2.1.keep (hb)) (And.intro (S8.out.2.2.2.2.2.2.2.2.2.2.2.1.keep (hb)) (And.intro (S8.out.2.2.2.2.2.2.2.2.2.2.2.2.1.keep (hb)) (And.intro (S8.out.2.2.2.2.2.2.2.2.2.2.2.2.2.1.keep (hb)) (And.intro (S8.out.2.2.2.2.2.2.2.2.2.2.2.2.2.2.1.keep (hb)) (And.intro (S8.out.2.2.2.2.2.2.2.2.2.2.2.2.2.2.2.1.keep (hb)) (below_trans (S8.out.2.2.2.2.2.2.2.2.2.2.2.2.2.2.2.2) (hb))))))))))))))))))
    clear hb na nb S8
    obtain ⟨qa, qb, -, -⟩ := S9.out.2.2.2.2.2.2.2.2.2.2.2.2.1.facts
    go_wp2_with fail
    refine (same_zo (nil_zo _) (nil_zo _) rfl).mono ?_; rintro e w10 ⟨rfl, hb⟩
    have S10 := Lib.hid (And.intro (S9.out.1.keep (hb)) (And.intro (S9.out.2.1.keep (hb)) (And.intro (S9.out.2.2.1.keep (hb)) (And.intro (S9.out.2.2.2.1.keep (hb)) (And.intro (S9.out.2.2.2.2.1.keep (hb)) (And.intro (S9.out.2.2.2.2.2.1.keep (hb)) (And.intro (S9.out.2.2.2.2.2.2.1.keep (hb)) (And.intro (S9.out.2.2.2.2.2.2.2.1.keep (hb)) (And.intro (S9.out.2.2.2.2.2.2.2.2.1.keep (hb)) (And.intro (S9.out.2.2.2.2.2.2.2.2.2.1.keep (hb)) (And.intro (S9.out.2.2.2.2.2.2.2.2.2.2.1.keep (hb)) (And.intro (S9.out.2.2.2.2.2.2.2.2.2.2.2.1.keep (hb)) (And.intro (S9.out.2.2.2.2.2.2.2.2.2.2.2.2.1.keep (hb)) (And.intro (S9.out.2.2.2.2.2.2.2.2.2.2.2.2.2.1.keep (hb)) (And.intro (S9.out.2.2.2.2.2.2.2.2.2.2.2.2.2.2.1.keep (hb)) (And.intro (S9.out.2.2.2.2.2.2.2.2.2.2.2.2.2.2.2.1.keep (hb)) (below_trans (S9.out.2.2.2.2.2.2.2.2.2.2.2.2.2.2.2.2) (hb))))))))))))))))))
    clear hb qa qb S9
    obtain ⟨ra, rb, -, -⟩ := S10.out.2.2.2.2.2.2.2.2.2.2.2.2.2.1.facts
    go_wp2_with fail
    refine (same_zo (nil_zo _) (nil_zo _) rfl).mono ?_; rintro e w11 ⟨rfl, hb⟩
    have S11 := Lib.hid (And.intro (S10.out.1.keep (hb)) (And.intro (S10.out.2.1.keep (hb)) (And.intro (S10.out.2.2.1.keep (hb)) (And.intro (S10.out.2.2.2.1.keep (hb)) (And.intro (S10.out.2.2.2.2.1.keep (hb)) (And.intro (S10.out.2.2.2.2.2.1.keep (hb)) (And.intro (S10.out.2.2.2.2.2.2.1.keep (hb)) (And.intro (S10.out.2.2.2.2.2.2.2.1.keep (hb)) (And.intro (S10.out.2.2.2.2.2.2.2.2.1.keep (hb)) (And.intro (S10.out.2.2.2.2.2.2.2.2.2.1.keep (hb)) (And.intro (S10.out.2.2.2.2.2.2.2.2.2.2.1.keep (hb)) (And.intro (S10.out.2.2.2.2.2.2.2.2.2.2.2.1.keep (hb)) (And.intro (S10.out.2.2.2.2.2.2.2.2.2.2.2.2.1.keep (hb)) (And.intro (S10.out.2.2.2.2.2.2.2.2.2.2.2.2.2.1.keep (hb)) (And.intro (S10.out.2.2.2.2.2.2.2.2.2.2.2.2.2.2.1.keep (hb)) (And.intro (S10.out.2.2.2.2.2.2.2.2.2.2.2.2.2.2.2.1.keep (hb)) (below_trans (S10.out.2.2.2.2.2.2.2.2.2.2.2.2.2.2.2.2) (hb))))))))))))))))))
    clear hb ra rb S10
    go_wp2_with fail
    go_ret
    exact ⟨rfl, S11.out.2.2.2.2.2.2.2.2.2.2.2.2.2.2.2.2⟩
set_option maxRecDepth 100000 in
set_option maxHeartbeats 2000000 in
theorem zintFloors_nz (w : World) (ht : Tab w) {a : Value} {pa : Bool} {xa : List Nat} {b : Value} {pb : Bool} {xb : List Nat} (ha : Zl w a pa xa) (la : xa.length ≤ 12) (hb : Zl w b pb xb) (lb : xb.length ≤ 12) (h0 : sg pb (val WB xb) ≠ 0) :
    Calls Tryz.prog 3 #[a, b] w fun e w' => e = .returned (.bool true) ∧ Below w.heap.size w w' := by
  obtain ⟨x, hx⟩ : ∃ x, x = sg pa (val WB xa) := ⟨_, rfl⟩
  obtain ⟨y, hy⟩ : ∃ y, y = sg pb (val WB xb) := ⟨_, rfl⟩
  have bx := zl_abs ha la
  have bv := zl_abs hb lb
  rw [← hx] at bx
  rw [← hy] at bv
  have hza := ha.zn la
  have hzb := hb.zn lb
  rw [← hx] at hza
  rw [← hy] at hzb
  rw [← hy] at h0
  have HG := Lib.hid (And.intro la lb)
  have HX := Lib.hid (And.intro hx hy)
  have hri := rest_is (x := x) h0
  have hq := quot_lt h0 bx
  obtain ⟨so, hso⟩ : ∃ so, signZ y = so := ⟨_, rfl⟩
  have d1 : (so == 0) = false := by rw [← hso]; unfold signZ; rw [if_neg h0]; split <;> rfl
  have HB := Lib.hid (And.intro hq (Nat.lt_trans hri.1 bv))
  have HE := Lib.hid (And.intro h0 hso)
  clear hri hq hso
  clear h0 bx bv
  obtain ⟨Aa, na, ca, rfl, ea, ha⟩ := ha.parts
  obtain ⟨Ab, nb, cb, rfl, eb, hb⟩ := hb.parts
  have S0 := Lib.hid (And.intro (ht) (And.intro (ha.out) (And.intro (hb.out) (And.intro (hza) (And.intro (hzb) (Below.refl w.heap.size w))))))
  clear ht hza hzb ha hb la lb ea eb hx hy
  go_enter Tryz.func3, Tryz.ntmps3
  go_upto_region 1 with (fail)
  obtain ⟨h0, h1, hb⟩ := box2 w 24 24 (.bool pa) (.slice Aa na ca) (.bool pb) (.slice Ab nb cb)
  have S1 := Lib.hid (And.intro (S0.out.1.keep (hb)) (And.intro (S0.out.2.1.keep (hb)) (And.intro (S0.out.2.2.1.keep (hb)) (And.intro (S0.out.2.2.2.1.keep (hb)) (And.intro (S0.out.2.2.2.2.1.keep (hb)) (And.intro (h0) (And.intro (h1) (below_trans (S0.out.2.2.2.2.2) (hb)))))))))
  clear hb h0 h1 S0
  generalize (w.alloc _).alloc _ = W0 at S1 ⊢
  go_wp2_with fail
  refine (speaks_z _ S1.out.1).mono ?_; rintro e w2 ⟨rfl, hb⟩
  have S2 := Lib.hid (And.intro (S1.out.1.keep (hb)) (And.intro (S1.out.2.1.keep (hb)) (And.intro (S1.out.2.2.1.keep (hb)) (And.intro (S1.out.2.2.2.1.keep (hb)) (And.intro (S1.out.2.2.2.2.1.keep (hb)) (And.intro (S1.out.2.2.2.2.2.1.keep (hb)) (And.intro (S1.out.2.2.2.2.2.2.1.keep (hb)) (below_trans (S1.out.2.2.2.2.2.2.2) (hb)))))))))
  clear hb  S1
  obtain ⟨aa, ab, -, -⟩ := S2.out.2.2.2.2.2.1.facts
  obtain ⟨ba, bb, -, -⟩ := S2.out.2.2.2.2.2.2.1.facts
  go_wp2_with fail
  refine (big_no S2.out.2.1 S2.out.2.2.1 HG.out.1 HG.out.2).mono ?_; rintro e w3 ⟨rfl, hb⟩
  have S3 := Lib.hid (And.intro (S2.out.1.keep (hb)) (And.intro (S2.out.2.1.keep (hb)) (And.intro (S2.out.2.2.1.keep (hb)) (And.intro (S2.out.2.2.2.1.keep (hb)) (And.intro (S2.out.2.2.2.2.1.keep (hb)) (And.intro (S2.out.2.2.2.2.2.1.keep (hb)) (And.intro (S2.out.2.2.2.2.2.2.1.keep (hb)) (below_trans (S2.out.2.2.2.2.2.2.2) (hb)))))))))
  clear hb aa ab ba bb S2
  have HW := Lib.hid (Since.refl w3)
  go_upto_region 5 with (fail)
  have kal : ∀ (W : World) (o : Obj), (W.cell? ⟨w.heap.size, 0, none⟩ = some (.bool pa) ∧ W.cell? ⟨w.heap.size, 1, none⟩ = some (.slice Aa na ca) ∧ W.cell? ⟨w.heap.size + 1, 0, none⟩ = some (.bool pb) ∧ W.cell? ⟨w.heap.size + 1, 1, none⟩ = some (.slice Ab nb cb)) → ((W.alloc o).cell? ⟨w.heap.size, 0, none⟩ = some (.bool pa) ∧ (W.alloc o).cell? ⟨w.heap.size, 1, none⟩ = some (.slice Aa na ca) ∧ (W.alloc o).cell? ⟨w.heap.size + 1, 0, none⟩ = some (.bool pb) ∧ (W.alloc o).cell? ⟨w.heap.size + 1, 1, none⟩ = some (.slice Ab nb cb)) := fun W o h => ⟨cell_al _ (h.1), cell_al _ (h.2.1), cell_al _ (h.2.2.1), cell_al _ (h.2.2.2)⟩
  have kst : ∀ (W : World) (g : Nat) (x y : Value), w3.heap.size ≤ g → (W.cell? ⟨w.heap.size, 0, none⟩ = some (.bool pa) ∧ W.cell? ⟨w.heap.size, 1, none⟩ = some (.slice Aa na ca) ∧ W.cell? ⟨w.heap.size + 1, 0, none⟩ = some (.bool pb) ∧ W.cell? ⟨w.heap.size + 1, 1, none⟩ = some (.slice Ab nb cb)) → (((W.setCell ⟨g, 0, none⟩ x).setCell ⟨g, 1, none⟩ y).cell? ⟨w.heap.size, 0, none⟩ = some (.bool pa) ∧ ((W.setCell ⟨g, 0, none⟩ x).setCell ⟨g, 1, none⟩ y).cell? ⟨w.heap.size, 1, none⟩ = some (.slice Aa na ca) ∧ ((W.setCell ⟨g, 0, none⟩ x).setCell ⟨g, 1, none⟩ y).cell? ⟨w.heap.size + 1, 0, none⟩ = some (.bool pb) ∧ ((W.setCell ⟨g, 0, none⟩ x).setCell ⟨g, 1, none⟩ y).cell? ⟨w.heap.size + 1, 1, none⟩ = some (.slice Ab nb cb)) := fun W g x y hg h => ⟨cell_st _ (h.1) (Nat.ne_of_lt (Nat.lt_of_lt_of_le S3.out.2.2.2.2.2.1.lt hg)), cell_st _ (h.2.1) (Nat.ne_of_lt (Nat.lt_of_lt_of_le S3.out.2.2.2.2.2.1.lt hg)), cell_st _ (h.2.2.1) (Nat.ne_of_lt (Nat.lt_of_lt_of_le S3.out.2.2.2.2.2.2.1.lt hg)), cell_st _ (h.2.2.2) (Nat.ne_of_lt (Nat.lt_of_lt_of_le S3.out.2.2.2.2.2.2.1.lt hg))⟩
  have KK := Lib.hid (And.intro kal kst)
  clear kal kst
  go_cut [5, 6] (fun s5 s6 wx => ∃ (gx : Nat) (px : Bool) (Ax : Option Addr) (lx : Nat) (cx : Nat) (gy : Nat) (py : Bool) (Ay : Option Addr) (ly : Nat) (cy : Nat), s5 = .pointer (some ⟨gx, 0, none⟩) ∧ s6 = .pointer (some ⟨gy, 0, none⟩) ∧ Since w3 wx ∧ Bx 24 wx gx (.bool px) (.slice Ax lx cx) ∧ Bx 24 wx gy (.bool py) (.slice Ay ly cy) ∧ Zl wx (.agg #[.bool px, .slice Ax lx cx]) pa xa ∧ Zl wx (.agg #[.bool py, .slice Ay ly cy]) pb xb)
  case first =>
    refine wp_region_held_drew (S := fun W => W.cell? ⟨w.heap.size, 0, none⟩ = some (.bool pa) ∧ W.cell? ⟨w.heap.size, 1, none⟩ = some (.slice Aa na ca) ∧ W.cell? ⟨w.heap.size + 1, 0, none⟩ = some (.bool pb) ∧ W.cell? ⟨w.heap.size + 1, 1, none⟩ = some (.slice Ab nb cb)) (by kernel_rfl) ⟨(S3.out.2.2.2.2.2.1.drewN 1).facts.1, (S3.out.2.2.2.2.2.1.drewN 1).facts.2.1, (S3.out.2.2.2.2.2.2.1.drewN 1).facts.1, (S3.out.2.2.2.2.2.2.1.drewN 1).facts.2.1⟩ (fun hHeld => ?_)
    refine wpAnyH_take (i := 0) (v := ?v1) (by simp only [List.getElem?_toArray, List.getElem?_cons_succ, List.getElem?_cons_zero]; rfl) (by kernel_rfl) (by kernel_rfl) (by kernel_rfl) (by exact fun _ _ _ h => h) (Or.inl ⟨by rfl, ?h1⟩) hHeld ?r1
    case h1 => (intro w hSw; (try dsimp only at hSw); (first | (go_simp; done) | (go_simp; with_reducible rfl)))
    try simp only [Act.put, List.setIfInBounds_toArray, List.set_cons_zero, List.set_cons_succ]
    refine wpAnyH_take (i := 2) (v := ?v2) (by simp only [List.getElem?_toArray, List.getElem?_cons_succ, List.getElem?_cons_zero]; rfl) (by kernel_rfl) (by kernel_rfl) (by kernel_rfl) (by exact fun _ _ _ h => h) (Or.inl ⟨by rfl, ?h2⟩) hHeld ?r2
    case h2 => (intro w hSw; (try dsimp only at hSw); (first | (go_simp; done) | (go_simp; with_reducible rfl)))
    try simp only [Act.put, List.setIfInBounds_toArray, List.set_cons_zero, List.set_cons_succ]
    have R0 := Lib.hid (show Since w3 w3.drew from HW.out.keep (below_dr _ 1))
    generalize w3.drew = Wd at R0 hHeld ⊢
    refine wpAnyH_ready (rs := [1, 4, 5]) (by kernel_rfl) (by simp) (AllReadyH.cons (by simp only [List.getElem?_toArray, List.getElem?_cons_succ, List.getElem?_cons_zero]; rfl) (fun K hK => ?_) (AllReadyH.cons (by simp only [List.getElem?_toArray, List.getElem?_cons_succ, List.getElem?_cons_zero]; rfl) (fun K hK => ?_) (AllReadyH.cons (by simp only [List.getElem?_toArray, List.getElem?_cons_succ, List.getElem?_cons_zero]; rfl) (fun K hK => ?_) AllReadyH.nil)))
    ·
      go_simp
      go_at_call 14; refine (copy_z (S3.out.2.1.keep R0.out) (by have := HG.out; omega)).mono ?_; rintro e w1 ⟨v, rfl, h, hb⟩
      obtain ⟨Ax, lx, cx, rfl, -, h⟩ := h.parts
      have R1 := Lib.hid (And.intro (R0.out.keep (hb)) ((h.out)))
      have hN : w1.cell? ⟨w.heap.size, 0, none⟩ = some (.bool pa) ∧ w1.cell? ⟨w.heap.size, 1, none⟩ = some (.slice Aa na ca) ∧ w1.cell? ⟨w.heap.size + 1, 0, none⟩ = some (.bool pb) ∧ w1.cell? ⟨w.heap.size + 1, 1, none⟩ = some (.slice Ab nb cb) := ⟨((S3.out.2.2.2.2.2.1.keep R1.out.1)).facts.1, ((S3.out.2.2.2.2.2.1.keep R1.out.1)).facts.2.1, ((S3.out.2.2.2.2.2.2.1.keep R1.out.1)).facts.1, ((S3.out.2.2.2.2.2.2.1.keep R1.out.1)).facts.2.1⟩
      clear hHeld h hb
      go_wp2_with fail
      refine hK.out _ _ hN (fun hHeld => ?_); clear hK K hN; try simp only [Act.put, List.setIfInBounds_toArray, List.set_cons_zero, List.set_cons_succ]
      refine wpAnyH_ready (rs := [3, 4, 5]) (by kernel_rfl) (by simp) (AllReadyH.cons (by simp only [List.getElem?_toArray, List.getElem?_cons_succ, List.getElem?_cons_zero]; rfl) (fun K hK => ?_) (AllReadyH.cons (by simp only [List.getElem?_toArray, List.getElem?_cons_succ, List.getElem?_cons_zero]; rfl) (fun K hK => ?_) (AllReadyH.cons (by simp only [List.getElem?_toArray, List.getElem?_cons_succ, List.getElem?_cons_zero]; rfl) (fun K hK => ?_) AllReadyH.nil)))
      ·
        go_simp
        go_at_call 14; refine (copy_z (S3.out.2.2.1.keep R1.out.1) (by have := HG.out; omega)).mono ?_; rintro e w2 ⟨v, rfl, h, hb⟩
        obtain ⟨Ay, ly, cy, rfl, -, h⟩ := h.parts
        have R2 := Lib.hid (And.intro (R1.out.1.keep (hb)) (And.intro (R1.out.2.keep (hb)) ((h.out))))
        have hN : w2.cell? ⟨w.heap.size, 0, none⟩ = some (.bool pa) ∧ w2.cell? ⟨w.heap.size, 1, none⟩ = some (.slice Aa na ca) ∧ w2.cell? ⟨w.heap.size + 1, 0, none⟩ = some (.bool pb) ∧ w2.cell? ⟨w.heap.size + 1, 1, none⟩ = some (.slice Ab nb cb) := ⟨((S3.out.2.2.2.2.2.1.keep R2.out.1)).facts.1, ((S3.out.2.2.2.2.2.1.keep R2.out.1)).facts.2.1, ((S3.out.2.2.2.2.2.2.1.keep R2.out.1)).facts.1, ((S3.out.2.2.2.2.2.2.1.keep R2.out.1)).facts.2.1⟩
        clear hHeld h hb
        go_wp2_with fail
        refine hK.out _ _ hN (fun hHeld => ?_); clear hK K hN; try simp only [Act.put, List.setIfInBounds_toArray, List.set_cons_zero, List.set_cons_succ]
        refine wpAnyH_ready (rs := [4, 5]) (by kernel_rfl) (by simp) (AllReadyH.cons (by simp only [List.getElem?_toArray, List.getElem?_cons_succ, List.getElem?_cons_zero]; rfl) (fun K hK => ?_) (AllReadyH.cons (by simp only [List.getElem?_toArray, List.getElem?_cons_succ, List.getElem?_cons_zero]; rfl) (fun K hK => ?_) AllReadyH.nil))
        ·
          go_simp
          refine hK.out _ _ (KK.out.1 _ _ hHeld) (fun hHeld => ?_); clear hK K; try simp only [Act.put, List.setIfInBounds_toArray, List.set_cons_zero, List.set_cons_succ]
          obtain ⟨gx, hgx⟩ : ∃ g, g = w2.heap.size := ⟨_, rfl⟩
          have R3 := Lib.hid (And.intro (R2.out.1.keep (below_al w2 (.cells #[.bool false, .slice none 0 0] 24))) (And.intro (R2.out.2.1.keep (below_al w2 (.cells #[.bool false, .slice none 0 0] 24))) (And.intro (R2.out.2.2.keep (below_al w2 (.cells #[.bool false, .slice none 0 0] 24))) (And.intro (Bx.new 24 w2 (.bool false) (.slice none 0 0)) ((R2.out.1.out.size))))))
          generalize w2.alloc _ = W3 at R3 hHeld ⊢; rw [← hgx] at R3 ⊢; clear hgx 
          refine wpAnyH_ready (rs := [5]) (by kernel_rfl) (by simp) (AllReadyH.cons (by simp only [List.getElem?_toArray, List.getElem?_cons_succ, List.getElem?_cons_zero]; rfl) (fun K hK => ?_) AllReadyH.nil)
          go_simp
          refine hK.out _ _ (KK.out.1 _ _ hHeld) (fun hHeld => ?_); clear hK K; try simp only [Act.put, List.setIfInBounds_toArray, List.set_cons_zero, List.set_cons_succ]
          obtain ⟨gy, hgy⟩ : ∃ g, g = W3.heap.size := ⟨_, rfl⟩
          have R4 := Lib.hid (And.intro (R3.out.1.keep (below_al W3 (.cells #[.bool false, .slice none 0 0] 24))) (And.intro (R3.out.2.1.keep (below_al W3 (.cells #[.bool false, .slice none 0 0] 24))) (And.intro (R3.out.2.2.1.keep (below_al W3 (.cells #[.bool false, .slice none 0 0] 24))) (And.intro (R3.out.2.2.2.1.keep (below_al W3 (.cells #[.bool false, .slice none 0 0] 24))) (And.intro (R3.out.2.2.2.2) (And.intro (Bx.new 24 W3 (.bool false) (.slice none 0 0)) (And.intro (R3.out.1.out.size) ((Nat.ne_of_lt R3.out.2.2.2.1.lt)))))))))
          generalize W3.alloc _ = W4 at R4 hHeld ⊢; rw [← hgy] at R4 ⊢; clear hgy 
          refine wpAnyH_ready (rs := [6]) (by kernel_rfl) (by simp) (AllReadyH.cons (by simp only [List.getElem?_toArray, List.getElem?_cons_succ, List.getElem?_cons_zero]; rfl) (fun K hK => ?_) AllReadyH.nil)
          obtain ⟨fa, fb, fc, fd⟩ := R4.out.2.2.2.1.facts; go_simp; clear fa fb fc fd
          refine hK.out _ _ (KK.out.2 _ _ _ _ (R4.out.2.2.2.2.1) hHeld) (fun hHeld => ?_); clear hK K; try simp only [Act.put, List.setIfInBounds_toArray, List.set_cons_zero, List.set_cons_succ]
          have R5 := Lib.hid (And.intro (R4.out.1.put R4.out.2.2.2.1 R4.out.2.2.2.2.1 (.bool pa) (.slice Ax lx cx)) (And.intro (R4.out.2.1.put R4.out.2.2.2.1 (.bool pa) (.slice Ax lx cx)) (And.intro (R4.out.2.2.1.put R4.out.2.2.2.1 (.bool pa) (.slice Ax lx cx)) (And.intro (R4.out.2.2.2.1.set (.bool pa) (.slice Ax lx cx)) (And.intro (R4.out.2.2.2.2.1) (And.intro (R4.out.2.2.2.2.2.1.other2 (R4.out.2.2.2.2.2.2.2) (.bool pa) (.slice Ax lx cx)) (And.intro (R4.out.2.2.2.2.2.2.1) ((R4.out.2.2.2.2.2.2.2)))))))))
          generalize (W4.setCell _ _).setCell _ _ = W5 at R5 hHeld ⊢
          refine wpAnyH_ready (rs := [7]) (by kernel_rfl) (by simp) (AllReadyH.cons (by simp only [List.getElem?_toArray, List.getElem?_cons_succ, List.getElem?_cons_zero]; rfl) (fun K hK => ?_) AllReadyH.nil)
          obtain ⟨fa, fb, fc, fd⟩ := R5.out.2.2.2.2.2.1.facts; go_simp; clear fa fb fc fd
          refine hK.out _ _ (KK.out.2 _ _ _ _ (R5.out.2.2.2.2.2.2.1) hHeld) (fun hHeld => ?_); clear hK K; try simp only [Act.put, List.setIfInBounds_toArray, List.set_cons_zero, List.set_cons_succ]
          have R6 := Lib.hid (And.intro (R5.out.1.put R5.out.2.2.2.2.2.1 R5.out.2.2.2.2.2.2.1 (.bool pb) (.slice Ay ly cy)) (And.intro (R5.out.2.1.put R5.out.2.2.2.2.2.1 (.bool pb) (.slice Ay ly cy)) (And.intro (R5.out.2.2.1.put R5.out.2.2.2.2.2.1 (.bool pb) (.slice Ay ly cy)) (And.intro (R5.out.2.2.2.1.other2 (Ne.symm R5.out.2.2.2.2.2.2.2) (.bool pb) (.slice Ay ly cy)) (And.intro (R5.out.2.2.2.2.1) (And.intro (R5.out.2.2.2.2.2.1.set (.bool pb) (.slice Ay ly cy)) (And.intro (R5.out.2.2.2.2.2.2.1) ((R5.out.2.2.2.2.2.2.2)))))))))
          generalize (W5.setCell _ _).setCell _ _ = W6 at R6 hHeld ⊢
          refine wpAnyH_done (by kernel_rfl) ?_ _; clear hHeld
          go_wp2_with fail; go_meet
          exact ⟨_, _, _, _, _, _, _, _, _, _, rfl, rfl, R6.out.1, R6.out.2.2.2.1, R6.out.2.2.2.2.2.1, R6.out.2.1, R6.out.2.2.1⟩
        ·
          go_simp
          refine hK.out _ _ (KK.out.1 _ _ hHeld) (fun hHeld => ?_); clear hK K; try simp only [Act.put, List.setIfInBounds_toArray, List.set_cons_zero, List.set_cons_succ]
          obtain ⟨gy, hgy⟩ : ∃ g, g = w2.heap.size := ⟨_, rfl⟩
          have R7 := Lib.hid (And.intro (R2.out.1.keep (below_al w2 (.cells #[.bool false, .slice none 0 0] 24))) (And.intro (R2.out.2.1.keep (below_al w2 (.cells #[.bool false, .slice none 0 0] 24))) (And.intro (R2.out.2.2.keep (below_al w2 (.cells #[.bool false, .slice none 0 0] 24))) (And.intro (Bx.new 24 w2 (.bool false) (.slice none 0 0)) ((R2.out.1.out.size))))))
          generalize w2.alloc _ = W7 at R7 hHeld ⊢; rw [← hgy] at R7 ⊢; clear hgy 
          refine wpAnyH_ready (rs := [4]) (by kernel_rfl) (by simp) (AllReadyH.cons (by simp only [List.getElem?_toArray, List.getElem?_cons_succ, List.getElem?_cons_zero]; rfl) (fun K hK => ?_) AllReadyH.nil)
          go_simp
          refine hK.out _ _ (KK.out.1 _ _ hHeld) (fun hHeld => ?_); clear hK K; try simp only [Act.put, List.setIfInBounds_toArray, List.set_cons_zero, List.set_cons_succ]
          obtain ⟨gx, hgx⟩ : ∃ g, g = W7.heap.size := ⟨_, rfl⟩
          have R8 := Lib.hid (And.intro (R7.out.1.keep (below_al W7 (.cells #[.bool false, .slice none 0 0] 24))) (And.intro (R7.out.2.1.keep (below_al W7 (.cells #[.bool false, .slice none 0 0] 24))) (And.intro (R7.out.2.2.1.keep (below_al W7 (.cells #[.bool false, .slice none 0 0] 24))) (And.intro (R7.out.2.2.2.1.keep (below_al W7 (.cells #[.bool false, .slice none 0 0] 24))) (And.intro (R7.out.2.2.2.2) (And.intro (Bx.new 24 W7 (.bool false) (.slice none 0 0)) (And.intro (R7.out.1.out.size) ((Nat.ne_of_lt R7.out.2.2.2.1.lt)))))))))
          generalize W7.alloc _ = W8 at R8 hHeld ⊢; rw [← hgx] at R8 ⊢; clear hgx 
          refine wpAnyH_ready (rs := [6]) (by kernel_rfl) (by simp) (AllReadyH.cons (by simp only [List.getElem?_toArray, List.getElem?_cons_succ, List.getElem?_cons_zero]; rfl) (fun K hK => ?_) AllReadyH.nil)
          obtain ⟨fa, fb, fc, fd⟩ := R8.out.2.2.2.2.2.1.facts; go_simp; clear fa fb fc fd
          refine hK.out _ _ (KK.out.2 _ _ _ _ (R8.out.2.2.2.2.2.2.1) hHeld) (fun hHeld => ?_); clear hK K; try simp only [Act.put, List.setIfInBounds_toArray, List.set_cons_zero, List.set_cons_succ]
          have R9 := Lib.hid (And.intro (R8.out.1.put R8.out.2.2.2.2.2.1 R8.out.2.2.2.2.2.2.1 (.bool pa) (.slice Ax lx cx)) (And.intro (R8.out.2.1.put R8.out.2.2.2.2.2.1 (.bool pa) (.slice Ax lx cx)) (And.intro (R8.out.2.2.1.put R8.out.2.2.2.2.2.1 (.bool pa) (.slice Ax lx cx)) (And.intro (R8.out.2.2.2.1.other2 (Ne.symm R8.out.2.2.2.2.2.2.2) (.bool pa) (.slice Ax lx cx)) (And.intro (R8.out.2.2.2.2.1) (And.intro (R8.out.2.2.2.2.2.1.set (.bool pa) (.slice Ax lx cx)) (And.intro (R8.out.2.2.2.2.2.2.1) ((R8.out.2.2.2.2.2.2.2)))))))))
          generalize (W8.setCell _ _).setCell _ _ = W9 at R9 hHeld ⊢
          refine wpAnyH_ready (rs := [7]) (by kernel_rfl) (by simp) (AllReadyH.cons (by simp only [List.getElem?_toArray, List.getElem?_cons_succ, List.getElem?_cons_zero]; rfl) (fun K hK => ?_) AllReadyH.nil)
          obtain ⟨fa, fb, fc, fd⟩ := R9.out.2.2.2.1.facts; go_simp; clear fa fb fc fd
          refine hK.out _ _ (KK.out.2 _ _ _ _ (R9.out.2.2.2.2.1) hHeld) (fun hHeld => ?_); clear hK K; try simp only [Act.put, List.setIfInBounds_toArray, List.set_cons_zero, List.set_cons_succ]
          have R10 := Lib.hid (And.intro (R9.out.1.put R9.out.2.2.2.1 R9.out.2.2.2.2.1 (.bool pb) (.slice Ay ly cy)) (And.intro (R9.out.2.1.put R9.out.2.2.2.1 (.bool pb) (.slice Ay ly cy)) (And.intro (R9.out.2.2.1.put R9.out.2.2.2.1 (.bool pb) (.slice Ay ly cy)) (And.intro (R9.out.2.2.2.1.set (.bool pb) (.slice Ay ly cy)) (And.intro (R9.out.2.2.2.2.1) (And.intro (R9.out.2.2.2.2.2.1.other2 (R9.out.2.2.2.2.2.2.2) (.bool pb) (.slice Ay ly cy)) (And.intro (R9.out.2.2.2.2.2.2.1) ((R9.out.2.2.2.2.2.2.2)))))))))
          generalize (W9.setCell _ _).setCell _ _ = W10 at R10 hHeld ⊢
          refine wpAnyH_done (by kernel_rfl) ?_ _; clear hHeld
          go_wp2_with fail; go_meet
          exact ⟨_, _, _, _, _, _, _, _, _, _, rfl, rfl, R10.out.1, R10.out.2.2.2.2.2.1, R10.out.2.2.2.1, R10.out.2.1, R10.out.2.2.1⟩
      ·
        go_simp
        refine hK.out _ _ (KK.out.1 _ _ hHeld) (fun hHeld => ?_); clear hK K; try simp only [Act.put, List.setIfInBounds_toArray, List.set_cons_zero, List.set_cons_succ]
        obtain ⟨gx, hgx⟩ : ∃ g, g = w1.heap.size := ⟨_, rfl⟩
        have R11 := Lib.hid (And.intro (R1.out.1.keep (below_al w1 (.cells #[.bool false, .slice none 0 0] 24))) (And.intro (R1.out.2.keep (below_al w1 (.cells #[.bool false, .slice none 0 0] 24))) (And.intro (Bx.new 24 w1 (.bool false) (.slice none 0 0)) ((R1.out.1.out.size)))))
        generalize w1.alloc _ = W11 at R11 hHeld ⊢; rw [← hgx] at R11 ⊢; clear hgx 
        refine wpAnyH_ready (rs := [3, 5]) (by kernel_rfl) (by simp) (AllReadyH.cons (by simp only [List.getElem?_toArray, List.getElem?_cons_succ, List.getElem?_cons_zero]; rfl) (fun K hK => ?_) (AllReadyH.cons (by simp only [List.getElem?_toArray, List.getElem?_cons_succ, List.getElem?_cons_zero]; rfl) (fun K hK => ?_) AllReadyH.nil))
        ·
          go_simp
          go_at_call 14; refine (copy_z (S3.out.2.2.1.keep R11.out.1) (by have := HG.out; omega)).mono ?_; rintro e w12 ⟨v, rfl, h, hb⟩
          obtain ⟨Ay, ly, cy, rfl, -, h⟩ := h.parts
          have R12 := Lib.hid (And.intro (R11.out.1.keep (hb)) (And.intro (R11.out.2.1.keep (hb)) (And.intro (R11.out.2.2.1.keep (hb)) (And.intro (R11.out.2.2.2) ((h.out))))))
          have hN : w12.cell? ⟨w.heap.size, 0, none⟩ = some (.bool pa) ∧ w12.cell? ⟨w.heap.size, 1, none⟩ = some (.slice Aa na ca) ∧ w12.cell? ⟨w.heap.size + 1, 0, none⟩ = some (.bool pb) ∧ w12.cell? ⟨w.heap.size + 1, 1, none⟩ = some (.slice Ab nb cb) := ⟨((S3.out.2.2.2.2.2.1.keep R12.out.1)).facts.1, ((S3.out.2.2.2.2.2.1.keep R12.out.1)).facts.2.1, ((S3.out.2.2.2.2.2.2.1.keep R12.out.1)).facts.1, ((S3.out.2.2.2.2.2.2.1.keep R12.out.1)).facts.2.1⟩
          clear hHeld h hb
          go_wp2_with fail
          refine hK.out _ _ hN (fun hHeld => ?_); clear hK K hN; try simp only [Act.put, List.setIfInBounds_toArray, List.set_cons_zero, List.set_cons_succ]
          refine wpAnyH_ready (rs := [5]) (by kernel_rfl) (by simp) (AllReadyH.cons (by simp only [List.getElem?_toArray, List.getElem?_cons_succ, List.getElem?_cons_zero]; rfl) (fun K hK => ?_) AllReadyH.nil)
          go_simp
          refine hK.out _ _ (KK.out.1 _ _ hHeld) (fun hHeld => ?_); clear hK K; try simp only [Act.put, List.setIfInBounds_toArray, List.set_cons_zero, List.set_cons_succ]
          obtain ⟨gy, hgy⟩ : ∃ g, g = w12.heap.size := ⟨_, rfl⟩
          have R13 := Lib.hid (And.intro (R12.out.1.keep (below_al w12 (.cells #[.bool false, .slice none 0 0] 24))) (And.intro (R12.out.2.1.keep (below_al w12 (.cells #[.bool false, .slice none 0 0] 24))) (And.intro (R12.out.2.2.1.keep (below_al w12 (.cells #[.bool false, .slice none 0 0] 24))) (And.intro (R12.out.2.2.2.1) (And.intro (R12.out.2.2.2.2.keep (below_al w12 (.cells #[.bool false, .slice none 0 0] 24))) (And.intro (Bx.new 24 w12 (.bool false) (.slice none 0 0)) (And.intro (R12.out.1.out.size) ((Nat.ne_of_lt R12.out.2.2.1.lt)))))))))
          generalize w12.alloc _ = W13 at R13 hHeld ⊢; rw [← hgy] at R13 ⊢; clear hgy 
          refine wpAnyH_ready (rs := [6]) (by kernel_rfl) (by simp) (AllReadyH.cons (by simp only [List.getElem?_toArray, List.getElem?_cons_succ, List.getElem?_cons_zero]; rfl) (fun K hK => ?_) AllReadyH.nil)
          obtain ⟨fa, fb, fc, fd⟩ := R13.out.2.2.1.facts; go_simp; clear fa fb fc fd
          refine hK.out _ _ (KK.out.2 _ _ _ _ (R13.out.2.2.2.1) hHeld) (fun hHeld => ?_); clear hK K; try simp only [Act.put, List.setIfInBounds_toArray, List.set_cons_zero, List.set_cons_succ]
          have R14 := Lib.hid (And.intro (R13.out.1.put R13.out.2.2.1 R13.out.2.2.2.1 (.bool pa) (.slice Ax lx cx)) (And.intro (R13.out.2.1.put R13.out.2.2.1 (.bool pa) (.slice Ax lx cx)) (And.intro (R13.out.2.2.1.set (.bool pa) (.slice Ax lx cx)) (And.intro (R13.out.2.2.2.1) (And.intro (R13.out.2.2.2.2.1.put R13.out.2.2.1 (.bool pa) (.slice Ax lx cx)) (And.intro (R13.out.2.2.2.2.2.1.other2 (R13.out.2.2.2.2.2.2.2) (.bool pa) (.slice Ax lx cx)) (And.intro (R13.out.2.2.2.2.2.2.1) ((R13.out.2.2.2.2.2.2.2)))))))))
          generalize (W13.setCell _ _).setCell _ _ = W14 at R14 hHeld ⊢
          refine wpAnyH_ready (rs := [7]) (by kernel_rfl) (by simp) (AllReadyH.cons (by simp only [List.getElem?_toArray, List.getElem?_cons_succ, List.getElem?_cons_zero]; rfl) (fun K hK => ?_) AllReadyH.nil)
          obtain ⟨fa, fb, fc, fd⟩ := R14.out.2.2.2.2.2.1.facts; go_simp; clear fa fb fc fd
          refine hK.out _ _ (KK.out.2 _ _ _ _ (R14.out.2.2.2.2.2.2.1) hHeld) (fun hHeld => ?_); clear hK K; try simp only [Act.put, List.setIfInBounds_toArray, List.set_cons_zero, List.set_cons_succ]
          have R15 := Lib.hid (And.intro (R14.out.1.put R14.out.2.2.2.2.2.1 R14.out.2.2.2.2.2.2.1 (.bool pb) (.slice Ay ly cy)) (And.intro (R14.out.2.1.put R14.out.2.2.2.2.2.1 (.bool pb) (.slice Ay ly cy)) (And.intro (R14.out.2.2.1.other2 (Ne.symm R14.out.2.2.2.2.2.2.2) (.bool pb) (.slice Ay ly cy)) (And.intro (R14.out.2.2.2.1) (And.intro (R14.out.2.2.2.2.1.put R14.out.2.2.2.2.2.1 (.bool pb) (.slice Ay ly cy)) (And.intro (R14.out.2.2.2.2.2.1.set (.bool pb) (.slice Ay ly cy)) (And.intro (R14.out.2.2.2.2.2.2.1) ((R14.out.2.2.2.2.2.2.2)))))))))
          generalize (W14.setCell _ _).setCell _ _ = W15 at R15 hHeld ⊢
          refine wpAnyH_done (by kernel_rfl) ?_ _; clear hHeld
          go_wp2_with fail; go_meet
          exact ⟨_, _, _, _, _, _, _, _, _, _, rfl, rfl, R15.out.1, R15.out.2.2.1, R15.out.2.2.2.2.2.1, R15.out.2.1, R15.out.2.2.2.2.1⟩
        ·
          go_simp
          refine hK.out _ _ (KK.out.1 _ _ hHeld) (fun hHeld => ?_); clear hK K; try simp only [Act.put, List.setIfInBounds_toArray, List.set_cons_zero, List.set_cons_succ]
          obtain ⟨gy, hgy⟩ : ∃ g, g = W11.heap.size := ⟨_, rfl⟩
          have R16 := Lib.hid (And.intro (R11.out.1.keep (below_al W11 (.cells #[.bool false, .slice none 0 0] 24))) (And.intro (R11.out.2.1.keep (below_al W11 (.cells #[.bool false, .slice none 0 0] 24))) (And.intro (R11.out.2.2.1.keep (below_al W11 (.cells #[.bool false, .slice none 0 0] 24))) (And.intro (R11.out.2.2.2) (And.intro (Bx.new 24 W11 (.bool false) (.slice none 0 0)) (And.intro (R11.out.1.out.size) ((Nat.ne_of_lt R11.out.2.2.1.lt))))))))
          generalize W11.alloc _ = W16 at R16 hHeld ⊢; rw [← hgy] at R16 ⊢; clear hgy 
          refine wpAnyH_ready (rs := [3]) (by kernel_rfl) (by simp) (AllReadyH.cons (by simp only [List.getElem?_toArray, List.getElem?_cons_succ, List.getElem?_cons_zero]; rfl) (fun K hK => ?_) AllReadyH.nil)
          go_simp
          go_at_call 14; refine (copy_z (S3.out.2.2.1.keep R16.out.1) (by have := HG.out; omega)).mono ?_; rintro e w17 ⟨v, rfl, h, hb⟩
          obtain ⟨Ay, ly, cy, rfl, -, h⟩ := h.parts
          have R17 := Lib.hid (And.intro (R16.out.1.keep (hb)) (And.intro (R16.out.2.1.keep (hb)) (And.intro (R16.out.2.2.1.keep (hb)) (And.intro (R16.out.2.2.2.1) (And.intro (R16.out.2.2.2.2.1.keep (hb)) (And.intro (R16.out.2.2.2.2.2.1) (And.intro (R16.out.2.2.2.2.2.2) ((h.out)))))))))
          have hN : w17.cell? ⟨w.heap.size, 0, none⟩ = some (.bool pa) ∧ w17.cell? ⟨w.heap.size, 1, none⟩ = some (.slice Aa na ca) ∧ w17.cell? ⟨w.heap.size + 1, 0, none⟩ = some (.bool pb) ∧ w17.cell? ⟨w.heap.size + 1, 1, none⟩ = some (.slice Ab nb cb) := ⟨((S3.out.2.2.2.2.2.1.keep R17.out.1)).facts.1, ((S3.out.2.2.2.2.2.1.keep R17.out.1)).facts.2.1, ((S3.out.2.2.2.2.2.2.1.keep R17.out.1)).facts.1, ((S3.out.2.2.2.2.2.2.1.keep R17.out.1)).facts.2.1⟩
          clear hHeld h hb
          go_wp2_with fail
          refine hK.out _ _ hN (fun hHeld => ?_); clear hK K hN; try simp only [Act.put, List.setIfInBounds_toArray, List.set_cons_zero, List.set_cons_succ]
          refine wpAnyH_ready (rs := [6]) (by kernel_rfl) (by simp) (AllReadyH.cons (by simp only [List.getElem?_toArray, List.getElem?_cons_succ, List.getElem?_cons_zero]; rfl) (fun K hK => ?_) AllReadyH.nil)
          obtain ⟨fa, fb, fc, fd⟩ := R17.out.2.2.1.facts; go_simp; clear fa fb fc fd
          refine hK.out _ _ (KK.out.2 _ _ _ _ (R17.out.2.2.2.1) hHeld) (fun hHeld => ?_); clear hK K; try simp only [Act.put, List.setIfInBounds_toArray, List.set_cons_zero, List.set_cons_succ]
          have R18 := Lib.hid (And.intro (R17.out.1.put R17.out.2.2.1 R17.out.2.2.2.1 (.bool pa) (.slice Ax lx cx)) (And.intro (R17.out.2.1.put R17.out.2.2.1 (.bool pa) (.slice Ax lx cx)) (And.intro (R17.out.2.2.1.set (.bool pa) (.slice Ax lx cx)) (And.intro (R17.out.2.2.2.1) (And.intro (R17.out.2.2.2.2.1.other2 (R17.out.2.2.2.2.2.2.1) (.bool pa) (.slice Ax lx cx)) (And.intro (R17.out.2.2.2.2.2.1) (And.intro (R17.out.2.2.2.2.2.2.1) ((R17.out.2.2.2.2.2.2.2.put R17.out.2.2.1 (.bool pa) (.slice Ax lx cx))))))))))
          generalize (w17.setCell _ _).setCell _ _ = W18 at R18 hHeld ⊢
          refine wpAnyH_ready (rs := [7]) (by kernel_rfl) (by simp) (AllReadyH.cons (by simp only [List.getElem?_toArray, List.getElem?_cons_succ, List.getElem?_cons_zero]; rfl) (fun K hK => ?_) AllReadyH.nil)
          obtain ⟨fa, fb, fc, fd⟩ := R18.out.2.2.2.2.1.facts; go_simp; clear fa fb fc fd
          refine hK.out _ _ (KK.out.2 _ _ _ _ (R18.out.2.2.2.2.2.1) hHeld) (fun hHeld => ?_); clear hK K; try simp only [Act.put, List.setIfInBounds_toArray, List.set_cons_zero, List.set_cons_succ]
          have R19 := Lib.hid (And.intro (R18.out.1.put R18.out.2.2.2.2.1 R18.out.2.2.2.2.2.1 (.bool pb) (.slice Ay ly cy)) (And.intro (R18.out.2.1.put R18.out.2.2.2.2.1 (.bool pb) (.slice Ay ly cy)) (And.intro (R18.out.2.2.1.other2 (Ne.symm R18.out.2.2.2.2.2.2.1) (.bool pb) (.slice Ay ly cy)) (And.intro (R18.out.2.2.2.1) (And.intro (R18.out.2.2.2.2.1.set (.bool pb) (.slice Ay ly cy)) (And.intro (R18.out.2.2.2.2.2.1) (And.intro (R18.out.2.2.2.2.2.2.1) ((R18.out.2.2.2.2.2.2.2.put R18.out.2.2.2.2.1 (.bool pb) (.slice Ay ly cy))))))))))
          generalize (W18.setCell _ _).setCell _ _ = W19 at R19 hHeld ⊢
          refine wpAnyH_done (by kernel_rfl) ?_ _; clear hHeld
          go_wp2_with fail; go_meet
          exact ⟨_, _, _, _, _, _, _, _, _, _, rfl, rfl, R19.out.1, R19.out.2.2.1, R19.out.2.2.2.2.1, R19.out.2.1, R19.out.2.2.2.2.2.2.2⟩
      ·
        go_simp
        refine hK.out _ _ (KK.out.1 _ _ hHeld) (fun hHeld => ?_); clear hK K; try simp only [Act.put, List.setIfInBounds_toArray, List.set_cons_zero, List.set_cons_succ]
        obtain ⟨gy, hgy⟩ : ∃ g, g = w1.heap.size := ⟨_, rfl⟩
        have R20 := Lib.hid (And.intro (R1.out.1.keep (below_al w1 (.cells #[.bool false, .slice none 0 0] 24))) (And.intro (R1.out.2.keep (below_al w1 (.cells #[.bool false, .slice none 0 0] 24))) (And.intro (Bx.new 24 w1 (.bool false) (.slice none 0 0)) ((R1.out.1.out.size)))))
        generalize w1.alloc _ = W20 at R20 hHeld ⊢; rw [← hgy] at R20 ⊢; clear hgy 
        refine wpAnyH_ready (rs := [3, 4]) (by kernel_rfl) (by simp) (AllReadyH.cons (by simp only [List.getElem?_toArray, List.getElem?_cons_succ, List.getElem?_cons_zero]; rfl) (fun K hK => ?_) (AllReadyH.cons (by simp only [List.getElem?_toArray, List.getElem?_cons_succ, List.getElem?_cons_zero]; rfl) (fun K hK => ?_) AllReadyH.nil))
        ·
          go_simp
          go_at_call 14; refine (copy_z (S3.out.2.2.1.keep R20.out.1) (by have := HG.out; omega)).mono ?_; rintro e w21 ⟨v, rfl, h, hb⟩
          obtain ⟨Ay, ly, cy, rfl, -, h⟩ := h.parts
          have R21 := Lib.hid (And.intro (R20.out.1.keep (hb)) (And.intro (R20.out.2.1.keep (hb)) (And.intro (R20.out.2.2.1.keep (hb)) (And.intro (R20.out.2.2.2) ((h.out))))))
          have hN : w21.cell? ⟨w.heap.size, 0, none⟩ = some (.bool pa) ∧ w21.cell? ⟨w.heap.size, 1, none⟩ = some (.slice Aa na ca) ∧ w21.cell? ⟨w.heap.size + 1, 0, none⟩ = some (.bool pb) ∧ w21.cell? ⟨w.heap.size + 1, 1, none⟩ = some (.slice Ab nb cb) := ⟨((S3.out.2.2.2.2.2.1.keep R21.out.1)).facts.1, ((S3.out.2.2.2.2.2.1.keep R21.out.1)).facts.2.1, ((S3.out.2.2.2.2.2.2.1.keep R21.out.1)).facts.1, ((S3.out.2.2.2.2.2.2.1.keep R21.out.1)).facts.2.1⟩
          clear hHeld h hb
          go_wp2_with fail
          refine hK.out _ _ hN (fun hHeld => ?_); clear hK K hN; try simp only [Act.put, List.setIfInBounds_toArray, List.set_cons_zero, List.set_cons_succ]
          refine wpAnyH_ready (rs := [4]) (by kernel_rfl) (by simp) (AllReadyH.cons (by simp only [List.getElem?_toArray, List.getElem?_cons_succ, List.getElem?_cons_zero]; rfl) (fun K hK => ?_) AllReadyH.nil)
          go_simp
          refine hK.out _ _ (KK.out.1 _ _ hHeld) (fun hHeld => ?_); clear hK K; try simp only [Act.put, List.setIfInBounds_toArray, List.set_cons_zero, List.set_cons_succ]
          obtain ⟨gx, hgx⟩ : ∃ g, g = w21.heap.size := ⟨_, rfl⟩
          have R22 := Lib.hid (And.intro (R21.out.1.keep (below_al w21 (.cells #[.bool false, .slice none 0 0] 24))) (And.intro (R21.out.2.1.keep (below_al w21 (.cells #[.bool false, .slice none 0 0] 24))) (And.intro (R21.out.2.2.1.keep (below_al w21 (.cells #[.bool false, .slice none 0 0] 24))) (And.intro (R21.out.2.2.2.1) (And.intro (R21.out.2.2.2.2.keep (below_al w21 (.cells #[.bool false, .slice none 0 0] 24))) (And.intro (Bx.new 24 w21 (.bool false) (.slice none 0 0)) (And.intro (R21.out.1.out.size) ((Nat.ne_of_lt R21.out.2.2.1.lt)))))))))
          generalize w21.alloc _ = W22 at R22 hHeld ⊢; rw [← hgx] at R22 ⊢; clear hgx 
          refine wpAnyH_ready (rs := [6]) (by kernel_rfl) (by simp) (AllReadyH.cons (by simp only [List.getElem?_toArray, List.getElem?_cons_succ, List.getElem?_cons_zero]; rfl) (fun K hK => ?_) AllReadyH.nil)
          obtain ⟨fa, fb, fc, fd⟩ := R22.out.2.2.2.2.2.1.facts; go_simp; clear fa fb fc fd
          refine hK.out _ _ (KK.out.2 _ _ _ _ (R22.out.2.2.2.2.2.2.1) hHeld) (fun hHeld => ?_); clear hK K; try simp only [Act.put, List.setIfInBounds_toArray, List.set_cons_zero, List.set_cons_succ]
          have R23 := Lib.hid (And.intro (R22.out.1.put R22.out.2.2.2.2.2.1 R22.out.2.2.2.2.2.2.1 (.bool pa) (.slice Ax lx cx)) (And.intro (R22.out.2.1.put R22.out.2.2.2.2.2.1 (.bool pa) (.slice Ax lx cx)) (And.intro (R22.out.2.2.1.other2 (Ne.symm R22.out.2.2.2.2.2.2.2) (.bool pa) (.slice Ax lx cx)) (And.intro (R22.out.2.2.2.1) (And.intro (R22.out.2.2.2.2.1.put R22.out.2.2.2.2.2.1 (.bool pa) (.slice Ax lx cx)) (And.intro (R22.out.2.2.2.2.2.1.set (.bool pa) (.slice Ax lx cx)) (And.intro (R22.out.2.2.2.2.2.2.1) ((R22.out.2.2.2.2.2.2.2)))))))))
          generalize (W22.setCell _ _).setCell _ _ = W23 at R23 hHeld ⊢
          refine wpAnyH_ready (rs := [7]) (by kernel_rfl) (by simp) (AllReadyH.cons (by simp only [List.getElem?_toArray, List.getElem?_cons_succ, List.getElem?_cons_zero]; rfl) (fun K hK => ?_) AllReadyH.nil)
          obtain ⟨fa, fb, fc, fd⟩ := R23.out.2.2.1.facts; go_simp; clear fa fb fc fd
          refine hK.out _ _ (KK.out.2 _ _ _ _ (R23.out.2.2.2.1) hHeld) (fun hHeld => ?_); clear hK K; try simp only [Act.put, List.setIfInBounds_toArray, List.set_cons_zero, List.set_cons_succ]
          have R24 := Lib.hid (And.intro (R23.out.1.put R23.out.2.2.1 R23.out.2.2.2.1 (.bool pb) (.slice Ay ly cy)) (And.intro (R23.out.2.1.put R23.out.2.2.1 (.bool pb) (.slice Ay ly cy)) (And.intro (R23.out.2.2.1.set (.bool pb) (.slice Ay ly cy)) (And.intro (R23.out.2.2.2.1) (And.intro (R23.out.2.2.2.2.1.put R23.out.2.2.1 (.bool pb) (.slice Ay ly cy)) (And.intro (R23.out.2.2.2.2.2.1.other2 (R23.out.2.2.2.2.2.2.2) (.bool pb) (.slice Ay ly cy)) (And.intro (R23.out.2.2.2.2.2.2.1) ((R23.out.2.2.2.2.2.2.2)))))))))
          generalize (W23.setCell _ _).setCell _ _ = W24 at R24 hHeld ⊢
          refine wpAnyH_done (by kernel_rfl) ?_ _; clear hHeld
          go_wp2_with fail; go_meet
          exact ⟨_, _, _, _, _, _, _, _, _, _, rfl, rfl, R24.out.1, R24.out.2.2.2.2.2.1, R24.out.2.2.1, R24.out.2.1, R24.out.2.2.2.2.1⟩
        ·
          go_simp
          refine hK.out _ _ (KK.out.1 _ _ hHeld) (fun hHeld => ?_); clear hK K; try simp only [Act.put, List.setIfInBounds_toArray, List.set_cons_zero, List.set_cons_succ]
          obtain ⟨gx, hgx⟩ : ∃ g, g = W20.heap.size := ⟨_, rfl⟩
          have R25 := Lib.hid (And.intro (R20.out.1.keep (below_al W20 (.cells #[.bool false, .slice none 0 0] 24))) (And.intro (R20.out.2.1.keep (below_al W20 (.cells #[.bool false, .slice none 0 0] 24))) (And.intro (R20.out.2.2.1.keep (below_al W20 (.cells #[.bool false, .slice none 0 0] 24))) (And.intro (R20.out.2.2.2) (And.intro (Bx.new 24 W20 (.bool false) (.slice none 0 0)) (And.intro (R20.out.1.out.size) ((Nat.ne_of_lt R20.out.2.2.1.lt))))))))
          generalize W20.alloc _ = W25 at R25 hHeld ⊢; rw [← hgx] at R25 ⊢; clear hgx 
          refine wpAnyH_ready (rs := [3]) (by kernel_rfl) (by simp) (AllReadyH.cons (by simp only [List.getElem?_toArray, List.getElem?_cons_succ, List.getElem?_cons_zero]; rfl) (fun K hK => ?_) AllReadyH.nil)
          go_simp
          go_at_call 14; refine (copy_z (S3.out.2.2.1.keep R25.out.1) (by have := HG.out; omega)).mono ?_; rintro e w26 ⟨v, rfl, h, hb⟩
          obtain ⟨Ay, ly, cy, rfl, -, h⟩ := h.parts
          have R26 := Lib.hid (And.intro (R25.out.1.keep (hb)) (And.intro (R25.out.2.1.keep (hb)) (And.intro (R25.out.2.2.1.keep (hb)) (And.intro (R25.out.2.2.2.1) (And.intro (R25.out.2.2.2.2.1.keep (hb)) (And.intro (R25.out.2.2.2.2.2.1) (And.intro (R25.out.2.2.2.2.2.2) ((h.out)))))))))
          have hN : w26.cell? ⟨w.heap.size, 0, none⟩ = some (.bool pa) ∧ w26.cell? ⟨w.heap.size, 1, none⟩ = some (.slice Aa na ca) ∧ w26.cell? ⟨w.heap.size + 1, 0, none⟩ = some (.bool pb) ∧ w26.cell? ⟨w.heap.size + 1, 1, none⟩ = some (.slice Ab nb cb) := ⟨((S3.out.2.2.2.2.2.1.keep R26.out.1)).facts.1, ((S3.out.2.2.2.2.2.1.keep R26.out.1)).facts.2.1, ((S3.out.2.2.2.2.2.2.1.keep R26.out.1)).facts.1, ((S3.out.2.2.2.2.2.2.1.keep R26.out.1)).facts.2.1⟩
          clear hHeld h hb
          go_wp2_with fail
          refine hK.out _ _ hN (fun hHeld => ?_); clear hK K hN; try simp only [Act.put, List.setIfInBounds_toArray, List.set_cons_zero, List.set_cons_succ]
          refine wpAnyH_ready (rs := [6]) (by kernel_rfl) (by simp) (AllReadyH.cons (by simp only [List.getElem?_toArray, List.getElem?_cons_succ, List.getElem?_cons_zero]; rfl) (fun K hK => ?_) AllReadyH.nil)
          obtain ⟨fa, fb, fc, fd⟩ := R26.out.2.2.2.2.1.facts; go_simp; clear fa fb fc fd
          refine hK.out _ _ (KK.out.2 _ _ _ _ (R26.out.2.2.2.2.2.1) hHeld) (fun hHeld => ?_); clear hK K; try simp only [Act.put, List.setIfInBounds_toArray, List.set_cons_zero, List.set_cons_succ]
          have R27 := Lib.hid (And.intro (R26.out.1.put R26.out.2.2.2.2.1 R26.out.2.2.2.2.2.1 (.bool pa) (.slice Ax lx cx)) (And.intro (R26.out.2.1.put R26.out.2.2.2.2.1 (.bool pa) (.slice Ax lx cx)) (And.intro (R26.out.2.2.1.other2 (Ne.symm R26.out.2.2.2.2.2.2.1) (.bool pa) (.slice Ax lx cx)) (And.intro (R26.out.2.2.2.1) (And.intro (R26.out.2.2.2.2.1.set (.bool pa) (.slice Ax lx cx)) (And.intro (R26.out.2.2.2.2.2.1) (And.intro (R26.out.2.2.2.2.2.2.1) ((R26.out.2.2.2.2.2.2.2.put R26.out.2.2.2.2.1 (.bool pa) (.slice Ax lx cx))))))))))
          generalize (w26.setCell _ _).setCell _ _ = W27 at R27 hHeld ⊢
          refine wpAnyH_ready (rs := [7]) (by kernel_rfl) (by simp) (AllReadyH.cons (by simp only [List.getElem?_toArray, List.getElem?_cons_succ, List.getElem?_cons_zero]; rfl) (fun K hK => ?_) AllReadyH.nil)
          obtain ⟨fa, fb, fc, fd⟩ := R27.out.2.2.1.facts; go_simp; clear fa fb fc fd
          refine hK.out _ _ (KK.out.2 _ _ _ _ (R27.out.2.2.2.1) hHeld) (fun hHeld => ?_); clear hK K; try simp only [Act.put, List.setIfInBounds_toArray, List.set_cons_zero, List.set_cons_succ]
          have R28 := Lib.hid (And.intro (R27.out.1.put R27.out.2.2.1 R27.out.2.2.2.1 (.bool pb) (.slice Ay ly cy)) (And.intro (R27.out.2.1.put R27.out.2.2.1 (.bool pb) (.slice Ay ly cy)) (And.intro (R27.out.2.2.1.set (.bool pb) (.slice Ay ly cy)) (And.intro (R27.out.2.2.2.1) (And.intro (R27.out.2.2.2.2.1.other2 (R27.out.2.2.2.2.2.2.1) (.bool pb) (.slice Ay ly cy)) (And.intro (R27.out.2.2.2.2.2.1) (And.intro (R27.out.2.2.2.2.2.2.1) ((R27.out.2.2.2.2.2.2.2.put R27.out.2.2.1 (.bool pb) (.slice Ay ly cy))))))))))
          generalize (W27.setCell _ _).setCell _ _ = W28 at R28 hHeld ⊢
          refine wpAnyH_done (by kernel_rfl) ?_ _; clear hHeld
          go_wp2_with fail; go_meet
          exact ⟨_, _, _, _, _, _, _, _, _, _, rfl, rfl, R28.out.1, R28.out.2.2.2.2.1, R28.out.2.2.1, R28.out.2.1, R28.out.2.2.2.2.2.2.2⟩
    ·
      go_simp
      refine hK.out _ _ (KK.out.1 _ _ hHeld) (fun hHeld => ?_); clear hK K; try simp only [Act.put, List.setIfInBounds_toArray, List.set_cons_zero, List.set_cons_succ]
      obtain ⟨gx, hgx⟩ : ∃ g, g = Wd.heap.size := ⟨_, rfl⟩
      have R29 := Lib.hid (And.intro (R0.out.keep (below_al Wd (.cells #[.bool false, .slice none 0 0] 24))) (And.intro (Bx.new 24 Wd (.bool false) (.slice none 0 0)) ((R0.out.out.size))))
      generalize Wd.alloc _ = W29 at R29 hHeld ⊢; rw [← hgx] at R29 ⊢; clear hgx 
      refine wpAnyH_ready (rs := [1, 5]) (by kernel_rfl) (by simp) (AllReadyH.cons (by simp only [List.getElem?_toArray, List.getElem?_cons_succ, List.getElem?_cons_zero]; rfl) (fun K hK => ?_) (AllReadyH.cons (by simp only [List.getElem?_toArray, List.getElem?_cons_succ, List.getElem?_cons_zero]; rfl) (fun K hK => ?_) AllReadyH.nil))
      ·
        go_simp
        go_at_call 14; refine (copy_z (S3.out.2.1.keep R29.out.1) (by have := HG.out; omega)).mono ?_; rintro e w30 ⟨v, rfl, h, hb⟩
        obtain ⟨Ax, lx, cx, rfl, -, h⟩ := h.parts
        have R30 := Lib.hid (And.intro (R29.out.1.keep (hb)) (And.intro (R29.out.2.1.keep (hb)) (And.intro (R29.out.2.2) ((h.out)))))
        have hN : w30.cell? ⟨w.heap.size, 0, none⟩ = some (.bool pa) ∧ w30.cell? ⟨w.heap.size, 1, none⟩ = some (.slice Aa na ca) ∧ w30.cell? ⟨w.heap.size + 1, 0, none⟩ = some (.bool pb) ∧ w30.cell? ⟨w.heap.size + 1, 1, none⟩ = some (.slice Ab nb cb) := ⟨((S3.out.2.2.2.2.2.1.keep R30.out.1)).facts.1, ((S3.out.2.2.2.2.2.1.keep R30.out.1)).facts.2.1, ((S3.out.2.2.2.2.2.2.1.keep R30.out.1)).facts.1, ((S3.out.2.2.2.2.2.2.1.keep R30.out.1)).facts.2.1⟩
        clear hHeld h hb
        go_wp2_with fail
        refine hK.out _ _ hN (fun hHeld => ?_); clear hK K hN; try simp only [Act.put, List.setIfInBounds_toArray, List.set_cons_zero, List.set_cons_succ]
        refine wpAnyH_ready (rs := [3, 5]) (by kernel_rfl) (by simp) (AllReadyH.cons (by simp only [List.getElem?_toArray, List.getElem?_cons_succ, List.getElem?_cons_zero]; rfl) (fun K hK => ?_) (AllReadyH.cons (by simp only [List.getElem?_toArray, List.getElem?_cons_succ, List.getElem?_cons_zero]; rfl) (fun K hK => ?_) AllReadyH.nil))
        ·
          go_simp
          go_at_call 14; refine (copy_z (S3.out.2.2.1.keep R30.out.1) (by have := HG.out; omega)).mono ?_; rintro e w31 ⟨v, rfl, h, hb⟩
          obtain ⟨Ay, ly, cy, rfl, -, h⟩ := h.parts
          have R31 := Lib.hid (And.intro (R30.out.1.keep (hb)) (And.intro (R30.out.2.1.keep (hb)) (And.intro (R30.out.2.2.1) (And.intro (R30.out.2.2.2.keep (hb)) ((h.out))))))
          have hN : w31.cell? ⟨w.heap.size, 0, none⟩ = some (.bool pa) ∧ w31.cell? ⟨w.heap.size, 1, none⟩ = some (.slice Aa na ca) ∧ w31.cell? ⟨w.heap.size + 1, 0, none⟩ = some (.bool pb) ∧ w31.cell? ⟨w.heap.size + 1, 1, none⟩ = some (.slice Ab nb cb) := ⟨((S3.out.2.2.2.2.2.1.keep R31.out.1)).facts.1, ((S3.out.2.2.2.2.2.1.keep R31.out.1)).facts.2.1, ((S3.out.2.2.2.2.2.2.1.keep R31.out.1)).facts.1, ((S3.out.2.2.2.2.2.2.1.keep R31.out.1)).facts.2.1⟩
          clear hHeld h hb
          go_wp2_with fail
          refine hK.out _ _ hN (fun hHeld => ?_); clear hK K hN; try simp only [Act.put, List.setIfInBounds_toArray, List.set_cons_zero, List.set_cons_succ]
          refine wpAnyH_ready (rs := [5]) (by kernel_rfl) (by simp) (AllReadyH.cons (by simp only [List.getElem?_toArray, List.getElem?_cons_succ, List.getElem?_cons_zero]; rfl) (fun K hK => ?_) AllReadyH.nil)
          go_simp
          refine hK.out _ _ (KK.out.1 _ _ hHeld) (fun hHeld => ?_); clear hK K; try simp only [Act.put, List.setIfInBounds_toArray, List.set_cons_zero, List.set_cons_succ]
          obtain ⟨gy, hgy⟩ : ∃ g, g = w31.heap.size := ⟨_, rfl⟩
          have R32 := Lib.hid (And.intro (R31.out.1.keep (below_al w31 (.cells #[.bool false, .slice none 0 0] 24))) (And.intro (R31.out.2.1.keep (below_al w31 (.cells #[.bool false, .slice none 0 0] 24))) (And.intro (R31.out.2.2.1) (And.intro (R31.out.2.2.2.1.keep (below_al w31 (.cells #[.bool false, .slice none 0 0] 24))) (And.intro (R31.out.2.2.2.2.keep (below_al w31 (.cells #[.bool false, .slice none 0 0] 24))) (And.intro (Bx.new 24 w31 (.bool false) (.slice none 0 0)) (And.intro (R31.out.1.out.size) ((Nat.ne_of_lt R31.out.2.1.lt)))))))))
          generalize w31.alloc _ = W32 at R32 hHeld ⊢; rw [← hgy] at R32 ⊢; clear hgy 
          refine wpAnyH_ready (rs := [6]) (by kernel_rfl) (by simp) (AllReadyH.cons (by simp only [List.getElem?_toArray, List.getElem?_cons_succ, List.getElem?_cons_zero]; rfl) (fun K hK => ?_) AllReadyH.nil)
          obtain ⟨fa, fb, fc, fd⟩ := R32.out.2.1.facts; go_simp; clear fa fb fc fd
          refine hK.out _ _ (KK.out.2 _ _ _ _ (R32.out.2.2.1) hHeld) (fun hHeld => ?_); clear hK K; try simp only [Act.put, List.setIfInBounds_toArray, List.set_cons_zero, List.set_cons_succ]
          have R33 := Lib.hid (And.intro (R32.out.1.put R32.out.2.1 R32.out.2.2.1 (.bool pa) (.slice Ax lx cx)) (And.intro (R32.out.2.1.set (.bool pa) (.slice Ax lx cx)) (And.intro (R32.out.2.2.1) (And.intro (R32.out.2.2.2.1.put R32.out.2.1 (.bool pa) (.slice Ax lx cx)) (And.intro (R32.out.2.2.2.2.1.put R32.out.2.1 (.bool pa) (.slice Ax lx cx)) (And.intro (R32.out.2.2.2.2.2.1.other2 (R32.out.2.2.2.2.2.2.2) (.bool pa) (.slice Ax lx cx)) (And.intro (R32.out.2.2.2.2.2.2.1) ((R32.out.2.2.2.2.2.2.2)))))))))
          generalize (W32.setCell _ _).setCell _ _ = W33 at R33 hHeld ⊢
          refine wpAnyH_ready (rs := [7]) (by kernel_rfl) (by simp) (AllReadyH.cons (by simp only [List.getElem?_toArray, List.getElem?_cons_succ, List.getElem?_cons_zero]; rfl) (fun K hK => ?_) AllReadyH.nil)
          obtain ⟨fa, fb, fc, fd⟩ := R33.out.2.2.2.2.2.1.facts; go_simp; clear fa fb fc fd
          refine hK.out _ _ (KK.out.2 _ _ _ _ (R33.out.2.2.2.2.2.2.1) hHeld) (fun hHeld => ?_); clear hK K; try simp only [Act.put, List.setIfInBounds_toArray, List.set_cons_zero, List.set_cons_succ]
          have R34 := Lib.hid (And.intro (R33.out.1.put R33.out.2.2.2.2.2.1 R33.out.2.2.2.2.2.2.1 (.bool pb) (.slice Ay ly cy)) (And.intro (R33.out.2.1.other2 (Ne.symm R33.out.2.2.2.2.2.2.2) (.bool pb) (.slice Ay ly cy)) (And.intro (R33.out.2.2.1) (And.intro (R33.out.2.2.2.1.put R33.out.2.2.2.2.2.1 (.bool pb) (.slice Ay ly cy)) (And.intro (R33.out.2.2.2.2.1.put R33.out.2.2.2.2.2.1 (.bool pb) (.slice Ay ly cy)) (And.intro (R33.out.2.2.2.2.2.1.set (.bool pb) (.slice Ay ly cy)) (And.intro (R33.out.2.2.2.2.2.2.1) ((R33.out.2.2.2.2.2.2.2)))))))))
          generalize (W33.setCell _ _).setCell _ _ = W34 at R34 hHeld ⊢
          refine wpAnyH_done (by kernel_rfl) ?_ _; clear hHeld
          go_wp2_with fail; go_meet
          exact ⟨_, _, _, _, _, _, _, _, _, _, rfl, rfl, R34.out.1, R34.out.2.1, R34.out.2.2.2.2.2.1, R34.out.2.2.2.1, R34.out.2.2.2.2.1⟩
        ·
          go_simp
          refine hK.out _ _ (KK.out.1 _ _ hHeld) (fun hHeld => ?_); clear hK K; try simp only [Act.put, List.setIfInBounds_toArray, List.set_cons_zero, List.set_cons_succ]
          obtain ⟨gy, hgy⟩ : ∃ g, g = w30.heap.size := ⟨_, rfl⟩
          have R35 := Lib.hid (And.intro (R30.out.1.keep (below_al w30 (.cells #[.bool false, .slice none 0 0] 24))) (And.intro (R30.out.2.1.keep (below_al w30 (.cells #[.bool false, .slice none 0 0] 24))) (And.intro (R30.out.2.2.1) (And.intro (R30.out.2.2.2.keep (below_al w30 (.cells #[.bool false, .slice none 0 0] 24))) (And.intro (Bx.new 24 w30 (.bool false) (.slice none 0 0)) (And.intro (R30.out.1.out.size) ((Nat.ne_of_lt R30.out.2.1.lt))))))))
          generalize w30.alloc _ = W35 at R35 hHeld ⊢; rw [← hgy] at R35 ⊢; clear hgy 
          refine wpAnyH_ready (rs := [3]) (by kernel_rfl) (by simp) (AllReadyH.cons (by simp only [List.getElem?_toArray, List.getElem?_cons_succ, List.getElem?_cons_zero]; rfl) (fun K hK => ?_) AllReadyH.nil)
          go_simp
          go_at_call 14; refine (copy_z (S3.out.2.2.1.keep R35.out.1) (by have := HG.out; omega)).mono ?_; rintro e w36 ⟨v, rfl, h, hb⟩
          obtain ⟨Ay, ly, cy, rfl, -, h⟩ := h.parts
          have R36 := Lib.hid (And.intro (R35.out.1.keep (hb)) (And.intro (R35.out.2.1.keep (hb)) (And.intro (R35.out.2.2.1) (And.intro (R35.out.2.2.2.1.keep (hb)) (And.intro (R35.out.2.2.2.2.1.keep (hb)) (And.intro (R35.out.2.2.2.2.2.1) (And.intro (R35.out.2.2.2.2.2.2) ((h.out)))))))))
          have hN : w36.cell? ⟨w.heap.size, 0, none⟩ = some (.bool pa) ∧ w36.cell? ⟨w.heap.size, 1, none⟩ = some (.slice Aa na ca) ∧ w36.cell? ⟨w.heap.size + 1, 0, none⟩ = some (.bool pb) ∧ w36.cell? ⟨w.heap.size + 1, 1, none⟩ = some (.slice Ab nb cb) := ⟨((S3.out.2.2.2.2.2.1.keep R36.out.1)).facts.1, ((S3.out.2.2.2.2.2.1.keep R36.out.1)).facts.2.1, ((S3.out.2.2.2.2.2.2.1.keep R36.out.1)).facts.1, ((S3.out.2.2.2.2.2.2.1.keep R36.out.1)).facts.2.1⟩
          clear hHeld h hb
          go_wp2_with fail
          refine hK.out _ _ hN (fun hHeld => ?_); clear hK K hN; try simp only [Act.put, List.setIfInBounds_toArray, List.set_cons_zero, List.set_cons_succ]
          refine wpAnyH_ready (rs := [6]) (by kernel_rfl) (by simp) (AllReadyH.cons (by simp only [List.getElem?_toArray, List.getElem?_cons_succ, List.getElem?_cons_zero]; rfl) (fun K hK => ?_) AllReadyH.nil)
          obtain ⟨fa, fb, fc, fd⟩ := R36.out.2.1.facts; go_simp; clear fa fb fc fd
          refine hK.out _ _ (KK.out.2 _ _ _ _ (R36.out.2.2.1) hHeld) (fun hHeld => ?_); clear hK K; try simp only [Act.put, List.setIfInBounds_toArray, List.set_cons_zero, List.set_cons_succ]
          have R37 := Lib.hid (And.intro (R36.out.1.put R36.out.2.1 R36.out.2.2.1 (.bool pa) (.slice Ax lx cx)) (And.intro (R36.out.2.1.set (.bool pa) (.slice Ax lx cx)) (And.intro (R36.out.2.2.1) (And.intro (R36.out.2.2.2.1.put R36.out.2.1 (.bool pa) (.slice Ax lx cx)) (And.intro (R36.out.2.2.2.2.1.other2 (R36.out.2.2.2.2.2.2.1) (.bool pa) (.slice Ax lx cx)) (And.intro (R36.out.2.2.2.2.2.1) (And.intro (R36.out.2.2.2.2.2.2.1) ((R36.out.2.2.2.2.2.2.2.put R36.out.2.1 (.bool pa) (.slice Ax lx cx))))))))))
          generalize (w36.setCell _ _).setCell _ _ = W37 at R37 hHeld ⊢
          refine wpAnyH_ready (rs := [7]) (by kernel_rfl) (by simp) (AllReadyH.cons (by simp only [List.getElem?_toArray, List.getElem?_cons_succ, List.getElem?_cons_zero]; rfl) (fun K hK => ?_) AllReadyH.nil)
          obtain ⟨fa, fb, fc, fd⟩ := R37.out.2.2.2.2.1.facts; go_simp; clear fa fb fc fd
          refine hK.out _ _ (KK.out.2 _ _ _ _ (R37.out.2.2.2.2.2.1) hHeld) (fun hHeld => ?_); clear hK K; try simp only [Act.put, List.setIfInBounds_toArray, List.set_cons_zero, List.set_cons_succ]
          have R38 := Lib.hid (And.intro (R37.out.1.put R37.out.2.2.2.2.1 R37.out.2.2.2.2.2.1 (.bool pb) (.slice Ay ly cy)) (And.intro (R37.out.2.1.other2 (Ne.symm R37.out.2.2.2.2.2.2.1) (.bool pb) (.slice Ay ly cy)) (And.intro (R37.out.2.2.1) (And.intro (R37.out.2.2.2.1.put R37.out.2.2.2.2.1 (.bool pb) (.slice Ay ly cy)) (And.intro (R37.out.2.2.2.2.1.set (.bool pb) (.slice Ay ly cy)) (And.intro (R37.out.2.2.2.2.2.1) (And.intro (R37.out.2.2.2.2.2.2.1) ((R37.out.2.2.2.2.2.2.2.put R37.out.2.2.2.2.1 (.bool pb) (.slice Ay ly cy))))))))))
          generalize (W37.setCell _ _).setCell _ _ = W38 at R38 hHeld ⊢
          refine wpAnyH_done (by kernel_rfl) ?_ _; clear hHeld
          go_wp2_with fail; go_meet
          exact ⟨_, _, _, _, _, _, _, _, _, _, rfl, rfl, R38.out.1, R38.out.2.1, R38.out.2.2.2.2.1, R38.out.2.2.2.1, R38.out.2.2.2.2.2.2.2⟩
      ·
        go_simp
        refine hK.out _ _ (KK.out.1 _ _ hHeld) (fun hHeld => ?_); clear hK K; try simp only [Act.put, List.setIfInBounds_toArray, List.set_cons_zero, List.set_cons_succ]
        obtain ⟨gy, hgy⟩ : ∃ g, g = W29.heap.size := ⟨_, rfl⟩
        have R39 := Lib.hid (And.intro (R29.out.1.keep (below_al W29 (.cells #[.bool false, .slice none 0 0] 24))) (And.intro (R29.out.2.1.keep (below_al W29 (.cells #[.bool false, .slice none 0 0] 24))) (And.intro (R29.out.2.2) (And.intro (Bx.new 24 W29 (.bool false) (.slice none 0 0)) (And.intro (R29.out.1.out.size) ((Nat.ne_of_lt R29.out.2.1.lt)))))))
        generalize W29.alloc _ = W39 at R39 hHeld ⊢; rw [← hgy] at R39 ⊢; clear hgy 
        refine wpAnyH_ready (rs := [1]) (by kernel_rfl) (by simp) (AllReadyH.cons (by simp only [List.getElem?_toArray, List.getElem?_cons_succ, List.getElem?_cons_zero]; rfl) (fun K hK => ?_) AllReadyH.nil)
        go_simp
        go_at_call 14; refine (copy_z (S3.out.2.1.keep R39.out.1) (by have := HG.out; omega)).mono ?_; rintro e w40 ⟨v, rfl, h, hb⟩
        obtain ⟨Ax, lx, cx, rfl, -, h⟩ := h.parts
        have R40 := Lib.hid (And.intro (R39.out.1.keep (hb)) (And.intro (R39.out.2.1.keep (hb)) (And.intro (R39.out.2.2.1) (And.intro (R39.out.2.2.2.1.keep (hb)) (And.intro (R39.out.2.2.2.2.1) (And.intro (R39.out.2.2.2.2.2) ((h.out))))))))
        have hN : w40.cell? ⟨w.heap.size, 0, none⟩ = some (.bool pa) ∧ w40.cell? ⟨w.heap.size, 1, none⟩ = some (.slice Aa na ca) ∧ w40.cell? ⟨w.heap.size + 1, 0, none⟩ = some (.bool pb) ∧ w40.cell? ⟨w.heap.size + 1, 1, none⟩ = some (.slice Ab nb cb) := ⟨((S3.out.2.2.2.2.2.1.keep R40.out.1)).facts.1, ((S3.out.2.2.2.2.2.1.keep R40.out.1)).facts.2.1, ((S3.out.2.2.2.2.2.2.1.keep R40.out.1)).facts.1, ((S3.out.2.2.2.2.2.2.1.keep R40.out.1)).facts.2.1⟩
        clear hHeld h hb
        go_wp2_with fail
        refine hK.out _ _ hN (fun hHeld => ?_); clear hK K hN; try simp only [Act.put, List.setIfInBounds_toArray, List.set_cons_zero, List.set_cons_succ]
        refine wpAnyH_ready (rs := [3]) (by kernel_rfl) (by simp) (AllReadyH.cons (by simp only [List.getElem?_toArray, List.getElem?_cons_succ, List.getElem?_cons_zero]; rfl) (fun K hK => ?_) AllReadyH.nil)
        go_simp
        go_at_call 14; refine (copy_z (S3.out.2.2.1.keep R40.out.1) (by have := HG.out; omega)).mono ?_; rintro e w41 ⟨v, rfl, h, hb⟩
        obtain ⟨Ay, ly, cy, rfl, -, h⟩ := h.parts
        have R41 := Lib.hid (And.intro (R40.out.1.keep (hb)) (And.intro (R40.out.2.1.keep (hb)) (And.intro (R40.out.2.2.1) (And.intro (R40.out.2.2.2.1.keep (hb)) (And.intro (R40.out.2.2.2.2.1) (And.intro (R40.out.2.2.2.2.2.1) (And.intro (R40.out.2.2.2.2.2.2.keep (hb)) ((h.out)))))))))
        have hN : w41.cell? ⟨w.heap.size, 0, none⟩ = some (.bool pa) ∧ w41.cell? ⟨w.heap.size, 1, none⟩ = some (.slice Aa na ca) ∧ w41.cell? ⟨w.heap.size + 1, 0, none⟩ = some (.bool pb) ∧ w41.cell? ⟨w.heap.size + 1, 1, none⟩ = some (.slice Ab nb cb) := ⟨((S3.out.2.2.2.2.2.1.keep R41.out.1)).facts.1, ((S3.out.2.2.2.2.2.1.keep R41.out.1)).facts.2.1, ((S3.out.2.2.2.2.2.2.1.keep R41.out.1)).facts.1, ((S3.out.2.2.2.2.2.2.1.keep R41.out.1)).facts.2.1⟩
        clear hHeld h hb
        go_wp2_with fail
        refine hK.out _ _ hN (fun hHeld => ?_); clear hK K hN; try simp only [Act.put, List.setIfInBounds_toArray, List.set_cons_zero, List.set_cons_succ]
        refine wpAnyH_ready (rs := [6]) (by kernel_rfl) (by simp) (AllReadyH.cons (by simp only [List.getElem?_toArray, List.getElem?_cons_succ, List.getElem?_cons_zero]; rfl) (fun K hK => ?_) AllReadyH.nil)
        obtain ⟨fa, fb, fc, fd⟩ := R41.out.2.1.facts; go_simp; clear fa fb fc fd
        refine hK.out _ _ (KK.out.2 _ _ _ _ (R41.out.2.2.1) hHeld) (fun hHeld => ?_); clear hK K; try simp only [Act.put, List.setIfInBounds_toArray, List.set_cons_zero, List.set_cons_succ]
        have R42 := Lib.hid (And.intro (R41.out.1.put R41.out.2.1 R41.out.2.2.1 (.bool pa) (.slice Ax lx cx)) (And.intro (R41.out.2.1.set (.bool pa) (.slice Ax lx cx)) (And.intro (R41.out.2.2.1) (And.intro (R41.out.2.2.2.1.other2 (R41.out.2.2.2.2.2.1) (.bool pa) (.slice Ax lx cx)) (And.intro (R41.out.2.2.2.2.1) (And.intro (R41.out.2.2.2.2.2.1) (And.intro (R41.out.2.2.2.2.2.2.1.put R41.out.2.1 (.bool pa) (.slice Ax lx cx)) ((R41.out.2.2.2.2.2.2.2.put R41.out.2.1 (.bool pa) (.slice Ax lx cx))))))))))
        generalize (w41.setCell _ _).setCell _ _ = W42 at R42 hHeld ⊢
        refine wpAnyH_ready (rs := [7]) (by kernel_rfl) (by simp) (AllReadyH.cons (by simp only [List.getElem?_toArray, List.getElem?_cons_succ, List.getElem?_cons_zero]; rfl) (fun K hK => ?_) AllReadyH.nil)
        obtain ⟨fa, fb, fc, fd⟩ := R42.out.2.2.2.1.facts; go_simp; clear fa fb fc fd
        refine hK.out _ _ (KK.out.2 _ _ _ _ (R42.out.2.2.2.2.1) hHeld) (fun hHeld => ?_); clear hK K; try simp only [Act.put, List.setIfInBounds_toArray, List.set_cons_zero, List.set_cons_succ]
        have R43 := Lib.hid (And.intro (R42.out.1.put R42.out.2.2.2.1 R42.out.2.2.2.2.1 (.bool pb) (.slice Ay ly cy)) (And.intro (R42.out.2.1.other2 (Ne.symm R42.out.2.2.2.2.2.1) (.bool pb) (.slice Ay ly cy)) (And.intro (R42.out.2.2.1) (And.intro (R42.out.2.2.2.1.set (.bool pb) (.slice Ay ly cy)) (And.intro (R42.out.2.2.2.2.1) (And.intro (R42.out.2.2.2.2.2.1) (And.intro (R42.out.2.2.2.2.2.2.1.put R42.out.2.2.2.1 (.bool pb) (.slice Ay ly cy)) ((R42.out.2.2.2.2.2.2.2.put R42.out.2.2.2.1 (.bool pb) (.slice Ay ly cy))))))))))
        generalize (W42.setCell _ _).setCell _ _ = W43 at R43 hHeld ⊢
        refine wpAnyH_done (by kernel_rfl) ?_ _; clear hHeld
        go_wp2_with fail; go_meet
        exact ⟨_, _, _, _, _, _, _, _, _, _, rfl, rfl, R43.out.1, R43.out.2.1, R43.out.2.2.2.1, R43.out.2.2.2.2.2.2.1, R43.out.2.2.2.2.2.2.2⟩
    ·
      go_simp
      refine hK.out _ _ (KK.out.1 _ _ hHeld) (fun hHeld => ?_); clear hK K; try simp only [Act.put, List.setIfInBounds_toArray, List.set_cons_zero, List.set_cons_succ]
      obtain ⟨gy, hgy⟩ : ∃ g, g = Wd.heap.size := ⟨_, rfl⟩
      have R44 := Lib.hid (And.intro (R0.out.keep (below_al Wd (.cells #[.bool false, .slice none 0 0] 24))) (And.intro (Bx.new 24 Wd (.bool false) (.slice none 0 0)) ((R0.out.out.size))))
      generalize Wd.alloc _ = W44 at R44 hHeld ⊢; rw [← hgy] at R44 ⊢; clear hgy 
      refine wpAnyH_ready (rs := [1, 4]) (by kernel_rfl) (by simp) (AllReadyH.cons (by simp only [List.getElem?_toArray, List.getElem?_cons_succ, List.getElem?_cons_zero]; rfl) (fun K hK => ?_) (AllReadyH.cons (by simp only [List.getElem?_toArray, List.getElem?_cons_succ, List.getElem?_cons_zero]; rfl) (fun K hK => ?_) AllReadyH.nil))
      ·
        go_simp
        go_at_call 14; refine (copy_z (S3.out.2.1.keep R44.out.1) (by have := HG.out; omega)).mono ?_; rintro e w45 ⟨v, rfl, h, hb⟩
        obtain ⟨Ax, lx, cx, rfl, -, h⟩ := h.parts
        have R45 := Lib.hid (And.intro (R44.out.1.keep (hb)) (And.intro (R44.out.2.1.keep (hb)) (And.intro (R44.out.2.2) ((h.out)))))
        have hN : w45.cell? ⟨w.heap.size, 0, none⟩ = some (.bool pa) ∧ w45.cell? ⟨w.heap.size, 1, none⟩ = some (.slice Aa na ca) ∧ w45.cell? ⟨w.heap.size + 1, 0, none⟩ = some (.bool pb) ∧ w45.cell? ⟨w.heap.size + 1, 1, none⟩ = some (.slice Ab nb cb) := ⟨((S3.out.2.2.2.2.2.1.keep R45.out.1)).facts.1, ((S3.out.2.2.2.2.2.1.keep R45.out.1)).facts.2.1, ((S3.out.2.2.2.2.2.2.1.keep R45.out.1)).facts.1, ((S3.out.2.2.2.2.2.2.1.keep R45.out.1)).facts.2.1⟩
        clear hHeld h hb
        go_wp2_with fail
        refine hK.out _ _ hN (fun hHeld => ?_); clear hK K hN; try simp only [Act.put, List.setIfInBounds_toArray, List.set_cons_zero, List.set_cons_succ]
        refine wpAnyH_ready (rs := [3, 4]) (by kernel_rfl) (by simp) (AllReadyH.cons (by simp only [List.getElem?_toArray, List.getElem?_cons_succ, List.getElem?_cons_zero]; rfl) (fun K hK => ?_) (AllReadyH.cons (by simp only [List.getElem?_toArray, List.getElem?_cons_succ, List.getElem?_cons_zero]; rfl) (fun K hK => ?_) AllReadyH.nil))
        ·
          go_simp
          go_at_call 14; refine (copy_z (S3.out.2.2.1.keep R45.out.1) (by have := HG.out; omega)).mono ?_; rintro e w46 ⟨v, rfl, h, hb⟩
          obtain ⟨Ay, ly, cy, rfl, -, h⟩ := h.parts
          have R46 := Lib.hid (And.intro (R45.out.1.keep (hb)) (And.intro (R45.out.2.1.keep (hb)) (And.intro (R45.out.2.2.1) (And.intro (R45.out.2.2.2.keep (hb)) ((h.out))))))
          have hN : w46.cell? ⟨w.heap.size, 0, none⟩ = some (.bool pa) ∧ w46.cell? ⟨w.heap.size, 1, none⟩ = some (.slice Aa na ca) ∧ w46.cell? ⟨w.heap.size + 1, 0, none⟩ = some (.bool pb) ∧ w46.cell? ⟨w.heap.size + 1, 1, none⟩ = some (.slice Ab nb cb) := ⟨((S3.out.2.2.2.2.2.1.keep R46.out.1)).facts.1, ((S3.out.2.2.2.2.2.1.keep R46.out.1)).facts.2.1, ((S3.out.2.2.2.2.2.2.1.keep R46.out.1)).facts.1, ((S3.out.2.2.2.2.2.2.1.keep R46.out.1)).facts.2.1⟩
          clear hHeld h hb
          go_wp2_with fail
          refine hK.out _ _ hN (fun hHeld => ?_); clear hK K hN; try simp only [Act.put, List.setIfInBounds_toArray, List.set_cons_zero, List.set_cons_succ]
          refine wpAnyH_ready (rs := [4]) (by kernel_rfl) (by simp) (AllReadyH.cons (by simp only [List.getElem?_toArray, List.getElem?_cons_succ, List.getElem?_cons_zero]; rfl) (fun K hK => ?_) AllReadyH.nil)
          go_simp
          refine hK.out _ _ (KK.out.1 _ _ hHeld) (fun hHeld => ?_); clear hK K; try simp only [Act.put, List.setIfInBounds_toArray, List.set_cons_zero, List.set_cons_succ]
          obtain ⟨gx, hgx⟩ : ∃ g, g = w46.heap.size := ⟨_, rfl⟩
          have R47 := Lib.hid (And.intro (R46.out.1.keep (below_al w46 (.cells #[.bool false, .slice none 0 0] 24))) (And.intro (R46.out.2.1.keep (below_al w46 (.cells #[.bool false, .slice none 0 0] 24))) (And.intro (R46.out.2.2.1) (And.intro (R46.out.2.2.2.1.keep (below_al w46 (.cells #[.bool false, .slice none 0 0] 24))) (And.intro (R46.out.2.2.2.2.keep (below_al w46 (.cells #[.bool false, .slice none 0 0] 24))) (And.intro (Bx.new 24 w46 (.bool false) (.slice none 0 0)) (And.intro (R46.out.1.out.size) ((Nat.ne_of_lt R46.out.2.1.lt)))))))))
          generalize w46.alloc _ = W47 at R47 hHeld ⊢; rw [← hgx] at R47 ⊢; clear hgx 
          refine wpAnyH_ready (rs := [6]) (by kernel_rfl) (by simp) (AllReadyH.cons (by simp only [List.getElem?_toArray, List.getElem?_cons_succ, List.getElem?_cons_zero]; rfl) (fun K hK => ?_) AllReadyH.nil)
          obtain ⟨fa, fb, fc, fd⟩ := R47.out.2.2.2.2.2.1.facts; go_simp; clear fa fb fc fd
          refine hK.out _ _ (KK.out.2 _ _ _ _ (R47.out.2.2.2.2.2.2.1) hHeld) (fun hHeld => ?_); clear hK K; try simp only [Act.put, List.setIfInBounds_toArray, List.set_cons_zero, List.set_cons_succ]
          have R48 := Lib.hid (And.intro (R47.out.1.put R47.out.2.2.2.2.2.1 R47.out.2.2.2.2.2.2.1 (.bool pa) (.slice Ax lx cx)) (And.intro (R47.out.2.1.other2 (Ne.symm R47.out.2.2.2.2.2.2.2) (.bool pa) (.slice Ax lx cx)) (And.intro (R47.out.2.2.1) (And.intro (R47.out.2.2.2.1.put R47.out.2.2.2.2.2.1 (.bool pa) (.slice Ax lx cx)) (And.intro (R47.out.2.2.2.2.1.put R47.out.2.2.2.2.2.1 (.bool pa) (.slice Ax lx cx)) (And.intro (R47.out.2.2.2.2.2.1.set (.bool pa) (.slice Ax lx cx)) (And.intro (R47.out.2.2.2.2.2.2.1) ((R47.out.2.2.2.2.2.2.2)))))))))
          generalize (W47.setCell _ _).setCell _ _ = W48 at R48 hHeld ⊢
          refine wpAnyH_ready (rs := [7]) (by kernel_rfl) (by simp) (AllReadyH.cons (by simp only [List.getElem?_toArray, List.getElem?_cons_succ, List.getElem?_cons_zero]; rfl) (fun K hK => ?_) AllReadyH.nil)
          obtain ⟨fa, fb, fc, fd⟩ := R48.out.2.1.facts; go_simp; clear fa fb fc fd
          refine hK.out _ _ (KK.out.2 _ _ _ _ (R48.out.2.2.1) hHeld) (fun hHeld => ?_); clear hK K; try simp only [Act.put, List.setIfInBounds_toArray, List.set_cons_zero, List.set_cons_succ]
          have R49 := Lib.hid (And.intro (R48.out.1.put R48.out.2.1 R48.out.2.2.1 (.bool pb) (.slice Ay ly cy)) (And.intro (R48.out.2.1.set (.bool pb) (.slice Ay ly cy)) (And.intro (R48.out.2.2.1) (And.intro (R48.out.2.2.2.1.put R48.out.2.1 (.bool pb) (.slice Ay ly cy)) (And.intro (R48.out.2.2.2.2.1.put R48.out.2.1 (.bool pb) (.slice Ay ly cy)) (And.intro (R48.out.2.2.2.2.2.1.other2 (R48.out.2.2.2.2.2.2.2) (.bool pb) (.slice Ay ly cy)) (And.intro (R48.out.2.2.2.2.2.2.1) ((R48.out.2.2.2.2.2.2.2)))))))))
          generalize (W48.setCell _ _).setCell _ _ = W49 at R49 hHeld ⊢
          refine wpAnyH_done (by kernel_rfl) ?_ _; clear hHeld
          go_wp2_with fail; go_meet
          exact ⟨_, _, _, _, _, _, _, _, _, _, rfl, rfl, R49.out.1, R49.out.2.2.2.2.2.1, R49.out.2.1, R49.out.2.2.2.1, R49.out.2.2.2.2.1⟩
        ·
          go_simp
          refine hK.out _ _ (KK.out.1 _ _ hHeld) (fun hHeld => ?_); clear hK K; try simp only [Act.put, List.setIfInBounds_toArray, List.set_cons_zero, List.set_cons_succ]
          obtain ⟨gx, hgx⟩ : ∃ g, g = w45.heap.size := ⟨_, rfl⟩
          have R50 := Lib.hid (And.intro (R45.out.1.keep (below_al w45 (.cells #[.bool false, .slice none 0 0] 24))) (And.intro (R45.out.2.1.keep (below_al w45 (.cells #[.bool false, .slice none 0 0] 24))) (And.intro (R45.out.2.2.1) (And.intro (R45.out.2.2.2.keep (below_al w45 (.cells #[.bool false, .slice none 0 0] 24))) (And.intro (Bx.new 24 w45 (.bool false) (.slice none 0 0)) (And.intro (R45.out.1.out.size) ((Nat.ne_of_lt R45.out.2.1.lt))))))))
          generalize w45.alloc _ = W50 at R50 hHeld ⊢; rw [← hgx] at R50 ⊢; clear hgx 
          refine wpAnyH_ready (rs := [3]) (by kernel_rfl) (by simp) (AllReadyH.cons (by simp only [List.getElem?_toArray, List.getElem?_cons_succ, List.getElem?_cons_zero]; rfl) (fun K hK => ?_) AllReadyH.nil)
          go_simp
          go_at_call 14; refine (copy_z (S3.out.2.2.1.keep R50.out.1) (by have := HG.out; omega)).mono ?_; rintro e w51 ⟨v, rfl, h, hb⟩
          obtain ⟨Ay, ly, cy, rfl, -, h⟩ := h.parts
          have R51 := Lib.hid (And.intro (R50.out.1.keep (hb)) (And.intro (R50.out.2.1.keep (hb)) (And.intro (R50.out.2.2.1) (And.intro (R50.out.2.2.2.1.keep (hb)) (And.intro (R50.out.2.2.2.2.1.keep (hb)) (And.intro (R50.out.2.2.2.2.2.1) (And.intro (R50.out.2.2.2.2.2.2) ((h.out)))))))))
          have hN : w51.cell? ⟨w.heap.size, 0, none⟩ = some (.bool pa) ∧ w51.cell? ⟨w.heap.size, 1, none⟩ = some (.slice Aa na ca) ∧ w51.cell? ⟨w.heap.size + 1, 0, none⟩ = some (.bool pb) ∧ w51.cell? ⟨w.heap.size + 1, 1, none⟩ = some (.slice Ab nb cb) := ⟨((S3.out.2.2.2.2.2.1.keep R51.out.1)).facts.1, ((S3.out.2.2.2.2.2.1.keep R51.out.1)).facts.2.1, ((S3.out.2.2.2.2.2.2.1.keep R51.out.1)).facts.1, ((S3.out.2.2.2.2.2.2.1.keep R51.out.1)).facts.2.1⟩
          clear hHeld h hb
          go_wp2_with fail
          refine hK.out _ _ hN (fun hHeld => ?_); clear hK K hN; try simp only [Act.put, List.setIfInBounds_toArray, List.set_cons_zero, List.set_cons_succ]
          refine wpAnyH_ready (rs := [6]) (by kernel_rfl) (by simp) (AllReadyH.cons (by simp only [List.getElem?_toArray, List.getElem?_cons_succ, List.getElem?_cons_zero]; rfl) (fun K hK => ?_) AllReadyH.nil)
          obtain ⟨fa, fb, fc, fd⟩ := R51.out.2.2.2.2.1.facts; go_simp; clear fa fb fc fd
          refine hK.out _ _ (KK.out.2 _ _ _ _ (R51.out.2.2.2.2.2.1) hHeld) (fun hHeld => ?_); clear hK K; try simp only [Act.put, List.setIfInBounds_toArray, List.set_cons_zero, List.set_cons_succ]
          have R52 := Lib.hid (And.intro (R51.out.1.put R51.out.2.2.2.2.1 R51.out.2.2.2.2.2.1 (.bool pa) (.slice Ax lx cx)) (And.intro (R51.out.2.1.other2 (Ne.symm R51.out.2.2.2.2.2.2.1) (.bool pa) (.slice Ax lx cx)) (And.intro (R51.out.2.2.1) (And.intro (R51.out.2.2.2.1.put R51.out.2.2.2.2.1 (.bool pa) (.slice Ax lx cx)) (And.intro (R51.out.2.2.2.2.1.set (.bool pa) (.slice Ax lx cx)) (And.intro (R51.out.2.2.2.2.2.1) (And.intro (R51.out.2.2.2.2.2.2.1) ((R51.out.2.2.2.2.2.2.2.put R51.out.2.2.2.2.1 (.bool pa) (.slice Ax lx cx))))))))))
          generalize (w51.setCell _ _).setCell _ _ = W52 at R52 hHeld ⊢
          refine wpAnyH_ready (rs := [7]) (by kernel_rfl) (by simp) (AllReadyH.cons (by simp only [List.getElem?_toArray, List.getElem?_cons_succ, List.getElem?_cons_zero]; rfl) (fun K hK => ?_) AllReadyH.nil)
          obtain ⟨fa, fb, fc, fd⟩ := R52.out.2.1.facts; go_simp; clear fa fb fc fd
          refine hK.out _ _ (KK.out.2 _ _ _ _ (R52.out.2.2.1) hHeld) (fun hHeld => ?_); clear hK K; try simp only [Act.put, List.setIfInBounds_toArray, List.set_cons_zero, List.set_cons_succ]
          have R53 := Lib.hid (And.intro (R52.out.1.put R52.out.2.1 R52.out.2.2.1 (.bool pb) (.slice Ay ly cy)) (And.intro (R52.out.2.1.set (.bool pb) (.slice Ay ly cy)) (And.intro (R52.out.2.2.1) (And.intro (R52.out.2.2.2.1.put R52.out.2.1 (.bool pb) (.slice Ay ly cy)) (And.intro (R52.out.2.2.2.2.1.other2 (R52.out.2.2.2.2.2.2.1) (.bool pb) (.slice Ay ly cy)) (And.intro (R52.out.2.2.2.2.2.1) (And.intro (R52.out.2.2.2.2.2.2.1) ((R52.out.2.2.2.2.2.2.2.put R52.out.2.1 (.bool pb) (.slice Ay ly cy))))))))))
          generalize (W52.setCell _ _).setCell _ _ = W53 at R53 hHeld ⊢
          refine wpAnyH_done (by kernel_rfl) ?_ _; clear hHeld
          go_wp2_with fail; go_meet
          exact ⟨_, _, _, _, _, _, _, _, _, _, rfl, rfl, R53.out.1, R53.out.2.2.2.2.1, R53.out.2.1, R53.out.2.2.2.1, R53.out.2.2.2.2.2.2.2⟩
      ·
        go_simp
        refine hK.out _ _ (KK.out.1 _ _ hHeld) (fun hHeld => ?_); clear hK K; try simp only [Act.put, List.setIfInBounds_toArray, List.set_cons_zero, List.set_cons_succ]
        obtain ⟨gx, hgx⟩ : ∃ g, g = W44.heap.size := ⟨_, rfl⟩
        have R54 := Lib.hid (And.intro (R44.out.1.keep (below_al W44 (.cells #[.bool false, .slice none 0 0] 24))) (And.intro (R44.out.2.1.keep (below_al W44 (.cells #[.bool false, .slice none 0 0] 24))) (And.intro (R44.out.2.2) (And.intro (Bx.new 24 W44 (.bool false) (.slice none 0 0)) (And.intro (R44.out.1.out.size) ((Nat.ne_of_lt R44.out.2.1.lt)))))))
        generalize W44.alloc _ = W54 at R54 hHeld ⊢; rw [← hgx] at R54 ⊢; clear hgx 
        refine wpAnyH_ready (rs := [1]) (by kernel_rfl) (by simp) (AllReadyH.cons (by simp only [List.getElem?_toArray, List.getElem?_cons_succ, List.getElem?_cons_zero]; rfl) (fun K hK => ?_) AllReadyH.nil)
        go_simp
        go_at_call 14; refine (copy_z (S3.out.2.1.keep R54.out.1) (by have := HG.out; omega)).mono ?_; rintro e w55 ⟨v, rfl, h, hb⟩
        obtain ⟨Ax, lx, cx, rfl, -, h⟩ := h.parts
        have R55 := Lib.hid (And.intro (R54.out.1.keep (hb)) (And.intro (R54.out.2.1.keep (hb)) (And.intro (R54.out.2.2.1) (And.intro (R54.out.2.2.2.1.keep (hb)) (And.intro (R54.out.2.2.2.2.1) (And.intro (R54.out.2.2.2.2.2) ((h.out))))))))
        have hN : w55.cell? ⟨w.heap.size, 0, none⟩ = some (.bool pa) ∧ w55.cell? ⟨w.heap.size, 1, none⟩ = some (.slice Aa na ca) ∧ w55.cell? ⟨w.heap.size + 1, 0, none⟩ = some (.bool pb) ∧ w55.cell? ⟨w.heap.size + 1, 1, none⟩ = some (.slice Ab nb cb) := ⟨((S3.out.2.2.2.2.2.1.keep R55.out.1)).facts.1, ((S3.out.2.2.2.2.2.1.keep R55.out.1)).facts.2.1, ((S3.out.2.2.2.2.2.2.1.keep R55.out.1)).facts.1, ((S3.out.2.2.2.2.2.2.1.keep R55.out.1)).facts.2.1⟩
        clear hHeld h hb
        go_wp2_with fail
        refine hK.out _ _ hN (fun hHeld => ?_); clear hK K hN; try simp only [Act.put, List.setIfInBounds_toArray, List.set_cons_zero, List.set_cons_succ]
        refine wpAnyH_ready (rs := [3]) (by kernel_rfl) (by simp) (AllReadyH.cons (by simp only [List.getElem?_toArray, List.getElem?_cons_succ, List.getElem?_cons_zero]; rfl) (fun K hK => ?_) AllReadyH.nil)
        go_simp
        go_at_call 14; refine (copy_z (S3.out.2.2.1.keep R55.out.1) (by have := HG.out; omega)).mono ?_; rintro e w56 ⟨v, rfl, h, hb⟩
        obtain ⟨Ay, ly, cy, rfl, -, h⟩ := h.parts
        have R56 := Lib.hid (And.intro (R55.out.1.keep (hb)) (And.intro (R55.out.2.1.keep (hb)) (And.intro (R55.out.2.2.1) (And.intro (R55.out.2.2.2.1.keep (hb)) (And.intro (R55.out.2.2.2.2.1) (And.intro (R55.out.2.2.2.2.2.1) (And.intro (R55.out.2.2.2.2.2.2.keep (hb)) ((h.out)))))))))
        have hN : w56.cell? ⟨w.heap.size, 0, none⟩ = some (.bool pa) ∧ w56.cell? ⟨w.heap.size, 1, none⟩ = some (.slice Aa na ca) ∧ w56.cell? ⟨w.heap.size + 1, 0, none⟩ = some (.bool pb) ∧ w56.cell? ⟨w.heap.size + 1, 1, none⟩ = some (.slice Ab nb cb) := ⟨((S3.out.2.2.2.2.2.1.keep R56.out.1)).facts.1, ((S3.out.2.2.2.2.2.1.keep R56.out.1)).facts.2.1, ((S3.out.2.2.2.2.2.2.1.keep R56.out.1)).facts.1, ((S3.out.2.2.2.2.2.2.1.keep R56.out.1)).facts.2.1⟩
        clear hHeld h hb
        go_wp2_with fail
        refine hK.out _ _ hN (fun hHeld => ?_); clear hK K hN; try simp only [Act.put, List.setIfInBounds_toArray, List.set_cons_zero, List.set_cons_succ]
        refine wpAnyH_ready (rs := [6]) (by kernel_rfl) (by simp) (AllReadyH.cons (by simp only [List.getElem?_toArray, List.getElem?_cons_succ, List.getElem?_cons_zero]; rfl) (fun K hK => ?_) AllReadyH.nil)
        obtain ⟨fa, fb, fc, fd⟩ := R56.out.2.2.2.1.facts; go_simp; clear fa fb fc fd
        refine hK.out _ _ (KK.out.2 _ _ _ _ (R56.out.2.2.2.2.1) hHeld) (fun hHeld => ?_); clear hK K; try simp only [Act.put, List.setIfInBounds_toArray, List.set_cons_zero, List.set_cons_succ]
        have R57 := Lib.hid (And.intro (R56.out.1.put R56.out.2.2.2.1 R56.out.2.2.2.2.1 (.bool pa) (.slice Ax lx cx)) (And.intro (R56.out.2.1.other2 (Ne.symm R56.out.2.2.2.2.2.1) (.bool pa) (.slice Ax lx cx)) (And.intro (R56.out.2.2.1) (And.intro (R56.out.2.2.2.1.set (.bool pa) (.slice Ax lx cx)) (And.intro (R56.out.2.2.2.2.1) (And.intro (R56.out.2.2.2.2.2.1) (And.intro (R56.out.2.2.2.2.2.2.1.put R56.out.2.2.2.1 (.bool pa) (.slice Ax lx cx)) ((R56.out.2.2.2.2.2.2.2.put R56.out.2.2.2.1 (.bool pa) (.slice Ax lx cx))))))))))
        generalize (w56.setCell _ _).setCell _ _ = W57 at R57 hHeld ⊢
        refine wpAnyH_ready (rs := [7]) (by kernel_rfl) (by simp) (AllReadyH.cons (by simp only [List.getElem?_toArray, List.getElem?_cons_succ, List.getElem?_cons_zero]; rfl) (fun K hK => ?_) AllReadyH.nil)
        obtain ⟨fa, fb, fc, fd⟩ := R57.out.2.1.facts; go_simp; clear fa fb fc fd
        refine hK.out _ _ (KK.out.2 _ _ _ _ (R57.out.2.2.1) hHeld) (fun hHeld => ?_); clear hK K; try simp only [Act.put, List.setIfInBounds_toArray, List.set_cons_zero, List.set_cons_succ]
        have R58 := Lib.hid (And.intro (R57.out.1.put R57.out.2.1 R57.out.2.2.1 (.bool pb) (.slice Ay ly cy)) (And.intro (R57.out.2.1.set (.bool pb) (.slice Ay ly cy)) (And.intro (R57.out.2.2.1) (And.intro (R57.out.2.2.2.1.other2 (R57.out.2.2.2.2.2.1) (.bool pb) (.slice Ay ly cy)) (And.intro (R57.out.2.2.2.2.1) (And.intro (R57.out.2.2.2.2.2.1) (And.intro (R57.out.2.2.2.2.2.2.1.put R57.out.2.1 (.bool pb) (.slice Ay ly cy)) ((R57.out.2.2.2.2.2.2.2.put R57.out.2.1 (.bool pb) (.slice Ay ly cy))))))))))
        generalize (W57.setCell _ _).setCell _ _ = W58 at R58 hHeld ⊢
        refine wpAnyH_done (by kernel_rfl) ?_ _; clear hHeld
        go_wp2_with fail; go_meet
        exact ⟨_, _, _, _, _, _, _, _, _, _, rfl, rfl, R58.out.1, R58.out.2.2.2.1, R58.out.2.1, R58.out.2.2.2.2.2.2.1, R58.out.2.2.2.2.2.2.2⟩
  case rest =>
    obtain ⟨gx, px, Ax, lx, cx, gy, py, Ay, ly, cy, rfl, rfl, hs, h0, h1, h2, h3⟩ := hcut
    have S4 := Lib.hid (And.intro (S3.out.1.keep hs) (And.intro (S3.out.2.1.keep hs) (And.intro (S3.out.2.2.1.keep hs) (And.intro (S3.out.2.2.2.1.keep hs) (And.intro (S3.out.2.2.2.2.1.keep hs) (And.intro (S3.out.2.2.2.2.2.1.keep hs) (And.intro (S3.out.2.2.2.2.2.2.1.keep hs) (And.intro (hs) (And.intro (h0) (And.intro (h1) (And.intro (h2) (And.intro (h3) (below_trans (S3.out.2.2.2.2.2.2.2) hs)))))))))))))
    clear hs h0 h1 h2 h3 HW KK S3
    generalize wc = V4 at S4 ⊢
    have SC := S4
    obtain ⟨xa, xb, -, -⟩ := S4.out.2.2.2.2.2.2.2.2.1.facts
    obtain ⟨ya, yb, -, -⟩ := S4.out.2.2.2.2.2.2.2.2.2.1.facts
    go_wp2_with fail
    refine (divFloor_z (L1 := 12) (L2 := 12) (x := x) (y := y) (by rw [HX.out.1]; exact S4.out.2.2.2.2.2.2.2.2.2.2.1.zn HG.out.1) (by rw [HX.out.2]; exact S4.out.2.2.2.2.2.2.2.2.2.2.2.1.zn HG.out.2) (by decide) (by decide) HE.out.1).mono ?_; rintro e w5 ⟨v3, v4, rfl, h, hh⟩
    obtain ⟨pq, Aq, lq, cq, rfl, -⟩ := h.parts
    obtain ⟨pr, Ar, lr, cr, rfl, -⟩ := hh.parts
    have S5 := Lib.hid (And.intro (S4.out.1.keep (h.below)) (And.intro (S4.out.2.1.keep (h.below)) (And.intro (S4.out.2.2.1.keep (h.below)) (And.intro (S4.out.2.2.2.1.keep (h.below)) (And.intro (S4.out.2.2.2.2.1.keep (h.below)) (And.intro (S4.out.2.2.2.2.2.1.keep (h.below)) (And.intro (S4.out.2.2.2.2.2.2.1.keep (h.below)) (And.intro (S4.out.2.2.2.2.2.2.2.1.keep (h.below)) (And.intro (S4.out.2.2.2.2.2.2.2.2.1.keep (h.below)) (And.intro (S4.out.2.2.2.2.2.2.2.2.2.1.keep (h.below)) (And.intro (S4.out.2.2.2.2.2.2.2.2.2.2.1.keep (h.below)) (And.intro (S4.out.2.2.2.2.2.2.2.2.2.2.2.1.keep (h.below)) (And.intro (h.zo) (And.intro (hh.zo) (And.intro (h.om (Nat.le_refl _)) (And.intro (hh.om (Nat.le_refl _)) (And.intro ((show Since V4 _ from h.below)) (below_trans (S4.out.2.2.2.2.2.2.2.2.2.2.2.2) (h.below)))))))))))))))))))
    clear h hh xa xb ya yb S4
    go_upto_region 7 with (fail)
    obtain ⟨h0, h1, hb⟩ := box2 w5 24 24 (.bool pq) (.slice Aq lq cq) (.bool pr) (.slice Ar lr cr)
    obtain ⟨gq, hgq⟩ : ∃ g, g = w5.heap.size := ⟨_, rfl⟩
    obtain ⟨gr, hgr⟩ : ∃ g, g = w5.heap.size + 1 := ⟨_, rfl⟩
    have S6 := Lib.hid (And.intro (S5.out.1.keep (hb)) (And.intro (S5.out.2.1.keep (hb)) (And.intro (S5.out.2.2.1.keep (hb)) (And.intro (S5.out.2.2.2.1.keep (hb)) (And.intro (S5.out.2.2.2.2.1.keep (hb)) (And.intro (S5.out.2.2.2.2.2.1.keep (hb)) (And.intro (S5.out.2.2.2.2.2.2.1.keep (hb)) (And.intro (S5.out.2.2.2.2.2.2.2.1.keep (hb)) (And.intro (S5.out.2.2.2.2.2.2.2.2.1.keep (hb)) (And.intro (S5.out.2.2.2.2.2.2.2.2.2.1.keep (hb)) (And.intro (S5.out.2.2.2.2.2.2.2.2.2.2.1.keep (hb)) (And.intro (S5.out.2.2.2.2.2.2.2.2.2.2.2.1.keep (hb)) (And.intro (S5.out.2.2.2.2.2.2.2.2.2.2.2.2.1.keep (hb)) (And.intro (S5.out.2.2.2.2.2.2.2.2.2.2.2.2.2.1.keep (hb)) (And.intro (S5.out.2.2.2.2.2.2.2.2.2.2.2.2.2.2.1.keep (hb)) (And.intro (S5.out.2.2.2.2.2.2.2.2.2.2.2.2.2.2.2.1.keep (hb)) (And.intro (S5.out.2.2.2.2.2.2.2.2.2.2.2.2.2.2.2.2.1.keep (hb)) (And.intro (h0) (And.intro (h1) (below_trans (S5.out.2.2.2.2.2.2.2.2.2.2.2.2.2.2.2.2.2) (hb)))))))))))))))))))))
    clear hb h0 h1 S5
    generalize ((w5.alloc _).alloc _) = Wq at S6 ⊢
    rw [← hgr] at S6 ⊢
    rw [← hgq] at S6 ⊢
    clear hgq hgr
    obtain ⟨ba, bb, -, -⟩ := S6.out.2.2.2.2.2.2.1.facts
    go_wp2_with fail
    refine (I.of_d S6.out.2.2.2.2.1 (by decide)).mono ?_; rintro e w7 ⟨v5, rfl, h, hb⟩
    obtain ⟨pn, An, ln, cn, rfl⟩ := Zd.pat h
    have S7 := Lib.hid (And.intro (S6.out.1.keep (hb)) (And.intro (S6.out.2.1.keep (hb)) (And.intro (S6.out.2.2.1.keep (hb)) (And.intro (S6.out.2.2.2.1.keep (hb)) (And.intro (S6.out.2.2.2.2.1.keep (hb)) (And.intro (S6.out.2.2.2.2.2.1.keep (hb)) (And.intro (S6.out.2.2.2.2.2.2.1.keep (hb)) (And.intro (S6.out.2.2.2.2.2.2.2.1.keep (hb)) (And.intro (S6.out.2.2.2.2.2.2.2.2.1.keep (hb)) (And.intro (S6.out.2.2.2.2.2.2.2.2.2.1.keep (hb)) (And.intro (S6.out.2.2.2.2.2.2.2.2.2.2.1.keep (hb)) (And.intro (S6.out.2.2.2.2.2.2.2.2.2.2.2.1.keep (hb)) (And.intro (S6.out.2.2.2.2.2.2.2.2.2.2.2.2.1.keep (hb)) (And.intro (S6.out.2.2.2.2.2.2.2.2.2.2.2.2.2.1.keep (hb)) (And.intro (S6.out.2.2.2.2.2.2.2.2.2.2.2.2.2.2.1.keep (hb)) (And.intro (S6.out.2.2.2.2.2.2.2.2.2.2.2.2.2.2.2.1.keep (hb)) (And.intro (S6.out.2.2.2.2.2.2.2.2.2.2.2.2.2.2.2.2.1.keep (hb)) (And.intro (S6.out.2.2.2.2.2.2.2.2.2.2.2.2.2.2.2.2.2.1.keep (hb)) (And.intro (S6.out.2.2.2.2.2.2.2.2.2.2.2.2.2.2.2.2.2.2.1.keep (hb)) (And.intro (h) (below_trans (S6.out.2.2.2.2.2.2.2.2.2.2.2.2.2.2.2.2.2.2.2) (hb))))))))))))))))))))))
    clear h hb ba bb S6
    go_upto_region 8 with (fail)
    obtain ⟨h0, hb⟩ := box1 w7 33 (.bool pn) (.slice An ln cn)
    obtain ⟨gn, hgn⟩ : ∃ g, g = w7.heap.size := ⟨_, rfl⟩
    have S8 := Lib.hid (And.intro (S7.out.1.keep (hb)) (And.intro (S7.out.2.1.keep (hb)) (And.intro (S7.out.2.2.1.keep (hb)) (And.intro (S7.out.2.2.2.1.keep (hb)) (And.intro (S7.out.2.2.2.2.1.keep (hb)) (And.intro (S7.out.2.2.2.2.2.1.keep (hb)) (And.intro (S7.out.2.2.2.2.2.2.1.keep (hb)) (And.intro (S7.out.2.2.2.2.2.2.2.1.keep (hb)) (And.intro (S7.out.2.2.2.2.2.2.2.2.1.keep (hb)) (And.intro (S7.out.2.2.2.2.2.2.2.2.2.1.keep (hb)) (And.intro (S7.out.2.2.2.2.2.2.2.2.2.2.1.keep (hb)) (And.intro (S7.out.2.2.2.2.2.2.2.2.2.2.2.1.keep (hb)) (And.intro (S7.out.2.2.2.2.2.2.2.2.2.2.2.2.1.keep (hb)) (And.intro (S7.out.2.2.2.2.2.2.2.2.2.2.2.2.2.1.keep (hb)) (And.intro (S7.out.2.2.2.2.2.2.2.2.2.2.2.2.2.2.1.keep (hb)) (And.intro (S7.out.2.2.2.2.2.2.2.2.2.2.2.2.2.2.2.1.keep (hb)) (And.intro (S7.out.2.2.2.2.2.2.2.2.2.2.2.2.2.2.2.2.1.keep (hb)) (And.intro (S7.out.2.2.2.2.2.2.2.2.2.2.2.2.2.2.2.2.2.1.keep (hb)) (And.intro (S7.out.2.2.2.2.2.2.2.2.2.2.2.2.2.2.2.2.2.2.1.keep (hb)) (And.intro (S7.out.2.2.2.2.2.2.2.2.2.2.2.2.2.2.2.2.2.2.2.1.keep (hb)) (And.intro (h0) (below_trans (S7.out.2.2.2.2.2.2.2.2.2.2.2.2.2.2.2.2.2.2.2.2) (hb)))))))))))))))))))))))
    clear hb h0 S7
    generalize w7.alloc _ = Wn at S8 ⊢
    rw [← hgn] at S8 ⊢
    clear hgn
    obtain ⟨na, nb, -, -⟩ := S8.out.2.2.2.2.2.2.2.2.2.2.2.2.2.2.2.2.2.2.2.2.1.facts
    go_wp2_with fail
    refine (sign_dk HE.out.2 S8.out.2.2.2.2.2.2.2.2.2.2.2.2.2.2.2.2.2.2.2.1).mono ?_; rintro e w9 ⟨rfl, hb⟩
    have S9 := Lib.hid (And.intro (S8.out.1.keep (hb)) (And.intro (S8.out.2.1.keep (hb)) (And.intro (S8.out.2.2.1.keep (hb)) (And.intro (S8.out.2.2.2.1.keep (hb)) (And.intro (S8.out.2.2.2.2.1.keep (hb)) (And.intro (S8.out.2.2.2.2.2.1.keep (hb)) (And.intro (S8.out.2.2.2.2.2.2.1.keep (hb)) (And.intro (S8.out.2.2.2.2.2.2.2.1.keep (hb)) (And.intro (S8.out.2.2.2.2.2.2.2.2.1.keep (hb)) (And.intro (S8.out.2.2.2.2.2.2.2.2.2.1.keep (hb)) (And.intro (S8.out.2.2.2.2.2.2.2.2.2.2.1.keep (hb)) (And.intro (S8.out.2.2.2.2.2.2.2.2.2.2.2.1.keep (hb)) (And.intro (S8.out.2.2.2.2.2.2.2.2.2.2.2.2.1.keep (hb)) (And.intro (S8.out.2.2.2.2.2.2.2.2.2.2.2.2.2.1.keep (hb)) (And.intro (S8.out.2.2.2.2.2.2.2.2.2.2.2.2.2.2.1.keep (hb)) (And.intro (S8.out.2.2.2.2.2.2.2.2.2.2.2.2.2.2.2.1.keep (hb)) (And.intro (S8.out.2.2.2.2.2.2.2.2.2.2.2.2.2.2.2.2.1.keep (hb)) (And.intro (S8.out.2.2.2.2.2.2.2.2.2.2.2.2.2.2.2.2.2.1.keep (hb)) (And.intro (S8.out.2.2.2.2.2.2.2.2.2.2.2.2.2.2.2.2.2.2.1.keep (hb)) (And.intro (S8.out.2.2.2.2.2.2.2.2.2.2.2.2.2.2.2.2.2.2.2.1.keep (hb)) (And.intro (S8.out.2.2.2.2.2.2.2.2.2.2.2.2.2.2.2.2.2.2.2.2.1.keep (hb)) (below_trans (S8.out.2.2.2.2.2.2.2.2.2.2.2.2.2.2.2.2.2.2.2.2.2) (hb)))))))))))))))))))))))
    clear hb na nb S8
    have HW := Lib.hid (Since.refl w9)
    go_upto_region 10 with (fail)
    have kal : ∀ (W : World) (o : Obj), (W.cell? ⟨w.heap.size, 0, none⟩ = some (.bool pa) ∧ W.cell? ⟨w.heap.size, 1, none⟩ = some (.slice Aa na ca) ∧ W.cell? ⟨gn, 0, none⟩ = some (.bool pn) ∧ W.cell? ⟨gn, 1, none⟩ = some (.slice An ln cn)) → ((W.alloc o).cell? ⟨w.heap.size, 0, none⟩ = some (.bool pa) ∧ (W.alloc o).cell? ⟨w.heap.size, 1, none⟩ = some (.slice Aa na ca) ∧ (W.alloc o).cell? ⟨gn, 0, none⟩ = some (.bool pn) ∧ (W.alloc o).cell? ⟨gn, 1, none⟩ = some (.slice An ln cn)) := fun W o h => ⟨cell_al _ (h.1), cell_al _ (h.2.1), cell_al _ (h.2.2.1), cell_al _ (h.2.2.2)⟩
    have kst : ∀ (W : World) (g : Nat) (x y : Value), w9.heap.size ≤ g → (W.cell? ⟨w.heap.size, 0, none⟩ = some (.bool pa) ∧ W.cell? ⟨w.heap.size, 1, none⟩ = some (.slice Aa na ca) ∧ W.cell? ⟨gn, 0, none⟩ = some (.bool pn) ∧ W.cell? ⟨gn, 1, none⟩ = some (.slice An ln cn)) → (((W.setCell ⟨g, 0, none⟩ x).setCell ⟨g, 1, none⟩ y).cell? ⟨w.heap.size, 0, none⟩ = some (.bool pa) ∧ ((W.setCell ⟨g, 0, none⟩ x).setCell ⟨g, 1, none⟩ y).cell? ⟨w.heap.size, 1, none⟩ = some (.slice Aa na ca) ∧ ((W.setCell ⟨g, 0, none⟩ x).setCell ⟨g, 1, none⟩ y).cell? ⟨gn, 0, none⟩ = some (.bool pn) ∧ ((W.setCell ⟨g, 0, none⟩ x).setCell ⟨g, 1, none⟩ y).cell? ⟨gn, 1, none⟩ = some (.slice An ln cn)) := fun W g x y hg h => ⟨cell_st _ (h.1) (Nat.ne_of_lt (Nat.lt_of_lt_of_le S9.out.2.2.2.2.2.1.lt hg)), cell_st _ (h.2.1) (Nat.ne_of_lt (Nat.lt_of_lt_of_le S9.out.2.2.2.2.2.1.lt hg)), cell_st _ (h.2.2.1) (Nat.ne_of_lt (Nat.lt_of_lt_of_le S9.out.2.2.2.2.2.2.2.2.2.2.2.2.2.2.2.2.2.2.2.2.1.lt hg)), cell_st _ (h.2.2.2) (Nat.ne_of_lt (Nat.lt_of_lt_of_le S9.out.2.2.2.2.2.2.2.2.2.2.2.2.2.2.2.2.2.2.2.2.1.lt hg))⟩
    have KK := Lib.hid (And.intro kal kst)
    clear kal kst
    go_cut [11, 12] (fun s11 s12 wx => ∃ (gu : Nat) (pu : Bool) (Au : Option Addr) (lu : Nat) (cu : Nat) (gv : Nat) (pv : Bool) (Av : Option Addr) (lv : Nat) (cv : Nat), s11 = .pointer (some ⟨gu, 0, none⟩) ∧ s12 = .pointer (some ⟨gv, 0, none⟩) ∧ Since w9 wx ∧ Bx 33 wx gu (.bool pu) (.slice Au lu cu) ∧ Bx 33 wx gv (.bool pv) (.slice Av lv cv) ∧ I.Zd wx 69 (.agg #[.bool pu, .slice Au lu cu]) (Int.fdiv x y) ∧ I.Zd wx 190 (.agg #[.bool pv, .slice Av lv cv]) (x - Int.fdiv x y * y))
    case first =>
      refine wp_region_held_drew (S := fun W => W.cell? ⟨w.heap.size, 0, none⟩ = some (.bool pa) ∧ W.cell? ⟨w.heap.size, 1, none⟩ = some (.slice Aa na ca) ∧ W.cell? ⟨gn, 0, none⟩ = some (.bool pn) ∧ W.cell? ⟨gn, 1, none⟩ = some (.slice An ln cn)) (by kernel_rfl) ⟨(S9.out.2.2.2.2.2.1.drewN 1).facts.1, (S9.out.2.2.2.2.2.1.drewN 1).facts.2.1, (S9.out.2.2.2.2.2.2.2.2.2.2.2.2.2.2.2.2.2.2.2.2.1.drewN 1).facts.1, (S9.out.2.2.2.2.2.2.2.2.2.2.2.2.2.2.2.2.2.2.2.2.1.drewN 1).facts.2.1⟩ (fun hHeld => ?_)
      refine wpAnyH_take (i := 0) (v := ?v3) (by simp only [List.getElem?_toArray, List.getElem?_cons_succ, List.getElem?_cons_zero]; rfl) (by kernel_rfl) (by kernel_rfl) (by kernel_rfl) (by exact fun _ _ _ h => h) (Or.inl ⟨by rfl, ?h3⟩) hHeld ?r3
      case h3 => (intro w hSw; (try dsimp only at hSw); (first | (go_simp; done) | (go_simp; with_reducible rfl)))
      try simp only [Act.put, List.setIfInBounds_toArray, List.set_cons_zero, List.set_cons_succ]
      refine wpAnyH_take (i := 2) (v := ?v4) (by simp only [List.getElem?_toArray, List.getElem?_cons_succ, List.getElem?_cons_zero]; rfl) (by kernel_rfl) (by kernel_rfl) (by kernel_rfl) (by exact fun _ _ _ h => h) (Or.inl ⟨by rfl, ?h4⟩) hHeld ?r4
      case h4 => (intro w hSw; (try dsimp only at hSw); (first | (go_simp; done) | (go_simp; with_reducible rfl)))
      try simp only [Act.put, List.setIfInBounds_toArray, List.set_cons_zero, List.set_cons_succ]
      have R0 := Lib.hid (show Since w9 w9.drew from HW.out.keep (below_dr _ 1))
      generalize w9.drew = Wd at R0 hHeld ⊢
      refine wpAnyH_ready (rs := [1, 7, 8]) (by kernel_rfl) (by simp) (AllReadyH.cons (by simp only [List.getElem?_toArray, List.getElem?_cons_succ, List.getElem?_cons_zero]; rfl) (fun K hK => ?_) (AllReadyH.cons (by simp only [List.getElem?_toArray, List.getElem?_cons_succ, List.getElem?_cons_zero]; rfl) (fun K hK => ?_) (AllReadyH.cons (by simp only [List.getElem?_toArray, List.getElem?_cons_succ, List.getElem?_cons_zero]; rfl) (fun K hK => ?_) AllReadyH.nil)))
      ·
        go_simp
        go_at_call 16; refine (I.of_d (S9.out.2.2.2.1.keep R0.out) (by decide)).mono ?_; rintro e w1 ⟨v, rfl, h, hb⟩
        have R1 := Lib.hid (And.intro (R0.out.keep (hb)) ((h)))
        have hN : w1.cell? ⟨w.heap.size, 0, none⟩ = some (.bool pa) ∧ w1.cell? ⟨w.heap.size, 1, none⟩ = some (.slice Aa na ca) ∧ w1.cell? ⟨gn, 0, none⟩ = some (.bool pn) ∧ w1.cell? ⟨gn, 1, none⟩ = some (.slice An ln cn) := ⟨((S9.out.2.2.2.2.2.1.keep R1.out.1)).facts.1, ((S9.out.2.2.2.2.2.1.keep R1.out.1)).facts.2.1, ((S9.out.2.2.2.2.2.2.2.2.2.2.2.2.2.2.2.2.2.2.2.2.1.keep R1.out.1)).facts.1, ((S9.out.2.2.2.2.2.2.2.2.2.2.2.2.2.2.2.2.2.2.2.2.1.keep R1.out.1)).facts.2.1⟩
        clear hHeld h hb
        go_wp2_with fail
        refine hK.out _ _ hN (fun hHeld => ?_); clear hK K hN; try simp only [Act.put, List.setIfInBounds_toArray, List.set_cons_zero, List.set_cons_succ]
        refine wpAnyH_ready (rs := [3, 7, 8]) (by kernel_rfl) (by simp) (AllReadyH.cons (by simp only [List.getElem?_toArray, List.getElem?_cons_succ, List.getElem?_cons_zero]; rfl) (fun K hK => ?_) (AllReadyH.cons (by simp only [List.getElem?_toArray, List.getElem?_cons_succ, List.getElem?_cons_zero]; rfl) (fun K hK => ?_) (AllReadyH.cons (by simp only [List.getElem?_toArray, List.getElem?_cons_succ, List.getElem?_cons_zero]; rfl) (fun K hK => ?_) AllReadyH.nil)))
        ·
          go_simp
          go_at_call 19; refine (I.divFloor_d R1.out.2 (S9.out.2.2.2.2.2.2.2.2.2.2.2.2.2.2.2.2.2.2.2.1.keep R1.out.1) (by decide) (by decide) HE.out.1).mono ?_; rintro e w2 ⟨v2, v3, rfl, h, hh, hb⟩
          obtain ⟨pu, Au, lu, cu, rfl⟩ := Zd.pat h
          obtain ⟨pv, Av, lv, cv, rfl⟩ := Zd.pat hh
          have R2 := Lib.hid (And.intro (R1.out.1.keep (hb)) (And.intro (R1.out.2.keep (hb)) (And.intro (h) ((hh)))))
          have hN : w2.cell? ⟨w.heap.size, 0, none⟩ = some (.bool pa) ∧ w2.cell? ⟨w.heap.size, 1, none⟩ = some (.slice Aa na ca) ∧ w2.cell? ⟨gn, 0, none⟩ = some (.bool pn) ∧ w2.cell? ⟨gn, 1, none⟩ = some (.slice An ln cn) := ⟨((S9.out.2.2.2.2.2.1.keep R2.out.1)).facts.1, ((S9.out.2.2.2.2.2.1.keep R2.out.1)).facts.2.1, ((S9.out.2.2.2.2.2.2.2.2.2.2.2.2.2.2.2.2.2.2.2.2.1.keep R2.out.1)).facts.1, ((S9.out.2.2.2.2.2.2.2.2.2.2.2.2.2.2.2.2.2.2.2.2.1.keep R2.out.1)).facts.2.1⟩
          clear hHeld h hh hb
          go_wp2_with fail
          refine hK.out _ _ hN (fun hHeld => ?_); clear hK K hN; try simp only [Act.put, List.setIfInBounds_toArray, List.set_cons_zero, List.set_cons_succ]
          refine wpAnyH_take (i := 4) (v := ?v5) (by simp only [List.getElem?_toArray, List.getElem?_cons_succ, List.getElem?_cons_zero]; rfl) (by kernel_rfl) (by kernel_rfl) (by kernel_rfl) (by exact fun _ _ _ h => h) (Or.inl ⟨by rfl, ?h5⟩) hHeld ?r5
          case h5 => (intro w hSw; (try dsimp only at hSw); (first | (go_simp; done) | (go_simp; with_reducible rfl)))
          try simp only [Act.put, List.setIfInBounds_toArray, List.set_cons_zero, List.set_cons_succ]
          refine wpAnyH_take (i := 5) (v := ?v6) (by simp only [List.getElem?_toArray, List.getElem?_cons_succ, List.getElem?_cons_zero]; rfl) (by kernel_rfl) (by kernel_rfl) (by kernel_rfl) (by exact fun _ _ _ h => h) (Or.inl ⟨by rfl, ?h6⟩) hHeld ?r6
          case h6 => (intro w hSw; (try dsimp only at hSw); (first | (go_simp; done) | (go_simp; with_reducible rfl)))
          try simp only [Act.put, List.setIfInBounds_toArray, List.set_cons_zero, List.set_cons_succ]
          refine wpAnyH_take (i := 6) (v := ?v7) (by simp only [List.getElem?_toArray, List.getElem?_cons_succ, List.getElem?_cons_zero]; rfl) (by kernel_rfl) (by kernel_rfl) (by kernel_rfl) (by exact fun _ _ _ h => h) (Or.inl ⟨by rfl, ?h7⟩) hHeld ?r7
          case h7 => (intro w hSw; (try dsimp only at hSw); (first | (go_simp; done) | (go_simp; with_reducible rfl)))
          try simp only [Act.put, List.setIfInBounds_toArray, List.set_cons_zero, List.set_cons_succ]
          refine wpAnyH_ready (rs := [7, 8]) (by kernel_rfl) (by simp) (AllReadyH.cons (by simp only [List.getElem?_toArray, List.getElem?_cons_succ, List.getElem?_cons_zero]; rfl) (fun K hK => ?_) (AllReadyH.cons (by simp only [List.getElem?_toArray, List.getElem?_cons_succ, List.getElem?_cons_zero]; rfl) (fun K hK => ?_) AllReadyH.nil))
          ·
            go_simp
            refine hK.out _ _ (KK.out.1 _ _ hHeld) (fun hHeld => ?_); clear hK K; try simp only [Act.put, List.setIfInBounds_toArray, List.set_cons_zero, List.set_cons_succ]
            obtain ⟨gu, hgu⟩ : ∃ g, g = w2.heap.size := ⟨_, rfl⟩
            have R3 := Lib.hid (And.intro (R2.out.1.keep (below_al w2 (.cells #[.bool false, .slice none 0 0] 33))) (And.intro (R2.out.2.1.keep (below_al w2 (.cells #[.bool false, .slice none 0 0] 33))) (And.intro (R2.out.2.2.1.keep (below_al w2 (.cells #[.bool false, .slice none 0 0] 33))) (And.intro (R2.out.2.2.2.keep (below_al w2 (.cells #[.bool false, .slice none 0 0] 33))) (And.intro (Bx.new 33 w2 (.bool false) (.slice none 0 0)) ((R2.out.1.out.size)))))))
            generalize w2.alloc _ = W3 at R3 hHeld ⊢; rw [← hgu] at R3 ⊢; clear hgu 
            refine wpAnyH_ready (rs := [8]) (by kernel_rfl) (by simp) (AllReadyH.cons (by simp only [List.getElem?_toArray, List.getElem?_cons_succ, List.getElem?_cons_zero]; rfl) (fun K hK => ?_) AllReadyH.nil)
            go_simp
            refine hK.out _ _ (KK.out.1 _ _ hHeld) (fun hHeld => ?_); clear hK K; try simp only [Act.put, List.setIfInBounds_toArray, List.set_cons_zero, List.set_cons_succ]
            obtain ⟨gv, hgv⟩ : ∃ g, g = W3.heap.size := ⟨_, rfl⟩
            have R4 := Lib.hid (And.intro (R3.out.1.keep (below_al W3 (.cells #[.bool false, .slice none 0 0] 33))) (And.intro (R3.out.2.1.keep (below_al W3 (.cells #[.bool false, .slice none 0 0] 33))) (And.intro (R3.out.2.2.1.keep (below_al W3 (.cells #[.bool false, .slice none 0 0] 33))) (And.intro (R3.out.2.2.2.1.keep (below_al W3 (.cells #[.bool false, .slice none 0 0] 33))) (And.intro (R3.out.2.2.2.2.1.keep (below_al W3 (.cells #[.bool false, .slice none 0 0] 33))) (And.intro (R3.out.2.2.2.2.2) (And.intro (Bx.new 33 W3 (.bool false) (.slice none 0 0)) (And.intro (R3.out.1.out.size) ((Nat.ne_of_lt R3.out.2.2.2.2.1.lt))))))))))
            generalize W3.alloc _ = W4 at R4 hHeld ⊢; rw [← hgv] at R4 ⊢; clear hgv 
            refine wpAnyH_ready (rs := [9]) (by kernel_rfl) (by simp) (AllReadyH.cons (by simp only [List.getElem?_toArray, List.getElem?_cons_succ, List.getElem?_cons_zero]; rfl) (fun K hK => ?_) AllReadyH.nil)
            obtain ⟨fa, fb, fc, fd⟩ := R4.out.2.2.2.2.1.facts; go_simp; clear fa fb fc fd
            refine hK.out _ _ (KK.out.2 _ _ _ _ (R4.out.2.2.2.2.2.1) hHeld) (fun hHeld => ?_); clear hK K; try simp only [Act.put, List.setIfInBounds_toArray, List.set_cons_zero, List.set_cons_succ]
            have R5 := Lib.hid (And.intro (R4.out.1.put R4.out.2.2.2.2.1 R4.out.2.2.2.2.2.1 (.bool pu) (.slice Au lu cu)) (And.intro (R4.out.2.1.put R4.out.2.2.2.2.1 (.bool pu) (.slice Au lu cu)) (And.intro (R4.out.2.2.1.put R4.out.2.2.2.2.1 (.bool pu) (.slice Au lu cu)) (And.intro (R4.out.2.2.2.1.put R4.out.2.2.2.2.1 (.bool pu) (.slice Au lu cu)) (And.intro (R4.out.2.2.2.2.1.set (.bool pu) (.slice Au lu cu)) (And.intro (R4.out.2.2.2.2.2.1) (And.intro (R4.out.2.2.2.2.2.2.1.other2 (R4.out.2.2.2.2.2.2.2.2) (.bool pu) (.slice Au lu cu)) (And.intro (R4.out.2.2.2.2.2.2.2.1) ((R4.out.2.2.2.2.2.2.2.2))))))))))
            generalize (W4.setCell _ _).setCell _ _ = W5 at R5 hHeld ⊢
            refine wpAnyH_ready (rs := [10]) (by kernel_rfl) (by simp) (AllReadyH.cons (by simp only [List.getElem?_toArray, List.getElem?_cons_succ, List.getElem?_cons_zero]; rfl) (fun K hK => ?_) AllReadyH.nil)
            obtain ⟨fa, fb, fc, fd⟩ := R5.out.2.2.2.2.2.2.1.facts; go_simp; clear fa fb fc fd
            refine hK.out _ _ (KK.out.2 _ _ _ _ (R5.out.2.2.2.2.2.2.2.1) hHeld) (fun hHeld => ?_); clear hK K; try simp only [Act.put, List.setIfInBounds_toArray, List.set_cons_zero, List.set_cons_succ]
            have R6 := Lib.hid (And.intro (R5.out.1.put R5.out.2.2.2.2.2.2.1 R5.out.2.2.2.2.2.2.2.1 (.bool pv) (.slice Av lv cv)) (And.intro (R5.out.2.1.put R5.out.2.2.2.2.2.2.1 (.bool pv) (.slice Av lv cv)) (And.intro (R5.out.2.2.1.put R5.out.2.2.2.2.2.2.1 (.bool pv) (.slice Av lv cv)) (And.intro (R5.out.2.2.2.1.put R5.out.2.2.2.2.2.2.1 (.bool pv) (.slice Av lv cv)) (And.intro (R5.out.2.2.2.2.1.other2 (Ne.symm R5.out.2.2.2.2.2.2.2.2) (.bool pv) (.slice Av lv cv)) (And.intro (R5.out.2.2.2.2.2.1) (And.intro (R5.out.2.2.2.2.2.2.1.set (.bool pv) (.slice Av lv cv)) (And.intro (R5.out.2.2.2.2.2.2.2.1) ((R5.out.2.2.2.2.2.2.2.2))))))))))
            generalize (W5.setCell _ _).setCell _ _ = W6 at R6 hHeld ⊢
            refine wpAnyH_done (by kernel_rfl) ?_ _; clear hHeld
            go_wp2_with fail; go_meet
            exact ⟨_, _, _, _, _, _, _, _, _, _, rfl, rfl, R6.out.1, R6.out.2.2.2.2.1, R6.out.2.2.2.2.2.2.1, R6.out.2.2.1, R6.out.2.2.2.1⟩
          ·
            go_simp
            refine hK.out _ _ (KK.out.1 _ _ hHeld) (fun hHeld => ?_); clear hK K; try simp only [Act.put, List.setIfInBounds_toArray, List.set_cons_zero, List.set_cons_succ]
            obtain ⟨gv, hgv⟩ : ∃ g, g = w2.heap.size := ⟨_, rfl⟩
            have R7 := Lib.hid (And.intro (R2.out.1.keep (below_al w2 (.cells #[.bool false, .slice none 0 0] 33))) (And.intro (R2.out.2.1.keep (below_al w2 (.cells #[.bool false, .slice none 0 0] 33))) (And.intro (R2.out.2.2.1.keep (below_al w2 (.cells #[.bool false, .slice none 0 0] 33))) (And.intro (R2.out.2.2.2.keep (below_al w2 (.cells #[.bool false, .slice none 0 0] 33))) (And.intro (Bx.new 33 w2 (.bool false) (.slice none 0 0)) ((R2.out.1.out.size)))))))
            generalize w2.alloc _ = W7 at R7 hHeld ⊢; rw [← hgv] at R7 ⊢; clear hgv 
            refine wpAnyH_ready (rs := [7]) (by kernel_rfl) (by simp) (AllReadyH.cons (by simp only [List.getElem?_toArray, List.getElem?_cons_succ, List.getElem?_cons_zero]; rfl) (fun K hK => ?_) AllReadyH.nil)
            go_simp
            refine hK.out _ _ (KK.out.1 _ _ hHeld) (fun hHeld => ?_); clear hK K; try simp only [Act.put, List.setIfInBounds_toArray, List.set_cons_zero, List.set_cons_succ]
            obtain ⟨gu, hgu⟩ : ∃ g, g = W7.heap.size := ⟨_, rfl⟩
            have R8 := Lib.hid (And.intro (R7.out.1.keep (below_al W7 (.cells #[.bool false, .slice none 0 0] 33))) (And.intro (R7.out.2.1.keep (below_al W7 (.cells #[.bool false, .slice none 0 0] 33))) (And.intro (R7.out.2.2.1.keep (below_al W7 (.cells #[.bool false, .slice none 0 0] 33))) (And.intro (R7.out.2.2.2.1.keep (below_al W7 (.cells #[.bool false, .slice none 0 0] 33))) (And.intro (R7.out.2.2.2.2.1.keep (below_al W7 (.cells #[.bool false, .slice none 0 0] 33))) (And.intro (R7.out.2.2.2.2.2) (And.intro (Bx.new 33 W7 (.bool false) (.slice none 0 0)) (And.intro (R7.out.1.out.size) ((Nat.ne_of_lt R7.out.2.2.2.2.1.lt))))))))))
            generalize W7.alloc _ = W8 at R8 hHeld ⊢; rw [← hgu] at R8 ⊢; clear hgu 
            refine wpAnyH_ready (rs := [9]) (by kernel_rfl) (by simp) (AllReadyH.cons (by simp only [List.getElem?_toArray, List.getElem?_cons_succ, List.getElem?_cons_zero]; rfl) (fun K hK => ?_) AllReadyH.nil)
            obtain ⟨fa, fb, fc, fd⟩ := R8.out.2.2.2.2.2.2.1.facts; go_simp; clear fa fb fc fd
            refine hK.out _ _ (KK.out.2 _ _ _ _ (R8.out.2.2.2.2.2.2.2.1) hHeld) (fun hHeld => ?_); clear hK K; try simp only [Act.put, List.setIfInBounds_toArray, List.set_cons_zero, List.set_cons_succ]
            have R9 := Lib.hid (And.intro (R8.out.1.put R8.out.2.2.2.2.2.2.1 R8.out.2.2.2.2.2.2.2.1 (.bool pu) (.slice Au lu cu)) (And.intro (R8.out.2.1.put R8.out.2.2.2.2.2.2.1 (.bool pu) (.slice Au lu cu)) (And.intro (R8.out.2.2.1.put R8.out.2.2.2.2.2.2.1 (.bool pu) (.slice Au lu cu)) (And.intro (R8.out.2.2.2.1.put R8.out.2.2.2.2.2.2.1 (.bool pu) (.slice Au lu cu)) (And.intro (R8.out.2.2.2.2.1.other2 (Ne.symm R8.out.2.2.2.2.2.2.2.2) (.bool pu) (.slice Au lu cu)) (And.intro (R8.out.2.2.2.2.2.1) (And.intro (R8.out.2.2.2.2.2.2.1.set (.bool pu) (.slice Au lu cu)) (And.intro (R8.out.2.2.2.2.2.2.2.1) ((R8.out.2.2.2.2.2.2.2.2))))))))))
            generalize (W8.setCell _ _).setCell _ _ = W9 at R9 hHeld ⊢
            refine wpAnyH_ready (rs := [10]) (by kernel_rfl) (by simp) (AllReadyH.cons (by simp only [List.getElem?_toArray, List.getElem?_cons_succ, List.getElem?_cons_zero]; rfl) (fun K hK => ?_) AllReadyH.nil)
            obtain ⟨fa, fb, fc, fd⟩ := R9.out.2.2.2.2.1.facts; go_simp; clear fa fb fc fd
            refine hK.out _ _ (KK.out.2 _ _ _ _ (R9.out.2.2.2.2.2.1) hHeld) (fun hHeld => ?_); clear hK K; try simp only [Act.put, List.setIfInBounds_toArray, List.set_cons_zero, List.set_cons_succ]
            have R10 := Lib.hid (And.intro (R9.out.1.put R9.out.2.2.2.2.1 R9.out.2.2.2.2.2.1 (.bool pv) (.slice Av lv cv)) (And.intro (R9.out.2.1.put R9.out.2.2.2.2.1 (.bool pv) (.slice Av lv cv)) (And.intro (R9.out.2.2.1.put R9.out.2.2.2.2.1 (.bool pv) (.slice Av lv cv)) (And.intro (R9.out.2.2.2.1.put R9.out.2.2.2.2.1 (.bool pv) (.slice Av lv cv)) (And.intro (R9.out.2.2.2.2.1.set (.bool pv) (.slice Av lv cv)) (And.intro (R9.out.2.2.2.2.2.1) (And.intro (R9.out.2.2.2.2.2.2.1.other2 (R9.out.2.2.2.2.2.2.2.2) (.bool pv) (.slice Av lv cv)) (And.intro (R9.out.2.2.2.2.2.2.2.1) ((R9.out.2.2.2.2.2.2.2.2))))))))))
            generalize (W9.setCell _ _).setCell _ _ = W10 at R10 hHeld ⊢
            refine wpAnyH_done (by kernel_rfl) ?_ _; clear hHeld
            go_wp2_with fail; go_meet
            exact ⟨_, _, _, _, _, _, _, _, _, _, rfl, rfl, R10.out.1, R10.out.2.2.2.2.2.2.1, R10.out.2.2.2.2.1, R10.out.2.2.1, R10.out.2.2.2.1⟩
        ·
          go_simp
          refine hK.out _ _ (KK.out.1 _ _ hHeld) (fun hHeld => ?_); clear hK K; try simp only [Act.put, List.setIfInBounds_toArray, List.set_cons_zero, List.set_cons_succ]
          obtain ⟨gu, hgu⟩ : ∃ g, g = w1.heap.size := ⟨_, rfl⟩
          have R11 := Lib.hid (And.intro (R1.out.1.keep (below_al w1 (.cells #[.bool false, .slice none 0 0] 33))) (And.intro (R1.out.2.keep (below_al w1 (.cells #[.bool false, .slice none 0 0] 33))) (And.intro (Bx.new 33 w1 (.bool false) (.slice none 0 0)) ((R1.out.1.out.size)))))
          generalize w1.alloc _ = W11 at R11 hHeld ⊢; rw [← hgu] at R11 ⊢; clear hgu 
          refine wpAnyH_ready (rs := [3, 8]) (by kernel_rfl) (by simp) (AllReadyH.cons (by simp only [List.getElem?_toArray, List.getElem?_cons_succ, List.getElem?_cons_zero]; rfl) (fun K hK => ?_) (AllReadyH.cons (by simp only [List.getElem?_toArray, List.getElem?_cons_succ, List.getElem?_cons_zero]; rfl) (fun K hK => ?_) AllReadyH.nil))
          ·
            go_simp
            go_at_call 19; refine (I.divFloor_d R11.out.2.1 (S9.out.2.2.2.2.2.2.2.2.2.2.2.2.2.2.2.2.2.2.2.1.keep R11.out.1) (by decide) (by decide) HE.out.1).mono ?_; rintro e w12 ⟨v2, v3, rfl, h, hh, hb⟩
            obtain ⟨pu, Au, lu, cu, rfl⟩ := Zd.pat h
            obtain ⟨pv, Av, lv, cv, rfl⟩ := Zd.pat hh
            have R12 := Lib.hid (And.intro (R11.out.1.keep (hb)) (And.intro (R11.out.2.1.keep (hb)) (And.intro (R11.out.2.2.1.keep (hb)) (And.intro (R11.out.2.2.2) (And.intro (h) ((hh)))))))
            have hN : w12.cell? ⟨w.heap.size, 0, none⟩ = some (.bool pa) ∧ w12.cell? ⟨w.heap.size, 1, none⟩ = some (.slice Aa na ca) ∧ w12.cell? ⟨gn, 0, none⟩ = some (.bool pn) ∧ w12.cell? ⟨gn, 1, none⟩ = some (.slice An ln cn) := ⟨((S9.out.2.2.2.2.2.1.keep R12.out.1)).facts.1, ((S9.out.2.2.2.2.2.1.keep R12.out.1)).facts.2.1, ((S9.out.2.2.2.2.2.2.2.2.2.2.2.2.2.2.2.2.2.2.2.2.1.keep R12.out.1)).facts.1, ((S9.out.2.2.2.2.2.2.2.2.2.2.2.2.2.2.2.2.2.2.2.2.1.keep R12.out.1)).facts.2.1⟩
            clear hHeld h hh hb
            go_wp2_with fail
            refine hK.out _ _ hN (fun hHeld => ?_); clear hK K hN; try simp only [Act.put, List.setIfInBounds_toArray, List.set_cons_zero, List.set_cons_succ]
            refine wpAnyH_take (i := 4) (v := ?v8) (by simp only [List.getElem?_toArray, List.getElem?_cons_succ, List.getElem?_cons_zero]; rfl) (by kernel_rfl) (by kernel_rfl) (by kernel_rfl) (by exact fun _ _ _ h => h) (Or.inl ⟨by rfl, ?h8⟩) hHeld ?r8
            case h8 => (intro w hSw; (try dsimp only at hSw); (first | (go_simp; done) | (go_simp; with_reducible rfl)))
            try simp only [Act.put, List.setIfInBounds_toArray, List.set_cons_zero, List.set_cons_succ]
            refine wpAnyH_take (i := 5) (v := ?v9) (by simp only [List.getElem?_toArray, List.getElem?_cons_succ, List.getElem?_cons_zero]; rfl) (by kernel_rfl) (by kernel_rfl) (by kernel_rfl) (by exact fun _ _ _ h => h) (Or.inl ⟨by rfl, ?h9⟩) hHeld ?r9
            case h9 => (intro w hSw; (try dsimp only at hSw); (first | (go_simp; done) | (go_simp; with_reducible rfl)))
            try simp only [Act.put, List.setIfInBounds_toArray, List.set_cons_zero, List.set_cons_succ]
            refine wpAnyH_take (i := 6) (v := ?v10) (by simp only [List.getElem?_toArray, List.getElem?_cons_succ, List.getElem?_cons_zero]; rfl) (by kernel_rfl) (by kernel_rfl) (by kernel_rfl) (by exact fun _ _ _ h => h) (Or.inl ⟨by rfl, ?h10⟩) hHeld ?r10
            case h10 => (intro w hSw; (try dsimp only at hSw); (first | (go_simp; done) | (go_simp; with_reducible rfl)))
            try simp only [Act.put, List.setIfInBounds_toArray, List.set_cons_zero, List.set_cons_succ]
            refine wpAnyH_ready (rs := [8]) (by kernel_rfl) (by simp) (AllReadyH.cons (by simp only [List.getElem?_toArray, List.getElem?_cons_succ, List.getElem?_cons_zero]; rfl) (fun K hK => ?_) AllReadyH.nil)
            go_simp
            refine hK.out _ _ (KK.out.1 _ _ hHeld) (fun hHeld => ?_); clear hK K; try simp only [Act.put, List.setIfInBounds_toArray, List.set_cons_zero, List.set_cons_succ]
            obtain ⟨gv, hgv⟩ : ∃ g, g = w12.heap.size := ⟨_, rfl⟩
            have R13 := Lib.hid (And.intro (R12.out.1.keep (below_al w12 (.cells #[.bool false, .slice none 0 0] 33))) (And.intro (R12.out.2.1.keep (below_al w12 (.cells #[.bool false, .slice none 0 0] 33))) (And.intro (R12.out.2.2.1.keep (below_al w12 (.cells #[.bool false, .slice none 0 0] 33))) (And.intro (R12.out.2.2.2.1) (And.intro (R12.out.2.2.2.2.1.keep (below_al w12 (.cells #[.bool false, .slice none 0 0] 33))) (And.intro (R12.out.2.2.2.2.2.keep (below_al w12 (.cells #[.bool false, .slice none 0 0] 33))) (And.intro (Bx.new 33 w12 (.bool false) (.slice none 0 0)) (And.intro (R12.out.1.out.size) ((Nat.ne_of_lt R12.out.2.2.1.lt))))))))))
            generalize w12.alloc _ = W13 at R13 hHeld ⊢; rw [← hgv] at R13 ⊢; clear hgv 
            refine wpAnyH_ready (rs := [9]) (by kernel_rfl) (by simp) (AllReadyH.cons (by simp only [List.getElem?_toArray, List.getElem?_cons_succ, List.getElem?_cons_zero]; rfl) (fun K hK => ?_) AllReadyH.nil)
            obtain ⟨fa, fb, fc, fd⟩ := R13.out.2.2.1.facts; go_simp; clear fa fb fc fd
            refine hK.out _ _ (KK.out.2 _ _ _ _ (R13.out.2.2.2.1) hHeld) (fun hHeld => ?_); clear hK K; try simp only [Act.put, List.setIfInBounds_toArray, List.set_cons_zero, List.set_cons_succ]
            have R14 := Lib.hid (And.intro (R13.out.1.put R13.out.2.2.1 R13.out.2.2.2.1 (.bool pu) (.slice Au lu cu)) (And.intro (R13.out.2.1.put R13.out.2.2.1 (.bool pu) (.slice Au lu cu)) (And.intro (R13.out.2.2.1.set (.bool pu) (.slice Au lu cu)) (And.intro (R13.out.2.2.2.1) (And.intro (R13.out.2.2.2.2.1.put R13.out.2.2.1 (.bool pu) (.slice Au lu cu)) (And.intro (R13.out.2.2.2.2.2.1.put R13.out.2.2.1 (.bool pu) (.slice Au lu cu)) (And.intro (R13.out.2.2.2.2.2.2.1.other2 (R13.out.2.2.2.2.2.2.2.2) (.bool pu) (.slice Au lu cu)) (And.intro (R13.out.2.2.2.2.2.2.2.1) ((R13.out.2.2.2.2.2.2.2.2))))))))))
            generalize (W13.setCell _ _).setCell _ _ = W14 at R14 hHeld ⊢
            refine wpAnyH_ready (rs := [10]) (by kernel_rfl) (by simp) (AllReadyH.cons (by simp only [List.getElem?_toArray, List.getElem?_cons_succ, List.getElem?_cons_zero]; rfl) (fun K hK => ?_) AllReadyH.nil)
            obtain ⟨fa, fb, fc, fd⟩ := R14.out.2.2.2.2.2.2.1.facts; go_simp; clear fa fb fc fd
            refine hK.out _ _ (KK.out.2 _ _ _ _ (R14.out.2.2.2.2.2.2.2.1) hHeld) (fun hHeld => ?_); clear hK K; try simp only [Act.put, List.setIfInBounds_toArray, List.set_cons_zero, List.set_cons_succ]
            have R15 := Lib.hid (And.intro (R14.out.1.put R14.out.2.2.2.2.2.2.1 R14.out.2.2.2.2.2.2.2.1 (.bool pv) (.slice Av lv cv)) (And.intro (R14.out.2.1.put R14.out.2.2.2.2.2.2.1 (.bool pv) (.slice Av lv cv)) (And.intro (R14.out.2.2.1.other2 (Ne.symm R14.out.2.2.2.2.2.2.2.2) (.bool pv) (.slice Av lv cv)) (And.intro (R14.out.2.2.2.1) (And.intro (R14.out.2.2.2.2.1.put R14.out.2.2.2.2.2.2.1 (.bool pv) (.slice Av lv cv)) (And.intro (R14.out.2.2.2.2.2.1.put R14.out.2.2.2.2.2.2.1 (.bool pv) (.slice Av lv cv)) (And.intro (R14.out.2.2.2.2.2.2.1.set (.bool pv) (.slice Av lv cv)) (And.intro (R14.out.2.2.2.2.2.2.2.1) ((R14.out.2.2.2.2.2.2.2.2))))))))))
            generalize (W14.setCell _ _).setCell _ _ = W15 at R15 hHeld ⊢
            refine wpAnyH_done (by kernel_rfl) ?_ _; clear hHeld
            go_wp2_with fail; go_meet
            exact ⟨_, _, _, _, _, _, _, _, _, _, rfl, rfl, R15.out.1, R15.out.2.2.1, R15.out.2.2.2.2.2.2.1, R15.out.2.2.2.2.1, R15.out.2.2.2.2.2.1⟩
          ·
            go_simp
            refine hK.out _ _ (KK.out.1 _ _ hHeld) (fun hHeld => ?_); clear hK K; try simp only [Act.put, List.setIfInBounds_toArray, List.set_cons_zero, List.set_cons_succ]
            obtain ⟨gv, hgv⟩ : ∃ g, g = W11.heap.size := ⟨_, rfl⟩
            have R16 := Lib.hid (And.intro (R11.out.1.keep (below_al W11 (.cells #[.bool false, .slice none 0 0] 33))) (And.intro (R11.out.2.1.keep (below_al W11 (.cells #[.bool false, .slice none 0 0] 33))) (And.intro (R11.out.2.2.1.keep (below_al W11 (.cells #[.bool false, .slice none 0 0] 33))) (And.intro (R11.out.2.2.2) (And.intro (Bx.new 33 W11 (.bool false) (.slice none 0 0)) (And.intro (R11.out.1.out.size) ((Nat.ne_of_lt R11.out.2.2.1.lt))))))))
            generalize W11.alloc _ = W16 at R16 hHeld ⊢; rw [← hgv] at R16 ⊢; clear hgv 
            refine wpAnyH_ready (rs := [3]) (by kernel_rfl) (by simp) (AllReadyH.cons (by simp only [List.getElem?_toArray, List.getElem?_cons_succ, List.getElem?_cons_zero]; rfl) (fun K hK => ?_) AllReadyH.nil)
            go_simp
            go_at_call 19; refine (I.divFloor_d R16.out.2.1 (S9.out.2.2.2.2.2.2.2.2.2.2.2.2.2.2.2.2.2.2.2.1.keep R16.out.1) (by decide) (by decide) HE.out.1).mono ?_; rintro e w17 ⟨v2, v3, rfl, h, hh, hb⟩
            obtain ⟨pu, Au, lu, cu, rfl⟩ := Zd.pat h
            obtain ⟨pv, Av, lv, cv, rfl⟩ := Zd.pat hh
            have R17 := Lib.hid (And.intro (R16.out.1.keep (hb)) (And.intro (R16.out.2.1.keep (hb)) (And.intro (R16.out.2.2.1.keep (hb)) (And.intro (R16.out.2.2.2.1) (And.intro (R16.out.2.2.2.2.1.keep (hb)) (And.intro (R16.out.2.2.2.2.2.1) (And.intro (R16.out.2.2.2.2.2.2) (And.intro (h) ((hh))))))))))
            have hN : w17.cell? ⟨w.heap.size, 0, none⟩ = some (.bool pa) ∧ w17.cell? ⟨w.heap.size, 1, none⟩ = some (.slice Aa na ca) ∧ w17.cell? ⟨gn, 0, none⟩ = some (.bool pn) ∧ w17.cell? ⟨gn, 1, none⟩ = some (.slice An ln cn) := ⟨((S9.out.2.2.2.2.2.1.keep R17.out.1)).facts.1, ((S9.out.2.2.2.2.2.1.keep R17.out.1)).facts.2.1, ((S9.out.2.2.2.2.2.2.2.2.2.2.2.2.2.2.2.2.2.2.2.2.1.keep R17.out.1)).facts.1, ((S9.out.2.2.2.2.2.2.2.2.2.2.2.2.2.2.2.2.2.2.2.2.1.keep R17.out.1)).facts.2.1⟩
            clear hHeld h hh hb
            go_wp2_with fail
            refine hK.out _ _ hN (fun hHeld => ?_); clear hK K hN; try simp only [Act.put, List.setIfInBounds_toArray, List.set_cons_zero, List.set_cons_succ]
            refine wpAnyH_take (i := 4) (v := ?v11) (by simp only [List.getElem?_toArray, List.getElem?_cons_succ, List.getElem?_cons_zero]; rfl) (by kernel_rfl) (by kernel_rfl) (by kernel_rfl) (by exact fun _ _ _ h => h) (Or.inl ⟨by rfl, ?h11⟩) hHeld ?r11
            case h11 => (intro w hSw; (try dsimp only at hSw); (first | (go_simp; done) | (go_simp; with_reducible rfl)))
            try simp only [Act.put, List.setIfInBounds_toArray, List.set_cons_zero, List.set_cons_succ]
            refine wpAnyH_take (i := 5) (v := ?v12) (by simp only [List.getElem?_toArray, List.getElem?_cons_succ, List.getElem?_cons_zero]; rfl) (by kernel_rfl) (by kernel_rfl) (by kernel_rfl) (by exact fun _ _ _ h => h) (Or.inl ⟨by rfl, ?h12⟩) hHeld ?r12
            case h12 => (intro w hSw; (try dsimp only at hSw); (first | (go_simp; done) | (go_simp; with_reducible rfl)))
            try simp only [Act.put, List.setIfInBounds_toArray, List.set_cons_zero, List.set_cons_succ]
            refine wpAnyH_take (i := 6) (v := ?v13) (by simp only [List.getElem?_toArray, List.getElem?_cons_succ, List.getElem?_cons_zero]; rfl) (by kernel_rfl) (by kernel_rfl) (by kernel_rfl) (by exact fun _ _ _ h => h) (Or.inl ⟨by rfl, ?h13⟩) hHeld ?r13
            case h13 => (intro w hSw; (try dsimp only at hSw); (first | (go_simp; done) | (go_simp; with_reducible rfl)))
            try simp only [Act.put, List.setIfInBounds_toArray, List.set_cons_zero, List.set_cons_succ]
            refine wpAnyH_ready (rs := [9]) (by kernel_rfl) (by simp) (AllReadyH.cons (by simp only [List.getElem?_toArray, List.getElem?_cons_succ, List.getElem?_cons_zero]; rfl) (fun K hK => ?_) AllReadyH.nil)
            obtain ⟨fa, fb, fc, fd⟩ := R17.out.2.2.1.facts; go_simp; clear fa fb fc fd
            refine hK.out _ _ (KK.out.2 _ _ _ _ (R17.out.2.2.2.1) hHeld) (fun hHeld => ?_); clear hK K; try simp only [Act.put, List.setIfInBounds_toArray, List.set_cons_zero, List.set_cons_succ]
            have R18 := Lib.hid (And.intro (R17.out.1.put R17.out.2.2.1 R17.out.2.2.2.1 (.bool pu) (.slice Au lu cu)) (And.intro (R17.out.2.1.put R17.out.2.2.1 (.bool pu) (.slice Au lu cu)) (And.intro (R17.out.2.2.1.set (.bool pu) (.slice Au lu cu)) (And.intro (R17.out.2.2.2.1) (And.intro (R17.out.2.2.2.2.1.other2 (R17.out.2.2.2.2.2.2.1) (.bool pu) (.slice Au lu cu)) (And.intro (R17.out.2.2.2.2.2.1) (And.intro (R17.out.2.2.2.2.2.2.1) (And.intro (R17.out.2.2.2.2.2.2.2.1.put R17.out.2.2.1 (.bool pu) (.slice Au lu cu)) ((R17.out.2.2.2.2.2.2.2.2.put R17.out.2.2.1 (.bool pu) (.slice Au lu cu)))))))))))
            generalize (w17.setCell _ _).setCell _ _ = W18 at R18 hHeld ⊢
            refine wpAnyH_ready (rs := [10]) (by kernel_rfl) (by simp) (AllReadyH.cons (by simp only [List.getElem?_toArray, List.getElem?_cons_succ, List.getElem?_cons_zero]; rfl) (fun K hK => ?_) AllReadyH.nil)
            obtain ⟨fa, fb, fc, fd⟩ := R18.out.2.2.2.2.1.facts; go_simp; clear fa fb fc fd
            refine hK.out _ _ (KK.out.2 _ _ _ _ (R18.out.2.2.2.2.2.1) hHeld) (fun hHeld => ?_); clear hK K; try simp only [Act.put, List.setIfInBounds_toArray, List.set_cons_zero, List.set_cons_succ]
            have R19 := Lib.hid (And.intro (R18.out.1.put R18.out.2.2.2.2.1 R18.out.2.2.2.2.2.1 (.bool pv) (.slice Av lv cv)) (And.intro (R18.out.2.1.put R18.out.2.2.2.2.1 (.bool pv) (.slice Av lv cv)) (And.intro (R18.out.2.2.1.other2 (Ne.symm R18.out.2.2.2.2.2.2.1) (.bool pv) (.slice Av lv cv)) (And.intro (R18.out.2.2.2.1) (And.intro (R18.out.2.2.2.2.1.set (.bool pv) (.slice Av lv cv)) (And.intro (R18.out.2.2.2.2.2.1) (And.intro (R18.out.2.2.2.2.2.2.1) (And.intro (R18.out.2.2.2.2.2.2.2.1.put R18.out.2.2.2.2.1 (.bool pv) (.slice Av lv cv)) ((R18.out.2.2.2.2.2.2.2.2.put R18.out.2.2.2.2.1 (.bool pv) (.slice Av lv cv)))))))))))
            generalize (W18.setCell _ _).setCell _ _ = W19 at R19 hHeld ⊢
            refine wpAnyH_done (by kernel_rfl) ?_ _; clear hHeld
            go_wp2_with fail; go_meet
            exact ⟨_, _, _, _, _, _, _, _, _, _, rfl, rfl, R19.out.1, R19.out.2.2.1, R19.out.2.2.2.2.1, R19.out.2.2.2.2.2.2.2.1, R19.out.2.2.2.2.2.2.2.2⟩
        ·
          go_simp
          refine hK.out _ _ (KK.out.1 _ _ hHeld) (fun hHeld => ?_); clear hK K; try simp only [Act.put, List.setIfInBounds_toArray, List.set_cons_zero, List.set_cons_succ]
          obtain ⟨gv, hgv⟩ : ∃ g, g = w1.heap.size := ⟨_, rfl⟩
          have R20 := Lib.hid (And.intro (R1.out.1.keep (below_al w1 (.cells #[.bool false, .slice none 0 0] 33))) (And.intro (R1.out.2.keep (below_al w1 (.cells #[.bool false, .slice none 0 0] 33))) (And.intro (Bx.new 33 w1 (.bool false) (.slice none 0 0)) ((R1.out.1.out.size)))))
          generalize w1.alloc _ = W20 at R20 hHeld ⊢; rw [← hgv] at R20 ⊢; clear hgv 
          refine wpAnyH_ready (rs := [3, 7]) (by kernel_rfl) (by simp) (AllReadyH.cons (by simp only [List.getElem?_toArray, List.getElem?_cons_succ, List.getElem?_cons_zero]; rfl) (fun K hK => ?_) (AllReadyH.cons (by simp only [List.getElem?_toArray, List.getElem?_cons_succ, List.getElem?_cons_zero]; rfl) (fun K hK => ?_) AllReadyH.nil))
          ·
            go_simp
            go_at_call 19; refine (I.divFloor_d R20.out.2.1 (S9.out.2.2.2.2.2.2.2.2.2.2.2.2.2.2.2.2.2.2.2.1.keep R20.out.1) (by decide) (by decide) HE.out.1).mono ?_; rintro e w21 ⟨v2, v3, rfl, h, hh, hb⟩
            obtain ⟨pu, Au, lu, cu, rfl⟩ := Zd.pat h
            obtain ⟨pv, Av, lv, cv, rfl⟩ := Zd.pat hh
            have R21 := Lib.hid (And.intro (R20.out.1.keep (hb)) (And.intro (R20.out.2.1.keep (hb)) (And.intro (R20.out.2.2.1.keep (hb)) (And.intro (R20.out.2.2.2) (And.intro (h) ((hh)))))))
            have hN : w21.cell? ⟨w.heap.size, 0, none⟩ = some (.bool pa) ∧ w21.cell? ⟨w.heap.size, 1, none⟩ = some (.slice Aa na ca) ∧ w21.cell? ⟨gn, 0, none⟩ = some (.bool pn) ∧ w21.cell? ⟨gn, 1, none⟩ = some (.slice An ln cn) := ⟨((S9.out.2.2.2.2.2.1.keep R21.out.1)).facts.1, ((S9.out.2.2.2.2.2.1.keep R21.out.1)).facts.2.1, ((S9.out.2.2.2.2.2.2.2.2.2.2.2.2.2.2.2.2.2.2.2.2.1.keep R21.out.1)).facts.1, ((S9.out.2.2.2.2.2.2.2.2.2.2.2.2.2.2.2.2.2.2.2.2.1.keep R21.out.1)).facts.2.1⟩
            clear hHeld h hh hb
            go_wp2_with fail
            refine hK.out _ _ hN (fun hHeld => ?_); clear hK K hN; try simp only [Act.put, List.setIfInBounds_toArray, List.set_cons_zero, List.set_cons_succ]
            refine wpAnyH_take (i := 4) (v := ?v14) (by simp only [List.getElem?_toArray, List.getElem?_cons_succ, List.getElem?_cons_zero]; rfl) (by kernel_rfl) (by kernel_rfl) (by kernel_rfl) (by exact fun _ _ _ h => h) (Or.inl ⟨by rfl, ?h14⟩) hHeld ?r14
            case h14 => (intro w hSw; (try dsimp only at hSw); (first | (go_simp; done) | (go_simp; with_reducible rfl)))
            try simp only [Act.put, List.setIfInBounds_toArray, List.set_cons_zero, List.set_cons_succ]
            refine wpAnyH_take (i := 5) (v := ?v15) (by simp only [List.getElem?_toArray, List.getElem?_cons_succ, List.getElem?_cons_zero]; rfl) (by kernel_rfl) (by kernel_rfl) (by kernel_rfl) (by exact fun _ _ _ h => h) (Or.inl ⟨by rfl, ?h15⟩) hHeld ?r15
            case h15 => (intro w hSw; (try dsimp only at hSw); (first | (go_simp; done) | (go_simp; with_reducible rfl)))
            try simp only [Act.put, List.setIfInBounds_toArray, List.set_cons_zero, List.set_cons_succ]
            refine wpAnyH_take (i := 6) (v := ?v16) (by simp only [List.getElem?_toArray, List.getElem?_cons_succ, List.getElem?_cons_zero]; rfl) (by kernel_rfl) (by kernel_rfl) (by kernel_rfl) (by exact fun _ _ _ h => h) (Or.inl ⟨by rfl, ?h16⟩) hHeld ?r16
            case h16 => (intro w hSw; (try dsimp only at hSw); (first | (go_simp; done) | (go_simp; with_reducible rfl)))
            try simp only [Act.put, List.setIfInBounds_toArray, List.set_cons_zero, List.set_cons_succ]
            refine wpAnyH_ready (rs := [7]) (by kernel_rfl) (by simp) (AllReadyH.cons (by simp only [List.getElem?_toArray, List.getElem?_cons_succ, List.getElem?_cons_zero]; rfl) (fun K hK => ?_) AllReadyH.nil)
            go_simp
            refine hK.out _ _ (KK.out.1 _ _ hHeld) (fun hHeld => ?_); clear hK K; try simp only [Act.put, List.setIfInBounds_toArray, List.set_cons_zero, List.set_cons_succ]
            obtain ⟨gu, hgu⟩ : ∃ g, g = w21.heap.size := ⟨_, rfl⟩
            have R22 := Lib.hid (And.intro (R21.out.1.keep (below_al w21 (.cells #[.bool false, .slice none 0 0] 33))) (And.intro (R21.out.2.1.keep (below_al w21 (.cells #[.bool false, .slice none 0 0] 33))) (And.intro (R21.out.2.2.1.keep (below_al w21 (.cells #[.bool false, .slice none 0 0] 33))) (And.intro (R21.out.2.2.2.1) (And.intro (R21.out.2.2.2.2.1.keep (below_al w21 (.cells #[.bool false, .slice none 0 0] 33))) (And.intro (R21.out.2.2.2.2.2.keep (below_al w21 (.cells #[.bool false, .slice none 0 0] 33))) (And.intro (Bx.new 33 w21 (.bool false) (.slice none 0 0)) (And.intro (R21.out.1.out.size) ((Nat.ne_of_lt R21.out.2.2.1.lt))))))))))
            generalize w21.alloc _ = W22 at R22 hHeld ⊢; rw [← hgu] at R22 ⊢; clear hgu 
            refine wpAnyH_ready (rs := [9]) (by kernel_rfl) (by simp) (AllReadyH.cons (by simp only [List.getElem?_toArray, List.getElem?_cons_succ, List.getElem?_cons_zero]; rfl) (fun K hK => ?_) AllReadyH.nil)
            obtain ⟨fa, fb, fc, fd⟩ := R22.out.2.2.2.2.2.2.1.facts; go_simp; clear fa fb fc fd
            refine hK.out _ _ (KK.out.2 _ _ _ _ (R22.out.2.2.2.2.2.2.2.1) hHeld) (fun hHeld => ?_); clear hK K; try simp only [Act.put, List.setIfInBounds_toArray, List.set_cons_zero, List.set_cons_succ]
            have R23 := Lib.hid (And.intro (R22.out.1.put R22.out.2.2.2.2.2.2.1 R22.out.2.2.2.2.2.2.2.1 (.bool pu) (.slice Au lu cu)) (And.intro (R22.out.2.1.put R22.out.2.2.2.2.2.2.1 (.bool pu) (.slice Au lu cu)) (And.intro (R22.out.2.2.1.other2 (Ne.symm R22.out.2.2.2.2.2.2.2.2) (.bool pu) (.slice Au lu cu)) (And.intro (R22.out.2.2.2.1) (And.intro (R22.out.2.2.2.2.1.put R22.out.2.2.2.2.2.2.1 (.bool pu) (.slice Au lu cu)) (And.intro (R22.out.2.2.2.2.2.1.put R22.out.2.2.2.2.2.2.1 (.bool pu) (.slice Au lu cu)) (And.intro (R22.out.2.2.2.2.2.2.1.set (.bool pu) (.slice Au lu cu)) (And.intro (R22.out.2.2.2.2.2.2.2.1) ((R22.out.2.2.2.2.2.2.2.2))))))))))
            generalize (W22.setCell _ _).setCell _ _ = W23 at R23 hHeld ⊢
            refine wpAnyH_ready (rs := [10]) (by kernel_rfl) (by simp) (AllReadyH.cons (by simp only [List.getElem?_toArray, List.getElem?_cons_succ, List.getElem?_cons_zero]; rfl) (fun K hK => ?_) AllReadyH.nil)
            obtain ⟨fa, fb, fc, fd⟩ := R23.out.2.2.1.facts; go_simp; clear fa fb fc fd
            refine hK.out _ _ (KK.out.2 _ _ _ _ (R23.out.2.2.2.1) hHeld) (fun hHeld => ?_); clear hK K; try simp only [Act.put, List.setIfInBounds_toArray, List.set_cons_zero, List.set_cons_succ]
            have R24 := Lib.hid (And.intro (R23.out.1.put R23.out.2.2.1 R23.out.2.2.2.1 (.bool pv) (.slice Av lv cv)) (And.intro (R23.out.2.1.put R23.out.2.2.1 (.bool pv) (.slice Av lv cv)) (And.intro (R23.out.2.2.1.set (.bool pv) (.slice Av lv cv)) (And.intro (R23.out.2.2.2.1) (And.intro (R23.out.2.2.2.2.1.put R23.out.2.2.1 (.bool pv) (.slice Av lv cv)) (And.intro (R23.out.2.2.2.2.2.1.put R23.out.2.2.1 (.bool pv) (.slice Av lv cv)) (And.intro (R23.out.2.2.2.2.2.2.1.other2 (R23.out.2.2.2.2.2.2.2.2) (.bool pv) (.slice Av lv cv)) (And.intro (R23.out.2.2.2.2.2.2.2.1) ((R23.out.2.2.2.2.2.2.2.2))))))))))
            generalize (W23.setCell _ _).setCell _ _ = W24 at R24 hHeld ⊢
            refine wpAnyH_done (by kernel_rfl) ?_ _; clear hHeld
            go_wp2_with fail; go_meet
            exact ⟨_, _, _, _, _, _, _, _, _, _, rfl, rfl, R24.out.1, R24.out.2.2.2.2.2.2.1, R24.out.2.2.1, R24.out.2.2.2.2.1, R24.out.2.2.2.2.2.1⟩
          ·
            go_simp
            refine hK.out _ _ (KK.out.1 _ _ hHeld) (fun hHeld => ?_); clear hK K; try simp only [Act.put, List.setIfInBounds_toArray, List.set_cons_zero, List.set_cons_succ]
            obtain ⟨gu, hgu⟩ : ∃ g, g = W20.heap.size := ⟨_, rfl⟩
            have R25 := Lib.hid (And.intro (R20.out.1.keep (below_al W20 (.cells #[.bool false, .slice none 0 0] 33))) (And.intro (R20.out.2.1.keep (below_al W20 (.cells #[.bool false, .slice none 0 0] 33))) (And.intro (R20.out.2.2.1.keep (below_al W20 (.cells #[.bool false, .slice none 0 0] 33))) (And.intro (R20.out.2.2.2) (And.intro (Bx.new 33 W20 (.bool false) (.slice none 0 0)) (And.intro (R20.out.1.out.size) ((Nat.ne_of_lt R20.out.2.2.1.lt))))))))
            generalize W20.alloc _ = W25 at R25 hHeld ⊢; rw [← hgu] at R25 ⊢; clear hgu 
            refine wpAnyH_ready (rs := [3]) (by kernel_rfl) (by simp) (AllReadyH.cons (by simp only [List.getElem?_toArray, List.getElem?_cons_succ, List.getElem?_cons_zero]; rfl) (fun K hK => ?_) AllReadyH.nil)
            go_simp
            go_at_call 19; refine (I.divFloor_d R25.out.2.1 (S9.out.2.2.2.2.2.2.2.2.2.2.2.2.2.2.2.2.2.2.2.1.keep R25.out.1) (by decide) (by decide) HE.out.1).mono ?_; rintro e w26 ⟨v2, v3, rfl, h, hh, hb⟩
            obtain ⟨pu, Au, lu, cu, rfl⟩ := Zd.pat h
            obtain ⟨pv, Av, lv, cv, rfl⟩ := Zd.pat hh
            have R26 := Lib.hid (And.intro (R25.out.1.keep (hb)) (And.intro (R25.out.2.1.keep (hb)) (And.intro (R25.out.2.2.1.keep (hb)) (And.intro (R25.out.2.2.2.1) (And.intro (R25.out.2.2.2.2.1.keep (hb)) (And.intro (R25.out.2.2.2.2.2.1) (And.intro (R25.out.2.2.2.2.2.2) (And.intro (h) ((hh))))))))))
            have hN : w26.cell? ⟨w.heap.size, 0, none⟩ = some (.bool pa) ∧ w26.cell? ⟨w.heap.size, 1, none⟩ = some (.slice Aa na ca) ∧ w26.cell? ⟨gn, 0, none⟩ = some (.bool pn) ∧ w26.cell? ⟨gn, 1, none⟩ = some (.slice An ln cn) := ⟨((S9.out.2.2.2.2.2.1.keep R26.out.1)).facts.1, ((S9.out.2.2.2.2.2.1.keep R26.out.1)).facts.2.1, ((S9.out.2.2.2.2.2.2.2.2.2.2.2.2.2.2.2.2.2.2.2.2.1.keep R26.out.1)).facts.1, ((S9.out.2.2.2.2.2.2.2.2.2.2.2.2.2.2.2.2.2.2.2.2.1.keep R26.out.1)).facts.2.1⟩
            clear hHeld h hh hb
            go_wp2_with fail
            refine hK.out _ _ hN (fun hHeld => ?_); clear hK K hN; try simp only [Act.put, List.setIfInBounds_toArray, List.set_cons_zero, List.set_cons_succ]
            refine wpAnyH_take (i := 4) (v := ?v17) (by simp only [List.getElem?_toArray, List.getElem?_cons_succ, List.getElem?_cons_zero]; rfl) (by kernel_rfl) (by kernel_rfl) (by kernel_rfl) (by exact fun _ _ _ h => h) (Or.inl ⟨by rfl, ?h17⟩) hHeld ?r17
            case h17 => (intro w hSw; (try dsimp only at hSw); (first | (go_simp; done) | (go_simp; with_reducible rfl)))
            try simp only [Act.put, List.setIfInBounds_toArray, List.set_cons_zero, List.set_cons_succ]
            refine wpAnyH_take (i := 5) (v := ?v18) (by simp only [List.getElem?_toArray, List.getElem?_cons_succ, List.getElem?_cons_zero]; rfl) (by kernel_rfl) (by kernel_rfl) (by kernel_rfl) (by exact fun _ _ _ h => h) (Or.inl ⟨by rfl, ?h18⟩) hHeld ?r18
            case h18 => (intro w hSw; (try dsimp only at hSw); (first | (go_simp; done) | (go_simp; with_reducible rfl)))
            try simp only [Act.put, List.setIfInBounds_toArray, List.set_cons_zero, List.set_cons_succ]
            refine wpAnyH_take (i := 6) (v := ?v19) (by simp only [List.getElem?_toArray, List.getElem?_cons_succ, List.getElem?_cons_zero]; rfl) (by kernel_rfl) (by kernel_rfl) (by kernel_rfl) (by exact fun _ _ _ h => h) (Or.inl ⟨by rfl, ?h19⟩) hHeld ?r19
            case h19 => (intro w hSw; (try dsimp only at hSw); (first | (go_simp; done) | (go_simp; with_reducible rfl)))
            try simp only [Act.put, List.setIfInBounds_toArray, List.set_cons_zero, List.set_cons_succ]
            refine wpAnyH_ready (rs := [9]) (by kernel_rfl) (by simp) (AllReadyH.cons (by simp only [List.getElem?_toArray, List.getElem?_cons_succ, List.getElem?_cons_zero]; rfl) (fun K hK => ?_) AllReadyH.nil)
            obtain ⟨fa, fb, fc, fd⟩ := R26.out.2.2.2.2.1.facts; go_simp; clear fa fb fc fd
            refine hK.out _ _ (KK.out.2 _ _ _ _ (R26.out.2.2.2.2.2.1) hHeld) (fun hHeld => ?_); clear hK K; try simp only [Act.put, List.setIfInBounds_toArray, List.set_cons_zero, List.set_cons_succ]
            have R27 := Lib.hid (And.intro (R26.out.1.put R26.out.2.2.2.2.1 R26.out.2.2.2.2.2.1 (.bool pu) (.slice Au lu cu)) (And.intro (R26.out.2.1.put R26.out.2.2.2.2.1 (.bool pu) (.slice Au lu cu)) (And.intro (R26.out.2.2.1.other2 (Ne.symm R26.out.2.2.2.2.2.2.1) (.bool pu) (.slice Au lu cu)) (And.intro (R26.out.2.2.2.1) (And.intro (R26.out.2.2.2.2.1.set (.bool pu) (.slice Au lu cu)) (And.intro (R26.out.2.2.2.2.2.1) (And.intro (R26.out.2.2.2.2.2.2.1) (And.intro (R26.out.2.2.2.2.2.2.2.1.put R26.out.2.2.2.2.1 (.bool pu) (.slice Au lu cu)) ((R26.out.2.2.2.2.2.2.2.2.put R26.out.2.2.2.2.1 (.bool pu) (.slice Au lu cu)))))))))))
            generalize (w26.setCell _ _).setCell _ _ = W27 at R27 hHeld ⊢
            refine wpAnyH_ready (rs := [10]) (by kernel_rfl) (by simp) (AllReadyH.cons (by simp only [List.getElem?_toArray, List.getElem?_cons_succ, List.getElem?_cons_zero]; rfl) (fun K hK => ?_) AllReadyH.nil)
            obtain ⟨fa, fb, fc, fd⟩ := R27.out.2.2.1.facts; go_simp; clear fa fb fc fd
            refine hK.out _ _ (KK.out.2 _ _ _ _ (R27.out.2.2.2.1) hHeld) (fun hHeld => ?_); clear hK K; try simp only [Act.put, List.setIfInBounds_toArray, List.set_cons_zero, List.set_cons_succ]
            have R28 := Lib.hid (And.intro (R27.out.1.put R27.out.2.2.1 R27.out.2.2.2.1 (.bool pv) (.slice Av lv cv)) (And.intro (R27.out.2.1.put R27.out.2.2.1 (.bool pv) (.slice Av lv cv)) (And.intro (R27.out.2.2.1.set (.bool pv) (.slice Av lv cv)) (And.intro (R27.out.2.2.2.1) (And.intro (R27.out.2.2.2.2.1.other2 (R27.out.2.2.2.2.2.2.1) (.bool pv) (.slice Av lv cv)) (And.intro (R27.out.2.2.2.2.2.1) (And.intro (R27.out.2.2.2.2.2.2.1) (And.intro (R27.out.2.2.2.2.2.2.2.1.put R27.out.2.2.1 (.bool pv) (.slice Av lv cv)) ((R27.out.2.2.2.2.2.2.2.2.put R27.out.2.2.1 (.bool pv) (.slice Av lv cv)))))))))))
            generalize (W27.setCell _ _).setCell _ _ = W28 at R28 hHeld ⊢
            refine wpAnyH_done (by kernel_rfl) ?_ _; clear hHeld
            go_wp2_with fail; go_meet
            exact ⟨_, _, _, _, _, _, _, _, _, _, rfl, rfl, R28.out.1, R28.out.2.2.2.2.1, R28.out.2.2.1, R28.out.2.2.2.2.2.2.2.1, R28.out.2.2.2.2.2.2.2.2⟩
      ·
        go_simp
        refine hK.out _ _ (KK.out.1 _ _ hHeld) (fun hHeld => ?_); clear hK K; try simp only [Act.put, List.setIfInBounds_toArray, List.set_cons_zero, List.set_cons_succ]
        obtain ⟨gu, hgu⟩ : ∃ g, g = Wd.heap.size := ⟨_, rfl⟩
        have R29 := Lib.hid (And.intro (R0.out.keep (below_al Wd (.cells #[.bool false, .slice none 0 0] 33))) (And.intro (Bx.new 33 Wd (.bool false) (.slice none 0 0)) ((R0.out.out.size))))
        generalize Wd.alloc _ = W29 at R29 hHeld ⊢; rw [← hgu] at R29 ⊢; clear hgu 
        refine wpAnyH_ready (rs := [1, 8]) (by kernel_rfl) (by simp) (AllReadyH.cons (by simp only [List.getElem?_toArray, List.getElem?_cons_succ, List.getElem?_cons_zero]; rfl) (fun K hK => ?_) (AllReadyH.cons (by simp only [List.getElem?_toArray, List.getElem?_cons_succ, List.getElem?_cons_zero]; rfl) (fun K hK => ?_) AllReadyH.nil))
        ·
          go_simp
          go_at_call 16; refine (I.of_d (S9.out.2.2.2.1.keep R29.out.1) (by decide)).mono ?_; rintro e w30 ⟨v, rfl, h, hb⟩
          have R30 := Lib.hid (And.intro (R29.out.1.keep (hb)) (And.intro (R29.out.2.1.keep (hb)) (And.intro (R29.out.2.2) ((h)))))
          have hN : w30.cell? ⟨w.heap.size, 0, none⟩ = some (.bool pa) ∧ w30.cell? ⟨w.heap.size, 1, none⟩ = some (.slice Aa na ca) ∧ w30.cell? ⟨gn, 0, none⟩ = some (.bool pn) ∧ w30.cell? ⟨gn, 1, none⟩ = some (.slice An ln cn) := ⟨((S9.out.2.2.2.2.2.1.keep R30.out.1)).facts.1, ((S9.out.2.2.2.2.2.1.keep R30.out.1)).facts.2.1, ((S9.out.2.2.2.2.2.2.2.2.2.2.2.2.2.2.2.2.2.2.2.2.1.keep R30.out.1)).facts.1, ((S9.out.2.2.2.2.2.2.2.2.2.2.2.2.2.2.2.2.2.2.2.2.1.keep R30.out.1)).facts.2.1⟩
          clear hHeld h hb
          go_wp2_with fail
          refine hK.out _ _ hN (fun hHeld => ?_); clear hK K hN; try simp only [Act.put, List.setIfInBounds_toArray, List.set_cons_zero, List.set_cons_succ]
          refine wpAnyH_ready (rs := [3, 8]) (by kernel_rfl) (by simp) (AllReadyH.cons (by simp only [List.getElem?_toArray, List.getElem?_cons_succ, List.getElem?_cons_zero]; rfl) (fun K hK => ?_) (AllReadyH.cons (by simp only [List.getElem?_toArray, List.getElem?_cons_succ, List.getElem?_cons_zero]; rfl) (fun K hK => ?_) AllReadyH.nil))
          ·
            go_simp
            go_at_call 19; refine (I.divFloor_d R30.out.2.2.2 (S9.out.2.2.2.2.2.2.2.2.2.2.2.2.2.2.2.2.2.2.2.1.keep R30.out.1) (by decide) (by decide) HE.out.1).mono ?_; rintro e w31 ⟨v2, v3, rfl, h, hh, hb⟩
            obtain ⟨pu, Au, lu, cu, rfl⟩ := Zd.pat h
            obtain ⟨pv, Av, lv, cv, rfl⟩ := Zd.pat hh
            have R31 := Lib.hid (And.intro (R30.out.1.keep (hb)) (And.intro (R30.out.2.1.keep (hb)) (And.intro (R30.out.2.2.1) (And.intro (R30.out.2.2.2.keep (hb)) (And.intro (h) ((hh)))))))
            have hN : w31.cell? ⟨w.heap.size, 0, none⟩ = some (.bool pa) ∧ w31.cell? ⟨w.heap.size, 1, none⟩ = some (.slice Aa na ca) ∧ w31.cell? ⟨gn, 0, none⟩ = some (.bool pn) ∧ w31.cell? ⟨gn, 1, none⟩ = some (.slice An ln cn) := ⟨((S9.out.2.2.2.2.2.1.keep R31.out.1)).facts.1, ((S9.out.2.2.2.2.2.1.keep R31.out.1)).facts.2.1, ((S9.out.2.2.2.2.2.2.2.2.2.2.2.2.2.2.2.2.2.2.2.2.1.keep R31.out.1)).facts.1, ((S9.out.2.2.2.2.2.2.2.2.2.2.2.2.2.2.2.2.2.2.2.2.1.keep R31.out.1)).facts.2.1⟩
            clear hHeld h hh hb
            go_wp2_with fail
            refine hK.out _ _ hN (fun hHeld => ?_); clear hK K hN; try simp only [Act.put, List.setIfInBounds_toArray, List.set_cons_zero, List.set_cons_succ]
            refine wpAnyH_take (i := 4) (v := ?v20) (by simp only [List.getElem?_toArray, List.getElem?_cons_succ, List.getElem?_cons_zero]; rfl) (by kernel_rfl) (by kernel_rfl) (by kernel_rfl) (by exact fun _ _ _ h => h) (Or.inl ⟨by rfl, ?h20⟩) hHeld ?r20
            case h20 => (intro w hSw; (try dsimp only at hSw); (first | (go_simp; done) | (go_simp; with_reducible rfl)))
            try simp only [Act.put, List.setIfInBounds_toArray, List.set_cons_zero, List.set_cons_succ]
            refine wpAnyH_take (i := 5) (v := ?v21) (by simp only [List.getElem?_toArray, List.getElem?_cons_succ, List.getElem?_cons_zero]; rfl) (by kernel_rfl) (by kernel_rfl) (by kernel_rfl) (by exact fun _ _ _ h => h) (Or.inl ⟨by rfl, ?h21⟩) hHeld ?r21
            case h21 => (intro w hSw; (try dsimp only at hSw); (first | (go_simp; done) | (go_simp; with_reducible rfl)))
            try simp only [Act.put, List.setIfInBounds_toArray, List.set_cons_zero, List.set_cons_succ]
            refine wpAnyH_take (i := 6) (v := ?v22) (by simp only [List.getElem?_toArray, List.getElem?_cons_succ, List.getElem?_cons_zero]; rfl) (by kernel_rfl) (by kernel_rfl) (by kernel_rfl) (by exact fun _ _ _ h => h) (Or.inl ⟨by rfl, ?h22⟩) hHeld ?r22
            case h22 => (intro w hSw; (try dsimp only at hSw); (first | (go_simp; done) | (go_simp; with_reducible rfl)))
            try simp only [Act.put, List.setIfInBounds_toArray, List.set_cons_zero, List.set_cons_succ]
            refine wpAnyH_ready (rs := [8]) (by kernel_rfl) (by simp) (AllReadyH.cons (by simp only [List.getElem?_toArray, List.getElem?_cons_succ, List.getElem?_cons_zero]; rfl) (fun K hK => ?_) AllReadyH.nil)
            go_simp
            refine hK.out _ _ (KK.out.1 _ _ hHeld) (fun hHeld => ?_); clear hK K; try simp only [Act.put, List.setIfInBounds_toArray, List.set_cons_zero, List.set_cons_succ]
            obtain ⟨gv, hgv⟩ : ∃ g, g = w31.heap.size := ⟨_, rfl⟩
            have R32 := Lib.hid (And.intro (R31.out.1.keep (below_al w31 (.cells #[.bool false, .slice none 0 0] 33))) (And.intro (R31.out.2.1.keep (below_al w31 (.cells #[.bool false, .slice none 0 0] 33))) (And.intro (R31.out.2.2.1) (And.intro (R31.out.2.2.2.1.keep (below_al w31 (.cells #[.bool false, .slice none 0 0] 33))) (And.intro (R31.out.2.2.2.2.1.keep (below_al w31 (.cells #[.bool false, .slice none 0 0] 33))) (And.intro (R31.out.2.2.2.2.2.keep (below_al w31 (.cells #[.bool false, .slice none 0 0] 33))) (And.intro (Bx.new 33 w31 (.bool false) (.slice none 0 0)) (And.intro (R31.out.1.out.size) ((Nat.ne_of_lt R31.out.2.1.lt))))))))))
            generalize w31.alloc _ = W32 at R32 hHeld ⊢; rw [← hgv] at R32 ⊢; clear hgv 
            refine wpAnyH_ready (rs := [9]) (by kernel_rfl) (by simp) (AllReadyH.cons (by simp only [List.getElem?_toArray, List.getElem?_cons_succ, List.getElem?_cons_zero]; rfl) (fun K hK => ?_) AllReadyH.nil)
            obtain ⟨fa, fb, fc, fd⟩ := R32.out.2.1.facts; go_simp; clear fa fb fc fd
            refine hK.out _ _ (KK.out.2 _ _ _ _ (R32.out.2.2.1) hHeld) (fun hHeld => ?_); clear hK K; try simp only [Act.put, List.setIfInBounds_toArray, List.set_cons_zero, List.set_cons_succ]
            have R33 := Lib.hid (And.intro (R32.out.1.put R32.out.2.1 R32.out.2.2.1 (.bool pu) (.slice Au lu cu)) (And.intro (R32.out.2.1.set (.bool pu) (.slice Au lu cu)) (And.intro (R32.out.2.2.1) (And.intro (R32.out.2.2.2.1.put R32.out.2.1 (.bool pu) (.slice Au lu cu)) (And.intro (R32.out.2.2.2.2.1.put R32.out.2.1 (.bool pu) (.slice Au lu cu)) (And.intro (R32.out.2.2.2.2.2.1.put R32.out.2.1 (.bool pu) (.slice Au lu cu)) (And.intro (R32.out.2.2.2.2.2.2.1.other2 (R32.out.2.2.2.2.2.2.2.2) (.bool pu) (.slice Au lu cu)) (And.intro (R32.out.2.2.2.2.2.2.2.1) ((R32.out.2.2.2.2.2.2.2.2))))))))))
            generalize (W32.setCell _ _).setCell _ _ = W33 at R33 hHeld ⊢
            refine wpAnyH_ready (rs := [10]) (by kernel_rfl) (by simp) (AllReadyH.cons (by simp only [List.getElem?_toArray, List.getElem?_cons_succ, List.getElem?_cons_zero]; rfl) (fun K hK => ?_) AllReadyH.nil)
            obtain ⟨fa, fb, fc, fd⟩ := R33.out.2.2.2.2.2.2.1.facts; go_simp; clear fa fb fc fd
            refine hK.out _ _ (KK.out.2 _ _ _ _ (R33.out.2.2.2.2.2.2.2.1) hHeld) (fun hHeld => ?_); clear hK K; try simp only [Act.put, List.setIfInBounds_toArray, List.set_cons_zero, List.set_cons_succ]
            have R34 := Lib.hid (And.intro (R33.out.1.put R33.out.2.2.2.2.2.2.1 R33.out.2.2.2.2.2.2.2.1 (.bool pv) (.slice Av lv cv)) (And.intro (R33.out.2.1.other2 (Ne.symm R33.out.2.2.2.2.2.2.2.2) (.bool pv) (.slice Av lv cv)) (And.intro (R33.out.2.2.1) (And.intro (R33.out.2.2.2.1.put R33.out.2.2.2.2.2.2.1 (.bool pv) (.slice Av lv cv)) (And.intro (R33.out.2.2.2.2.1.put R33.out.2.2.2.2.2.2.1 (.bool pv) (.slice Av lv cv)) (And.intro (R33.out.2.2.2.2.2.1.put R33.out.2.2.2.2.2.2.1 (.bool pv) (.slice Av lv cv)) (And.intro (R33.out.2.2.2.2.2.2.1.set (.bool pv) (.slice Av lv cv)) (And.intro (R33.out.2.2.2.2.2.2.2.1) ((R33.out.2.2.2.2.2.2.2.2))))))))))
            generalize (W33.setCell _ _).setCell _ _ = W34 at R34 hHeld ⊢
            refine wpAnyH_done (by kernel_rfl) ?_ _; clear hHeld
            go_wp2_with fail; go_meet
            exact ⟨_, _, _, _, _, _, _, _, _, _, rfl, rfl, R34.out.1, R34.out.2.1, R34.out.2.2.2.2.2.2.1, R34.out.2.2.2.2.1, R34.out.2.2.2.2.2.1⟩
          ·
            go_simp
            refine hK.out _ _ (KK.out.1 _ _ hHeld) (fun hHeld => ?_); clear hK K; try simp only [Act.put, List.setIfInBounds_toArray, List.set_cons_zero, List.set_cons_succ]
            obtain ⟨gv, hgv⟩ : ∃ g, g = w30.heap.size := ⟨_, rfl⟩
            have R35 := Lib.hid (And.intro (R30.out.1.keep (below_al w30 (.cells #[.bool false, .slice none 0 0] 33))) (And.intro (R30.out.2.1.keep (below_al w30 (.cells #[.bool false, .slice none 0 0] 33))) (And.intro (R30.out.2.2.1) (And.intro (R30.out.2.2.2.keep (below_al w30 (.cells #[.bool false, .slice none 0 0] 33))) (And.intro (Bx.new 33 w30 (.bool false) (.slice none 0 0)) (And.intro (R30.out.1.out.size) ((Nat.ne_of_lt R30.out.2.1.lt))))))))
            generalize w30.alloc _ = W35 at R35 hHeld ⊢; rw [← hgv] at R35 ⊢; clear hgv 
            refine wpAnyH_ready (rs := [3]) (by kernel_rfl) (by simp) (AllReadyH.cons (by simp only [List.getElem?_toArray, List.getElem?_cons_succ, List.getElem?_cons_zero]; rfl) (fun K hK => ?_) AllReadyH.nil)
            go_simp
            go_at_call 19; refine (I.divFloor_d R35.out.2.2.2.1 (S9.out.2.2.2.2.2.2.2.2.2.2.2.2.2.2.2.2.2.2.2.1.keep R35.out.1) (by decide) (by decide) HE.out.1).mono ?_; rintro e w36 ⟨v2, v3, rfl, h, hh, hb⟩
            obtain ⟨pu, Au, lu, cu, rfl⟩ := Zd.pat h
            obtain ⟨pv, Av, lv, cv, rfl⟩ := Zd.pat hh
            have R36 := Lib.hid (And.intro (R35.out.1.keep (hb)) (And.intro (R35.out.2.1.keep (hb)) (And.intro (R35.out.2.2.1) (And.intro (R35.out.2.2.2.1.keep (hb)) (And.intro (R35.out.2.2.2.2.1.keep (hb)) (And.intro (R35.out.2.2.2.2.2.1) (And.intro (R35.out.2.2.2.2.2.2) (And.intro (h) ((hh))))))))))
            have hN : w36.cell? ⟨w.heap.size, 0, none⟩ = some (.bool pa) ∧ w36.cell? ⟨w.heap.size, 1, none⟩ = some (.slice Aa na ca) ∧ w36.cell? ⟨gn, 0, none⟩ = some (.bool pn) ∧ w36.cell? ⟨gn, 1, none⟩ = some (.slice An ln cn) := ⟨((S9.out.2.2.2.2.2.1.keep R36.out.1)).facts.1, ((S9.out.2.2.2.2.2.1.keep R36.out.1)).facts.2.1, ((S9.out.2.2.2.2.2.2.2.2.2.2.2.2.2.2.2.2.2.2.2.2.1.keep R36.out.1)).facts.1, ((S9.out.2.2.2.2.2.2.2.2.2.2.2.2.2.2.2.2.2.2.2.2.1.keep R36.out.1)).facts.2.1⟩
            clear hHeld h hh hb
            go_wp2_with fail
            refine hK.out _ _ hN (fun hHeld => ?_); clear hK K hN; try simp only [Act.put, List.setIfInBounds_toArray, List.set_cons_zero, List.set_cons_succ]
            refine wpAnyH_take (i := 4) (v := ?v23) (by simp only [List.getElem?_toArray, List.getElem?_cons_succ, List.getElem?_cons_zero]; rfl) (by kernel_rfl) (by kernel_rfl) (by kernel_rfl) (by exact fun _ _ _ h => h) (Or.inl ⟨by rfl, ?h23⟩) hHeld ?r23
            case h23 => (intro w hSw; (try dsimp only at hSw); (first | (go_simp; done) | (go_simp; with_reducible rfl)))
            try simp only [Act.put, List.setIfInBounds_toArray, List.set_cons_zero, List.set_cons_succ]
            refine wpAnyH_take (i := 5) (v := ?v24) (by simp only [List.getElem?_toArray, List.getElem?_cons_succ, List.getElem?_cons_zero]; rfl) (by kernel_rfl) (by kernel_rfl) (by kernel_rfl) (by exact fun _ _ _ h => h) (Or.inl ⟨by rfl, ?h24⟩) hHeld ?r24
            case h24 => (intro w hSw; (try dsimp only at hSw); (first | (go_simp; done) | (go_simp; with_reducible rfl)))
            try simp only [Act.put, List.setIfInBounds_toArray, List.set_cons_zero, List.set_cons_succ]
            refine wpAnyH_take (i := 6) (v := ?v25) (by simp only [List.getElem?_toArray, List.getElem?_cons_succ, List.getElem?_cons_zero]; rfl) (by kernel_rfl) (by kernel_rfl) (by kernel_rfl) (by exact fun _ _ _ h => h) (Or.inl ⟨by rfl, ?h25⟩) hHeld ?r25
            case h25 => (intro w hSw; (try dsimp only at hSw); (first | (go_simp; done) | (go_simp; with_reducible rfl)))
            try simp only [Act.put, List.setIfInBounds_toArray, List.set_cons_zero, List.set_cons_succ]
            refine wpAnyH_ready (rs := [9]) (by kernel_rfl) (by simp) (AllReadyH.cons (by simp only [List.getElem?_toArray, List.getElem?_cons_succ, List.getElem?_cons_zero]; rfl) (fun K hK => ?_) AllReadyH.nil)
            obtain ⟨fa, fb, fc, fd⟩ := R36.out.2.1.facts; go_simp; clear fa fb fc fd
            refine hK.out _ _ (KK.out.2 _ _ _ _ (R36.out.2.2.1) hHeld) (fun hHeld => ?_); clear hK K; try simp only [Act.put, List.setIfInBounds_toArray, List.set_cons_zero, List.set_cons_succ]
            have R37 := Lib.hid (And.intro (R36.out.1.put R36.out.2.1 R36.out.2.2.1 (.bool pu) (.slice Au lu cu)) (And.intro (R36.out.2.1.set (.bool pu) (.slice Au lu cu)) (And.intro (R36.out.2.2.1) (And.intro (R36.out.2.2.2.1.put R36.out.2.1 (.bool pu) (.slice Au lu cu)) (And.intro (R36.out.2.2.2.2.1.other2 (R36.out.2.2.2.2.2.2.1) (.bool pu) (.slice Au lu cu)) (And.intro (R36.out.2.2.2.2.2.1) (And.intro (R36.out.2.2.2.2.2.2.1) (And.intro (R36.out.2.2.2.2.2.2.2.1.put R36.out.2.1 (.bool pu) (.slice Au lu cu)) ((R36.out.2.2.2.2.2.2.2.2.put R36.out.2.1 (.bool pu) (.slice Au lu cu)))))))))))
            generalize (w36.setCell _ _).setCell _ _ = W37 at R37 hHeld ⊢
            refine wpAnyH_ready (rs := [10]) (by kernel_rfl) (by simp) (AllReadyH.cons (by simp only [List.getElem?_toArray, List.getElem?_cons_succ, List.getElem?_cons_zero]; rfl) (fun K hK => ?_) AllReadyH.nil)
            obtain ⟨fa, fb, fc, fd⟩ := R37.out.2.2.2.2.1.facts; go_simp; clear fa fb fc fd
            refine hK.out _ _ (KK.out.2 _ _ _ _ (R37.out.2.2.2.2.2.1) hHeld) (fun hHeld => ?_); clear hK K; try simp only [Act.put, List.setIfInBounds_toArray, List.set_cons_zero, List.set_cons_succ]
            have R38 := Lib.hid (And.intro (R37.out.1.put R37.out.2.2.2.2.1 R37.out.2.2.2.2.2.1 (.bool pv) (.slice Av lv cv)) (And.intro (R37.out.2.1.other2 (Ne.symm R37.out.2.2.2.2.2.2.1) (.bool pv) (.slice Av lv cv)) (And.intro (R37.out.2.2.1) (And.intro (R37.out.2.2.2.1.put R37.out.2.2.2.2.1 (.bool pv) (.slice Av lv cv)) (And.intro (R37.out.2.2.2.2.1.set (.bool pv) (.slice Av lv cv)) (And.intro (R37.out.2.2.2.2.2.1) (And.intro (R37.out.2.2.2.2.2.2.1) (And.intro (R37.out.2.2.2.2.2.2.2.1.put R37.out.2.2.2.2.1 (.bool pv) (.slice Av lv cv)) ((R37.out.2.2.2.2.2.2.2.2.put R37.out.2.2.2.2.1 (.bool pv) (.slice Av lv cv)))))))))))
            generalize (W37.setCell _ _).setCell _ _ = W38 at R38 hHeld ⊢
            refine wpAnyH_done (by kernel_rfl) ?_ _; clear hHeld
            go_wp2_with fail; go_meet
            exact ⟨_, _, _, _, _, _, _, _, _, _, rfl, rfl, R38.out.1, R38.out.2.1, R38.out.2.2.2.2.1, R38.out.2.2.2.2.2.2.2.1, R38.out.2.2.2.2.2.2.2.2⟩
        ·
          go_simp
          refine hK.out _ _ (KK.out.1 _ _ hHeld) (fun hHeld => ?_); clear hK K; try simp only [Act.put, List.setIfInBounds_toArray, List.set_cons_zero, List.set_cons_succ]
          obtain ⟨gv, hgv⟩ : ∃ g, g = W29.heap.size := ⟨_, rfl⟩
          have R39 := Lib.hid (And.intro (R29.out.1.keep (below_al W29 (.cells #[.bool false, .slice none 0 0] 33))) (And.intro (R29.out.2.1.keep (below_al W29 (.cells #[.bool false, .slice none 0 0] 33))) (And.intro (R29.out.2.2) (And.intro (Bx.new 33 W29 (.bool false) (.slice none 0 0)) (And.intro (R29.out.1.out.size) ((Nat.ne_of_lt R29.out.2.1.lt)))))))
          generalize W29.alloc _ = W39 at R39 hHeld ⊢; rw [← hgv] at R39 ⊢; clear hgv 
          refine wpAnyH_ready (rs := [1]) (by kernel_rfl) (by simp) (AllReadyH.cons (by simp only [List.getElem?_toArray, List.getElem?_cons_succ, List.getElem?_cons_zero]; rfl) (fun K hK => ?_) AllReadyH.nil)
          go_simp
          go_at_call 16; refine (I.of_d (S9.out.2.2.2.1.keep R39.out.1) (by decide)).mono ?_; rintro e w40 ⟨v, rfl, h, hb⟩
          have R40 := Lib.hid (And.intro (R39.out.1.keep (hb)) (And.intro (R39.out.2.1.keep (hb)) (And.intro (R39.out.2.2.1) (And.intro (R39.out.2.2.2.1.keep (hb)) (And.intro (R39.out.2.2.2.2.1) (And.intro (R39.out.2.2.2.2.2) ((h))))))))
          have hN : w40.cell? ⟨w.heap.size, 0, none⟩ = some (.bool pa) ∧ w40.cell? ⟨w.heap.size, 1, none⟩ = some (.slice Aa na ca) ∧ w40.cell? ⟨gn, 0, none⟩ = some (.bool pn) ∧ w40.cell? ⟨gn, 1, none⟩ = some (.slice An ln cn) := ⟨((S9.out.2.2.2.2.2.1.keep R40.out.1)).facts.1, ((S9.out.2.2.2.2.2.1.keep R40.out.1)).facts.2.1, ((S9.out.2.2.2.2.2.2.2.2.2.2.2.2.2.2.2.2.2.2.2.2.1.keep R40.out.1)).facts.1, ((S9.out.2.2.2.2.2.2.2.2.2.2.2.2.2.2.2.2.2.2.2.2.1.keep R40.out.1)).facts.2.1⟩
          clear hHeld h hb
          go_wp2_with fail
          refine hK.out _ _ hN (fun hHeld => ?_); clear hK K hN; try simp only [Act.put, List.setIfInBounds_toArray, List.set_cons_zero, List.set_cons_succ]
          refine wpAnyH_ready (rs := [3]) (by kernel_rfl) (by simp) (AllReadyH.cons (by simp only [List.getElem?_toArray, List.getElem?_cons_succ, List.getElem?_cons_zero]; rfl) (fun K hK => ?_) AllReadyH.nil)
          go_simp
          go_at_call 19; refine (I.divFloor_d R40.out.2.2.2.2.2.2 (S9.out.2.2.2.2.2.2.2.2.2.2.2.2.2.2.2.2.2.2.2.1.keep R40.out.1) (by decide) (by decide) HE.out.1).mono ?_; rintro e w41 ⟨v2, v3, rfl, h, hh, hb⟩
          obtain ⟨pu, Au, lu, cu, rfl⟩ := Zd.pat h
          obtain ⟨pv, Av, lv, cv, rfl⟩ := Zd.pat hh
          have R41 := Lib.hid (And.intro (R40.out.1.keep (hb)) (And.intro (R40.out.2.1.keep (hb)) (And.intro (R40.out.2.2.1) (And.intro (R40.out.2.2.2.1.keep (hb)) (And.intro (R40.out.2.2.2.2.1) (And.intro (R40.out.2.2.2.2.2.1) (And.intro (R40.out.2.2.2.2.2.2.keep (hb)) (And.intro (h) ((hh))))))))))
          have hN : w41.cell? ⟨w.heap.size, 0, none⟩ = some (.bool pa) ∧ w41.cell? ⟨w.heap.size, 1, none⟩ = some (.slice Aa na ca) ∧ w41.cell? ⟨gn, 0, none⟩ = some (.bool pn) ∧ w41.cell? ⟨gn, 1, none⟩ = some (.slice An ln cn) := ⟨((S9.out.2.2.2.2.2.1.keep R41.out.1)).facts.1, ((S9.out.2.2.2.2.2.1.keep R41.out.1)).facts.2.1, ((S9.out.2.2.2.2.2.2.2.2.2.2.2.2.2.2.2.2.2.2.2.2.1.keep R41.out.1)).facts.1, ((S9.out.2.2.2.2.2.2.2.2.2.2.2.2.2.2.2.2.2.2.2.2.1.keep R41.out.1)).facts.2.1⟩
          clear hHeld h hh hb
          go_wp2_with fail
          refine hK.out _ _ hN (fun hHeld => ?_); clear hK K hN; try simp only [Act.put, List.setIfInBounds_toArray, List.set_cons_zero, List.set_cons_succ]
          refine wpAnyH_take (i := 4) (v := ?v26) (by simp only [List.getElem?_toArray, List.getElem?_cons_succ, List.getElem?_cons_zero]; rfl) (by kernel_rfl) (by kernel_rfl) (by kernel_rfl) (by exact fun _ _ _ h => h) (Or.inl ⟨by rfl, ?h26⟩) hHeld ?r26
          case h26 => (intro w hSw; (try dsimp only at hSw); (first | (go_simp; done) | (go_simp; with_reducible rfl)))
          try simp only [Act.put, List.setIfInBounds_toArray, List.set_cons_zero, List.set_cons_succ]
          refine wpAnyH_take (i := 5) (v := ?v27) (by simp only [List.getElem?_toArray, List.getElem?_cons_succ, List.getElem?_cons_zero]; rfl) (by kernel_rfl) (by kernel_rfl) (by kernel_rfl) (by exact fun _ _ _ h => h) (Or.inl ⟨by rfl, ?h27⟩) hHeld ?r27
          case h27 => (intro w hSw; (try dsimp only at hSw); (first | (go_simp; done) | (go_simp; with_reducible rfl)))
          try simp only [Act.put, List.setIfInBounds_toArray, List.set_cons_zero, List.set_cons_succ]
          refine wpAnyH_take (i := 6) (v := ?v28) (by simp only [List.getElem?_toArray, List.getElem?_cons_succ, List.getElem?_cons_zero]; rfl) (by kernel_rfl) (by kernel_rfl) (by kernel_rfl) (by exact fun _ _ _ h => h) (Or.inl ⟨by rfl, ?h28⟩) hHeld ?r28
          case h28 => (intro w hSw; (try dsimp only at hSw); (first | (go_simp; done) | (go_simp; with_reducible rfl)))
          try simp only [Act.put, List.setIfInBounds_toArray, List.set_cons_zero, List.set_cons_succ]
          refine wpAnyH_ready (rs := [9]) (by kernel_rfl) (by simp) (AllReadyH.cons (by simp only [List.getElem?_toArray, List.getElem?_cons_succ, List.getElem?_cons_zero]; rfl) (fun K hK => ?_) AllReadyH.nil)
          obtain ⟨fa, fb, fc, fd⟩ := R41.out.2.1.facts; go_simp; clear fa fb fc fd
          refine hK.out _ _ (KK.out.2 _ _ _ _ (R41.out.2.2.1) hHeld) (fun hHeld => ?_); clear hK K; try simp only [Act.put, List.setIfInBounds_toArray, List.set_cons_zero, List.set_cons_succ]
          have R42 := Lib.hid (And.intro (R41.out.1.put R41.out.2.1 R41.out.2.2.1 (.bool pu) (.slice Au lu cu)) (And.intro (R41.out.2.1.set (.bool pu) (.slice Au lu cu)) (And.intro (R41.out.2.2.1) (And.intro (R41.out.2.2.2.1.other2 (R41.out.2.2.2.2.2.1) (.bool pu) (.slice Au lu cu)) (And.intro (R41.out.2.2.2.2.1) (And.intro (R41.out.2.2.2.2.2.1) (And.intro (R41.out.2.2.2.2.2.2.1.put R41.out.2.1 (.bool pu) (.slice Au lu cu)) (And.intro (R41.out.2.2.2.2.2.2.2.1.put R41.out.2.1 (.bool pu) (.slice Au lu cu)) ((R41.out.2.2.2.2.2.2.2.2.put R41.out.2.1 (.bool pu) (.slice Au lu cu)))))))))))
          generalize (w41.setCell _ _).setCell _ _ = W42 at R42 hHeld ⊢
          refine wpAnyH_ready (rs := [10]) (by kernel_rfl) (by simp) (AllReadyH.cons (by simp only [List.getElem?_toArray, List.getElem?_cons_succ, List.getElem?_cons_zero]; rfl) (fun K hK => ?_) AllReadyH.nil)
          obtain ⟨fa, fb, fc, fd⟩ := R42.out.2.2.2.1.facts; go_simp; clear fa fb fc fd
          refine hK.out _ _ (KK.out.2 _ _ _ _ (R42.out.2.2.2.2.1) hHeld) (fun hHeld => ?_); clear hK K; try simp only [Act.put, List.setIfInBounds_toArray, List.set_cons_zero, List.set_cons_succ]
          have R43 := Lib.hid (And.intro (R42.out.1.put R42.out.2.2.2.1 R42.out.2.2.2.2.1 (.bool pv) (.slice Av lv cv)) (And.intro (R42.out.2.1.other2 (Ne.symm R42.out.2.2.2.2.2.1) (.bool pv) (.slice Av lv cv)) (And.intro (R42.out.2.2.1) (And.intro (R42.out.2.2.2.1.set (.bool pv) (.slice Av lv cv)) (And.intro (R42.out.2.2.2.2.1) (And.intro (R42.out.2.2.2.2.2.1) (And.intro (R42.out.2.2.2.2.2.2.1.put R42.out.2.2.2.1 (.bool pv) (.slice Av lv cv)) (And.intro (R42.out.2.2.2.2.2.2.2.1.put R42.out.2.2.2.1 (.bool pv) (.slice Av lv cv)) ((R42.out.2.2.2.2.2.2.2.2.put R42.out.2.2.2.1 (.bool pv) (.slice Av lv cv)))))))))))
          generalize (W42.setCell _ _).setCell _ _ = W43 at R43 hHeld ⊢
          refine wpAnyH_done (by kernel_rfl) ?_ _; clear hHeld
          go_wp2_with fail; go_meet
          exact ⟨_, _, _, _, _, _, _, _, _, _, rfl, rfl, R43.out.1, R43.out.2.1, R43.out.2.2.2.1, R43.out.2.2.2.2.2.2.2.1, R43.out.2.2.2.2.2.2.2.2⟩
      ·
        go_simp
        refine hK.out _ _ (KK.out.1 _ _ hHeld) (fun hHeld => ?_); clear hK K; try simp only [Act.put, List.setIfInBounds_toArray, List.set_cons_zero, List.set_cons_succ]
        obtain ⟨gv, hgv⟩ : ∃ g, g = Wd.heap.size := ⟨_, rfl⟩
        have R44 := Lib.hid (And.intro (R0.out.keep (below_al Wd (.cells #[.bool false, .slice none 0 0] 33))) (And.intro (Bx.new 33 Wd (.bool false) (.slice none 0 0)) ((R0.out.out.size))))
        generalize Wd.alloc _ = W44 at R44 hHeld ⊢; rw [← hgv] at R44 ⊢; clear hgv 
        refine wpAnyH_ready (rs := [1, 7]) (by kernel_rfl) (by simp) (AllReadyH.cons (by simp only [List.getElem?_toArray, List.getElem?_cons_succ, List.getElem?_cons_zero]; rfl) (fun K hK => ?_) (AllReadyH.cons (by simp only [List.getElem?_toArray, List.getElem?_cons_succ, List.getElem?_cons_zero]; rfl) (fun K hK => ?_) AllReadyH.nil))
        ·
          go_simp
          go_at_call 16; refine (I.of_d (S9.out.2.2.2.1.keep R44.out.1) (by decide)).mono ?_; rintro e w45 ⟨v, rfl, h, hb⟩
          have R45 := Lib.hid (And.intro (R44.out.1.keep (hb)) (And.intro (R44.out.2.1.keep (hb)) (And.intro (R44.out.2.2) ((h)))))
          have hN : w45.cell? ⟨w.heap.size, 0, none⟩ = some (.bool pa) ∧ w45.cell? ⟨w.heap.size, 1, none⟩ = some (.slice Aa na ca) ∧ w45.cell? ⟨gn, 0, none⟩ = some (.bool pn) ∧ w45.cell? ⟨gn, 1, none⟩ = some (.slice An ln cn) := ⟨((S9.out.2.2.2.2.2.1.keep R45.out.1)).facts.1, ((S9.out.2.2.2.2.2.1.keep R45.out.1)).facts.2.1, ((S9.out.2.2.2.2.2.2.2.2.2.2.2.2.2.2.2.2.2.2.2.2.1.keep R45.out.1)).facts.1, ((S9.out.2.2.2.2.2.2.2.2.2.2.2.2.2.2.2.2.2.2.2.2.1.keep R45.out.1)).facts.2.1⟩
          clear hHeld h hb
          go_wp2_with fail
          refine hK.out _ _ hN (fun hHeld => ?_); clear hK K hN; try simp only [Act.put, List.setIfInBounds_toArray, List.set_cons_zero, List.set_cons_succ]
          refine wpAnyH_ready (rs := [3, 7]) (by kernel_rfl) (by simp) (AllReadyH.cons (by simp only [List.getElem?_toArray, List.getElem?_cons_succ, List.getElem?_cons_zero]; rfl) (fun K hK => ?_) (AllReadyH.cons (by simp only [List.getElem?_toArray, List.getElem?_cons_succ, List.getElem?_cons_zero]; rfl) (fun K hK => ?_) AllReadyH.nil))
          ·
            go_simp
            go_at_call 19; refine (I.divFloor_d R45.out.2.2.2 (S9.out.2.2.2.2.2.2.2.2.2.2.2.2.2.2.2.2.2.2.2.1.keep R45.out.1) (by decide) (by decide) HE.out.1).mono ?_; rintro e w46 ⟨v2, v3, rfl, h, hh, hb⟩
            obtain ⟨pu, Au, lu, cu, rfl⟩ := Zd.pat h
            obtain ⟨pv, Av, lv, cv, rfl⟩ := Zd.pat hh
            have R46 := Lib.hid (And.intro (R45.out.1.keep (hb)) (And.intro (R45.out.2.1.keep (hb)) (And.intro (R45.out.2.2.1) (And.intro (R45.out.2.2.2.keep (hb)) (And.intro (h) ((hh)))))))
            have hN : w46.cell? ⟨w.heap.size, 0, none⟩ = some (.bool pa) ∧ w46.cell? ⟨w.heap.size, 1, none⟩ = some (.slice Aa na ca) ∧ w46.cell? ⟨gn, 0, none⟩ = some (.bool pn) ∧ w46.cell? ⟨gn, 1, none⟩ = some (.slice An ln cn) := ⟨((S9.out.2.2.2.2.2.1.keep R46.out.1)).facts.1, ((S9.out.2.2.2.2.2.1.keep R46.out.1)).facts.2.1, ((S9.out.2.2.2.2.2.2.2.2.2.2.2.2.2.2.2.2.2.2.2.2.1.keep R46.out.1)).facts.1, ((S9.out.2.2.2.2.2.2.2.2.2.2.2.2.2.2.2.2.2.2.2.2.1.keep R46.out.1)).facts.2.1⟩
            clear hHeld h hh hb
            go_wp2_with fail
            refine hK.out _ _ hN (fun hHeld => ?_); clear hK K hN; try simp only [Act.put, List.setIfInBounds_toArray, List.set_cons_zero, List.set_cons_succ]
            refine wpAnyH_take (i := 4) (v := ?v29) (by simp only [List.getElem?_toArray, List.getElem?_cons_succ, List.getElem?_cons_zero]; rfl) (by kernel_rfl) (by kernel_rfl) (by kernel_rfl) (by exact fun _ _ _ h => h) (Or.inl ⟨by rfl, ?h29⟩) hHeld ?r29
            case h29 => (intro w hSw; (try dsimp only at hSw); (first | (go_simp; done) | (go_simp; with_reducible rfl)))
            try simp only [Act.put, List.setIfInBounds_toArray, List.set_cons_zero, List.set_cons_succ]
            refine wpAnyH_take (i := 5) (v := ?v30) (by simp only [List.getElem?_toArray, List.getElem?_cons_succ, List.getElem?_cons_zero]; rfl) (by kernel_rfl) (by kernel_rfl) (by kernel_rfl) (by exact fun _ _ _ h => h) (Or.inl ⟨by rfl, ?h30⟩) hHeld ?r30
            case h30 => (intro w hSw; (try dsimp only at hSw); (first | (go_simp; done) | (go_simp; with_reducible rfl)))
            try simp only [Act.put, List.setIfInBounds_toArray, List.set_cons_zero, List.set_cons_succ]
            refine wpAnyH_take (i := 6) (v := ?v31) (by simp only [List.getElem?_toArray, List.getElem?_cons_succ, List.getElem?_cons_zero]; rfl) (by kernel_rfl) (by kernel_rfl) (by kernel_rfl) (by exact fun _ _ _ h => h) (Or.inl ⟨by rfl, ?h31⟩) hHeld ?r31
            case h31 => (intro w hSw; (try dsimp only at hSw); (first | (go_simp; done) | (go_simp; with_reducible rfl)))
            try simp only [Act.put, List.setIfInBounds_toArray, List.set_cons_zero, List.set_cons_succ]
            refine wpAnyH_ready (rs := [7]) (by kernel_rfl) (by simp) (AllReadyH.cons (by simp only [List.getElem?_toArray, List.getElem?_cons_succ, List.getElem?_cons_zero]; rfl) (fun K hK => ?_) AllReadyH.nil)
            go_simp
            refine hK.out _ _ (KK.out.1 _ _ hHeld) (fun hHeld => ?_); clear hK K; try simp only [Act.put, List.setIfInBounds_toArray, List.set_cons_zero, List.set_cons_succ]
            obtain ⟨gu, hgu⟩ : ∃ g, g = w46.heap.size := ⟨_, rfl⟩
            have R47 := Lib.hid (And.intro (R46.out.1.keep (below_al w46 (.cells #[.bool false, .slice none 0 0] 33))) (And.intro (R46.out.2.1.keep (below_al w46 (.cells #[.bool false, .slice none 0 0] 33))) (And.intro (R46.out.2.2.1) (And.intro (R46.out.2.2.2.1.keep (below_al w46 (.cells #[.bool false, .slice none 0 0] 33))) (And.intro (R46.out.2.2.2.2.1.keep (below_al w46 (.cells #[.bool false, .slice none 0 0] 33))) (And.intro (R46.out.2.2.2.2.2.keep (below_al w46 (.cells #[.bool false, .slice none 0 0] 33))) (And.intro (Bx.new 33 w46 (.bool false) (.slice none 0 0)) (And.intro (R46.out.1.out.size) ((Nat.ne_of_lt R46.out.2.1.lt))))))))))
            generalize w46.alloc _ = W47 at R47 hHeld ⊢; rw [← hgu] at R47 ⊢; clear hgu 
            refine wpAnyH_ready (rs := [9]) (by kernel_rfl) (by simp) (AllReadyH.cons (by simp only [List.getElem?_toArray, List.getElem?_cons_succ, List.getElem?_cons_zero]; rfl) (fun K hK => ?_) AllReadyH.nil)
            obtain ⟨fa, fb, fc, fd⟩ := R47.out.2.2.2.2.2.2.1.facts; go_simp; clear fa fb fc fd
            refine hK.out _ _ (KK.out.2 _ _ _ _ (R47.out.2.2.2.2.2.2.2.1) hHeld) (fun hHeld => ?_); clear hK K; try simp only [Act.put, List.setIfInBounds_toArray, List.set_cons_zero, List.set_cons_succ]
            have R48 := Lib.hid (And.intro (R47.out.1.put R47.out.2.2.2.2.2.2.1 R47.out.2.2.2.2.2.2.2.1 (.bool pu) (.slice Au lu cu)) (And.intro (R47.out.2.1.other2 (Ne.symm R47.out.2.2.2.2.2.2.2.2) (.bool pu) (.slice Au lu cu)) (And.intro (R47.out.2.2.1) (And.intro (R47.out.2.2.2.1.put R47.out.2.2.2.2.2.2.1 (.bool pu) (.slice Au lu cu)) (And.intro (R47.out.2.2.2.2.1.put R47.out.2.2.2.2.2.2.1 (.bool pu) (.slice Au lu cu)) (And.intro (R47.out.2.2.2.2.2.1.put R47.out.2.2.2.2.2.2.1 (.bool pu) (.slice Au lu cu)) (And.intro (R47.out.2.2.2.2.2.2.1.set (.bool pu) (.slice Au lu cu)) (And.intro (R47.out.2.2.2.2.2.2.2.1) ((R47.out.2.2.2.2.2.2.2.2))))))))))
            generalize (W47.setCell _ _).setCell _ _ = W48 at R48 hHeld ⊢
            refine wpAnyH_ready (rs := [10]) (by kernel_rfl) (by simp) (AllReadyH.cons (by simp only [List.getElem?_toArray, List.getElem?_cons_succ, List.getElem?_cons_zero]; rfl) (fun K hK => ?_) AllReadyH.nil)
            obtain ⟨fa, fb, fc, fd⟩ := R48.out.2.1.facts; go_simp; clear fa fb fc fd
            refine hK.out _ _ (KK.out.2 _ _ _ _ (R48.out.2.2.1) hHeld) (fun hHeld => ?_); clear hK K; try simp only [Act.put, List.setIfInBounds_toArray, List.set_cons_zero, List.set_cons_succ]
            have R49 := Lib.hid (And.intro (R48.out.1.put R48.out.2.1 R48.out.2.2.1 (.bool pv) (.slice Av lv cv)) (And.intro (R48.out.2.1.set (.bool pv) (.slice Av lv cv)) (And.intro (R48.out.2.2.1) (And.intro (R48.out.2.2.2.1.put R48.out.2.1 (.bool pv) (.slice Av lv cv)) (And.intro (R48.out.2.2.2.2.1.put R48.out.2.1 (.bool pv) (.slice Av lv cv)) (And.intro (R48.out.2.2.2.2.2.1.put R48.out.2.1 (.bool pv) (.slice Av lv cv)) (And.intro (R48.out.2.2.2.2.2.2.1.other2 (R48.out.2.2.2.2.2.2.2.2) (.bool pv) (.slice Av lv cv)) (And.intro (R48.out.2.2.2.2.2.2.2.1) ((R48.out.2.2.2.2.2.2.2.2))))))))))
            generalize (W48.setCell _ _).setCell _ _ = W49 at R49 hHeld ⊢
            refine wpAnyH_done (by kernel_rfl) ?_ _; clear hHeld
            go_wp2_with fail; go_meet
            exact ⟨_, _, _, _, _, _, _, _, _, _, rfl, rfl, R49.out.1, R49.out.2.2.2.2.2.2.1, R49.out.2.1, R49.out.2.2.2.2.1, R49.out.2.2.2.2.2.1⟩
          ·
            go_simp
            refine hK.out _ _ (KK.out.1 _ _ hHeld) (fun hHeld => ?_); clear hK K; try simp only [Act.put, List.setIfInBounds_toArray, List.set_cons_zero, List.set_cons_succ]
            obtain ⟨gu, hgu⟩ : ∃ g, g = w45.heap.size := ⟨_, rfl⟩
            have R50 := Lib.hid (And.intro (R45.out.1.keep (below_al w45 (.cells #[.bool false, .slice none 0 0] 33))) (And.intro (R45.out.2.1.keep (below_al w45 (.cells #[.bool false, .slice none 0 0] 33))) (And.intro (R45.out.2.2.1) (And.intro (R45.out.2.2.2.keep (below_al w45 (.cells #[.bool false, .slice none 0 0] 33))) (And.intro (Bx.new 33 w45 (.bool false) (.slice none 0 0)) (And.intro (R45.out.1.out.size) ((Nat.ne_of_lt R45.out.2.1.lt))))))))
            generalize w45.alloc _ = W50 at R50 hHeld ⊢; rw [← hgu] at R50 ⊢; clear hgu 
            refine wpAnyH_ready (rs := [3]) (by kernel_rfl) (by simp) (AllReadyH.cons (by simp only [List.getElem?_toArray, List.getElem?_cons_succ, List.getElem?_cons_zero]; rfl) (fun K hK => ?_) AllReadyH.nil)
            go_simp
            go_at_call 19; refine (I.divFloor_d R50.out.2.2.2.1 (S9.out.2.2.2.2.2.2.2.2.2.2.2.2.2.2.2.2.2.2.2.1.keep R50.out.1) (by decide) (by decide) HE.out.1).mono ?_; rintro e w51 ⟨v2, v3, rfl, h, hh, hb⟩
            obtain ⟨pu, Au, lu, cu, rfl⟩ := Zd.pat h
            obtain ⟨pv, Av, lv, cv, rfl⟩ := Zd.pat hh
            have R51 := Lib.hid (And.intro (R50.out.1.keep (hb)) (And.intro (R50.out.2.1.keep (hb)) (And.intro (R50.out.2.2.1) (And.intro (R50.out.2.2.2.1.keep (hb)) (And.intro (R50.out.2.2.2.2.1.keep (hb)) (And.intro (R50.out.2.2.2.2.2.1) (And.intro (R50.out.2.2.2.2.2.2) (And.intro (h) ((hh))))))))))
            have hN : w51.cell? ⟨w.heap.size, 0, none⟩ = some (.bool pa) ∧ w51.cell? ⟨w.heap.size, 1, none⟩ = some (.slice Aa na ca) ∧ w51.cell? ⟨gn, 0, none⟩ = some (.bool pn) ∧ w51.cell? ⟨gn, 1, none⟩ = some (.slice An ln cn) := ⟨((S9.out.2.2.2.2.2.1.keep R51.out.1)).facts.1, ((S9.out.2.2.2.2.2.1.keep R51.out.1)).facts.2.1, ((S9.out.2.2.2.2.2.2.2.2.2.2.2.2.2.2.2.2.2.2.2.2.1.keep R51.out.1)).facts.1, ((S9.out.2.2.2.2.2.2.2.2.2.2.2.2.2.2.2.2.2.2.2.2.1.keep R51.out.1)).facts.2.1⟩
            clear hHeld h hh hb
            go_wp2_with fail
            refine hK.out _ _ hN (fun hHeld => ?_); clear hK K hN; try simp only [Act.put, List.setIfInBounds_toArray, List.set_cons_zero, List.set_cons_succ]
            refine wpAnyH_take (i := 4) (v := ?v32) (by simp only [List.getElem?_toArray, List.getElem?_cons_succ, List.getElem?_cons_zero]; rfl) (by kernel_rfl) (by kernel_rfl) (by kernel_rfl) (by exact fun _ _ _ h => h) (Or.inl ⟨by rfl, ?h32⟩) hHeld ?r32
            case h32 => (intro w hSw; (try dsimp only at hSw); (first | (go_simp; done) | (go_simp; with_reducible rfl)))
            try simp only [Act.put, List.setIfInBounds_toArray, List.set_cons_zero, List.set_cons_succ]
            refine wpAnyH_take (i := 5) (v := ?v33) (by simp only [List.getElem?_toArray, List.getElem?_cons_succ, List.getElem?_cons_zero]; rfl) (by kernel_rfl) (by kernel_rfl) (by kernel_rfl) (by exact fun _ _ _ h => h) (Or.inl ⟨by rfl, ?h33⟩) hHeld ?r33
            case h33 => (intro w hSw; (try dsimp only at hSw); (first | (go_simp; done) | (go_simp; with_reducible rfl)))
            try simp only [Act.put, List.setIfInBounds_toArray, List.set_cons_zero, List.set_cons_succ]
            refine wpAnyH_take (i := 6) (v := ?v34) (by simp only [List.getElem?_toArray, List.getElem?_cons_succ, List.getElem?_cons_zero]; rfl) (by kernel_rfl) (by kernel_rfl) (by kernel_rfl) (by exact fun _ _ _ h => h) (Or.inl ⟨by rfl, ?h34⟩) hHeld ?r34
            case h34 => (intro w hSw; (try dsimp only at hSw); (first | (go_simp; done) | (go_simp; with_reducible rfl)))
            try simp only [Act.put, List.setIfInBounds_toArray, List.set_cons_zero, List.set_cons_succ]
            refine wpAnyH_ready (rs := [9]) (by kernel_rfl) (by simp) (AllReadyH.cons (by simp only [List.getElem?_toArray, List.getElem?_cons_succ, List.getElem?_cons_zero]; rfl) (fun K hK => ?_) AllReadyH.nil)
            obtain ⟨fa, fb, fc, fd⟩ := R51.out.2.2.2.2.1.facts; go_simp; clear fa fb fc fd
            refine hK.out _ _ (KK.out.2 _ _ _ _ (R51.out.2.2.2.2.2.1) hHeld) (fun hHeld => ?_); clear hK K; try simp only [Act.put, List.setIfInBounds_toArray, List.set_cons_zero, List.set_cons_succ]
            have R52 := Lib.hid (And.intro (R51.out.1.put R51.out.2.2.2.2.1 R51.out.2.2.2.2.2.1 (.bool pu) (.slice Au lu cu)) (And.intro (R51.out.2.1.other2 (Ne.symm R51.out.2.2.2.2.2.2.1) (.bool pu) (.slice Au lu cu)) (And.intro (R51.out.2.2.1) (And.intro (R51.out.2.2.2.1.put R51.out.2.2.2.2.1 (.bool pu) (.slice Au lu cu)) (And.intro (R51.out.2.2.2.2.1.set (.bool pu) (.slice Au lu cu)) (And.intro (R51.out.2.2.2.2.2.1) (And.intro (R51.out.2.2.2.2.2.2.1) (And.intro (R51.out.2.2.2.2.2.2.2.1.put R51.out.2.2.2.2.1 (.bool pu) (.slice Au lu cu)) ((R51.out.2.2.2.2.2.2.2.2.put R51.out.2.2.2.2.1 (.bool pu) (.slice Au lu cu)))))))))))
            generalize (w51.setCell _ _).setCell _ _ = W52 at R52 hHeld ⊢
            refine wpAnyH_ready (rs := [10]) (by kernel_rfl) (by simp) (AllReadyH.cons (by simp only [List.getElem?_toArray, List.getElem?_cons_succ, List.getElem?_cons_zero]; rfl) (fun K hK => ?_) AllReadyH.nil)
            obtain ⟨fa, fb, fc, fd⟩ := R52.out.2.1.facts; go_simp; clear fa fb fc fd
            refine hK.out _ _ (KK.out.2 _ _ _ _ (R52.out.2.2.1) hHeld) (fun hHeld => ?_); clear hK K; try simp only [Act.put, List.setIfInBounds_toArray, List.set_cons_zero, List.set_cons_succ]
            have R53 := Lib.hid (And.intro (R52.out.1.put R52.out.2.1 R52.out.2.2.1 (.bool pv) (.slice Av lv cv)) (And.intro (R52.out.2.1.set (.bool pv) (.slice Av lv cv)) (And.intro (R52.out.2.2.1) (And.intro (R52.out.2.2.2.1.put R52.out.2.1 (.bool pv) (.slice Av lv cv)) (And.intro (R52.out.2.2.2.2.1.other2 (R52.out.2.2.2.2.2.2.1) (.bool pv) (.slice Av lv cv)) (And.intro (R52.out.2.2.2.2.2.1) (And.intro (R52.out.2.2.2.2.2.2.1) (And.intro (R52.out.2.2.2.2.2.2.2.1.put R52.out.2.1 (.bool pv) (.slice Av lv cv)) ((R52.out.2.2.2.2.2.2.2.2.put R52.out.2.1 (.bool pv) (.slice Av lv cv)))))))))))
            generalize (W52.setCell _ _).setCell _ _ = W53 at R53 hHeld ⊢
            refine wpAnyH_done (by kernel_rfl) ?_ _; clear hHeld
            go_wp2_with fail; go_meet
            exact ⟨_, _, _, _, _, _, _, _, _, _, rfl, rfl, R53.out.1, R53.out.2.2.2.2.1, R53.out.2.1, R53.out.2.2.2.2.2.2.2.1, R53.out.2.2.2.2.2.2.2.2⟩
        ·
          go_simp
          refine hK.out _ _ (KK.out.1 _ _ hHeld) (fun hHeld => ?_); clear hK K; try simp only [Act.put, List.setIfInBounds_toArray, List.set_cons_zero, List.set_cons_succ]
          obtain ⟨gu, hgu⟩ : ∃ g, g = W44.heap.size := ⟨_, rfl⟩
          have R54 := Lib.hid (And.intro (R44.out.1.keep (below_al W44 (.cells #[.bool false, .slice none 0 0] 33))) (And.intro (R44.out.2.1.keep (below_al W44 (.cells #[.bool false, .slice none 0 0] 33))) (And.intro (R44.out.2.2) (And.intro (Bx.new 33 W44 (.bool false) (.slice none 0 0)) (And.intro (R44.out.1.out.size) ((Nat.ne_of_lt R44.out.2.1.lt)))))))
          generalize W44.alloc _ = W54 at R54 hHeld ⊢; rw [← hgu] at R54 ⊢; clear hgu 
          refine wpAnyH_ready (rs := [1]) (by kernel_rfl) (by simp) (AllReadyH.cons (by simp only [List.getElem?_toArray, List.getElem?_cons_succ, List.getElem?_cons_zero]; rfl) (fun K hK => ?_) AllReadyH.nil)
          go_simp
          go_at_call 16; refine (I.of_d (S9.out.2.2.2.1.keep R54.out.1) (by decide)).mono ?_; rintro e w55 ⟨v, rfl, h, hb⟩
          have R55 := Lib.hid (And.intro (R54.out.1.keep (hb)) (And.intro (R54.out.2.1.keep (hb)) (And.intro (R54.out.2.2.1) (And.intro (R54.out.2.2.2.1.keep (hb)) (And.intro (R54.out.2.2.2.2.1) (And.intro (R54.out.2.2.2.2.2) ((h))))))))
          have hN : w55.cell? ⟨w.heap.size, 0, none⟩ = some (.bool pa) ∧ w55.cell? ⟨w.heap.size, 1, none⟩ = some (.slice Aa na ca) ∧ w55.cell? ⟨gn, 0, none⟩ = some (.bool pn) ∧ w55.cell? ⟨gn, 1, none⟩ = some (.slice An ln cn) := ⟨((S9.out.2.2.2.2.2.1.keep R55.out.1)).facts.1, ((S9.out.2.2.2.2.2.1.keep R55.out.1)).facts.2.1, ((S9.out.2.2.2.2.2.2.2.2.2.2.2.2.2.2.2.2.2.2.2.2.1.keep R55.out.1)).facts.1, ((S9.out.2.2.2.2.2.2.2.2.2.2.2.2.2.2.2.2.2.2.2.2.1.keep R55.out.1)).facts.2.1⟩
          clear hHeld h hb
          go_wp2_with fail
          refine hK.out _ _ hN (fun hHeld => ?_); clear hK K hN; try simp only [Act.put, List.setIfInBounds_toArray, List.set_cons_zero, List.set_cons_succ]
          refine wpAnyH_ready (rs := [3]) (by kernel_rfl) (by simp) (AllReadyH.cons (by simp only [List.getElem?_toArray, List.getElem?_cons_succ, List.getElem?_cons_zero]; rfl) (fun K hK => ?_) AllReadyH.nil)
          go_simp
          go_at_call 19; refine (I.divFloor_d R55.out.2.2.2.2.2.2 (S9.out.2.2.2.2.2.2.2.2.2.2.2.2.2.2.2.2.2.2.2.1.keep R55.out.1) (by decide) (by decide) HE.out.1).mono ?_; rintro e w56 ⟨v2, v3, rfl, h, hh, hb⟩
          obtain ⟨pu, Au, lu, cu, rfl⟩ := Zd.pat h
          obtain ⟨pv, Av, lv, cv, rfl⟩ := Zd.pat hh
          have R56 := Lib.hid (And.intro (R55.out.1.keep (hb)) (And.intro (R55.out.2.1.keep (hb)) (And.intro (R55.out.2.2.1) (And.intro (R55.out.2.2.2.1.keep (hb)) (And.intro (R55.out.2.2.2.2.1) (And.intro (R55.out.2.2.2.2.2.1) (And.intro (R55.out.2.2.2.2.2.2.keep (hb)) (And.intro (h) ((hh))))))))))
          have hN : w56.cell? ⟨w.heap.size, 0, none⟩ = some (.bool pa) ∧ w56.cell? ⟨w.heap.size, 1, none⟩ = some (.slice Aa na ca) ∧ w56.cell? ⟨gn, 0, none⟩ = some (.bool pn) ∧ w56.cell? ⟨gn, 1, none⟩ = some (.slice An ln cn) := ⟨((S9.out.2.2.2.2.2.1.keep R56.out.1)).facts.1, ((S9.out.2.2.2.2.2.1.keep R56.out.1)).facts.2.1, ((S9.out.2.2.2.2.2.2.2.2.2.2.2.2.2.2.2.2.2.2.2.2.1.keep R56.out.1)).facts.1, ((S9.out.2.2.2.2.2.2.2.2.2.2.2.2.2.2.2.2.2.2.2.2.1.keep R56.out.1)).facts.2.1⟩
          clear hHeld h hh hb
          go_wp2_with fail
          refine hK.out _ _ hN (fun hHeld => ?_); clear hK K hN; try simp only [Act.put, List.setIfInBounds_toArray, List.set_cons_zero, List.set_cons_succ]
          refine wpAnyH_take (i := 4) (v := ?v35) (by simp only [List.getElem?_toArray, List.getElem?_cons_succ, List.getElem?_cons_zero]; rfl) (by kernel_rfl) (by kernel_rfl) (by kernel_rfl) (by exact fun _ _ _ h => h) (Or.inl ⟨by rfl, ?h35⟩) hHeld ?r35
          case h35 => (intro w hSw; (try dsimp only at hSw); (first | (go_simp; done) | (go_simp; with_reducible rfl)))
          try simp only [Act.put, List.setIfInBounds_toArray, List.set_cons_zero, List.set_cons_succ]
          refine wpAnyH_take (i := 5) (v := ?v36) (by simp only [List.getElem?_toArray, List.getElem?_cons_succ, List.getElem?_cons_zero]; rfl) (by kernel_rfl) (by kernel_rfl) (by kernel_rfl) (by exact fun _ _ _ h => h) (Or.inl ⟨by rfl, ?h36⟩) hHeld ?r36
          case h36 => (intro w hSw; (try dsimp only at hSw); (first | (go_simp; done) | (go_simp; with_reducible rfl)))
          try simp only [Act.put, List.setIfInBounds_toArray, List.set_cons_zero, List.set_cons_succ]
          refine wpAnyH_take (i := 6) (v := ?v37) (by simp only [List.getElem?_toArray, List.getElem?_cons_succ, List.getElem?_cons_zero]; rfl) (by kernel_rfl) (by kernel_rfl) (by kernel_rfl) (by exact fun _ _ _ h => h) (Or.inl ⟨by rfl, ?h37⟩) hHeld ?r37
          case h37 => (intro w hSw; (try dsimp only at hSw); (first | (go_simp; done) | (go_simp; with_reducible rfl)))
          try simp only [Act.put, List.setIfInBounds_toArray, List.set_cons_zero, List.set_cons_succ]
          refine wpAnyH_ready (rs := [9]) (by kernel_rfl) (by simp) (AllReadyH.cons (by simp only [List.getElem?_toArray, List.getElem?_cons_succ, List.getElem?_cons_zero]; rfl) (fun K hK => ?_) AllReadyH.nil)
          obtain ⟨fa, fb, fc, fd⟩ := R56.out.2.2.2.1.facts; go_simp; clear fa fb fc fd
          refine hK.out _ _ (KK.out.2 _ _ _ _ (R56.out.2.2.2.2.1) hHeld) (fun hHeld => ?_); clear hK K; try simp only [Act.put, List.setIfInBounds_toArray, List.set_cons_zero, List.set_cons_succ]
          have R57 := Lib.hid (And.intro (R56.out.1.put R56.out.2.2.2.1 R56.out.2.2.2.2.1 (.bool pu) (.slice Au lu cu)) (And.intro (R56.out.2.1.other2 (Ne.symm R56.out.2.2.2.2.2.1) (.bool pu) (.slice Au lu cu)) (And.intro (R56.out.2.2.1) (And.intro (R56.out.2.2.2.1.set (.bool pu) (.slice Au lu cu)) (And.intro (R56.out.2.2.2.2.1) (And.intro (R56.out.2.2.2.2.2.1) (And.intro (R56.out.2.2.2.2.2.2.1.put R56.out.2.2.2.1 (.bool pu) (.slice Au lu cu)) (And.intro (R56.out.2.2.2.2.2.2.2.1.put R56.out.2.2.2.1 (.bool pu) (.slice Au lu cu)) ((R56.out.2.2.2.2.2.2.2.2.put R56.out.2.2.2.1 (.bool pu) (.slice Au lu cu)))))))))))
          generalize (w56.setCell _ _).setCell _ _ = W57 at R57 hHeld ⊢
          refine wpAnyH_ready (rs := [10]) (by kernel_rfl) (by simp) (AllReadyH.cons (by simp only [List.getElem?_toArray, List.getElem?_cons_succ, List.getElem?_cons_zero]; rfl) (fun K hK => ?_) AllReadyH.nil)
          obtain ⟨fa, fb, fc, fd⟩ := R57.out.2.1.facts; go_simp; clear fa fb fc fd
          refine hK.out _ _ (KK.out.2 _ _ _ _ (R57.out.2.2.1) hHeld) (fun hHeld => ?_); clear hK K; try simp only [Act.put, List.setIfInBounds_toArray, List.set_cons_zero, List.set_cons_succ]
          have R58 := Lib.hid (And.intro (R57.out.1.put R57.out.2.1 R57.out.2.2.1 (.bool pv) (.slice Av lv cv)) (And.intro (R57.out.2.1.set (.bool pv) (.slice Av lv cv)) (And.intro (R57.out.2.2.1) (And.intro (R57.out.2.2.2.1.other2 (R57.out.2.2.2.2.2.1) (.bool pv) (.slice Av lv cv)) (And.intro (R57.out.2.2.2.2.1) (And.intro (R57.out.2.2.2.2.2.1) (And.intro (R57.out.2.2.2.2.2.2.1.put R57.out.2.1 (.bool pv) (.slice Av lv cv)) (And.intro (R57.out.2.2.2.2.2.2.2.1.put R57.out.2.1 (.bool pv) (.slice Av lv cv)) ((R57.out.2.2.2.2.2.2.2.2.put R57.out.2.1 (.bool pv) (.slice Av lv cv)))))))))))
          generalize (W57.setCell _ _).setCell _ _ = W58 at R58 hHeld ⊢
          refine wpAnyH_done (by kernel_rfl) ?_ _; clear hHeld
          go_wp2_with fail; go_meet
          exact ⟨_, _, _, _, _, _, _, _, _, _, rfl, rfl, R58.out.1, R58.out.2.2.2.1, R58.out.2.1, R58.out.2.2.2.2.2.2.2.1, R58.out.2.2.2.2.2.2.2.2⟩
    case rest =>
      obtain ⟨gu, pu, Au, lu, cu, gv, pv, Av, lv, cv, rfl, rfl, hs, h0, h1, h2, h3⟩ := hcut
      have S10 := Lib.hid (And.intro (S9.out.1.keep hs) (And.intro (S9.out.2.1.keep hs) (And.intro (S9.out.2.2.1.keep hs) (And.intro (S9.out.2.2.2.1.keep hs) (And.intro (S9.out.2.2.2.2.1.keep hs) (And.intro (S9.out.2.2.2.2.2.1.keep hs) (And.intro (S9.out.2.2.2.2.2.2.1.keep hs) (And.intro (S9.out.2.2.2.2.2.2.2.1.keep hs) (And.intro (S9.out.2.2.2.2.2.2.2.2.1.keep hs) (And.intro (S9.out.2.2.2.2.2.2.2.2.2.1.keep hs) (And.intro (S9.out.2.2.2.2.2.2.2.2.2.2.1.keep hs) (And.intro (S9.out.2.2.2.2.2.2.2.2.2.2.2.1.keep hs) (And.intro (S9.out.2.2.2.2.2.2.2.2.2.2.2.2.1.keep hs) (And.intro (S9.out.2.2.2.2.2.2.2.2.2.2.2.2.2.1.keep hs) (And.intro (S9.out.2.2.2.2.2.2.2.2.2.2.2.2.2.2.1.keep hs) (And.intro (S9.out.2.2.2.2.2.2.2.2.2.2.2.2.2.2.2.1.keep hs) (And.intro (S9.out.2.2.2.2.2.2.2.2.2.2.2.2.2.2.2.2.1.keep hs) (And.intro (S9.out.2.2.2.2.2.2.2.2.2.2.2.2.2.2.2.2.2.1.keep hs) (And.intro (S9.out.2.2.2.2.2.2.2.2.2.2.2.2.2.2.2.2.2.2.1.keep hs) (And.intro (S9.out.2.2.2.2.2.2.2.2.2.2.2.2.2.2.2.2.2.2.2.1.keep hs) (And.intro (S9.out.2.2.2.2.2.2.2.2.2.2.2.2.2.2.2.2.2.2.2.2.1.keep hs) (And.intro (hs) (And.intro (h0) (And.intro (h1) (And.intro (h2) (And.intro (h3) (below_trans (S9.out.2.2.2.2.2.2.2.2.2.2.2.2.2.2.2.2.2.2.2.2.2) hs)))))))))))))))))))))))))))
      clear hs h0 h1 h2 h3 HW KK S9
      generalize wc = V10 at S10 ⊢
      go_upto_region 11 with (fail)
      have S11 := Lib.hid (And.intro (S10.out.1.keep (below_dr _ 1)) (And.intro (S10.out.2.1.keep (below_dr _ 1)) (And.intro (S10.out.2.2.1.keep (below_dr _ 1)) (And.intro (S10.out.2.2.2.1.keep (below_dr _ 1)) (And.intro (S10.out.2.2.2.2.1.keep (below_dr _ 1)) (And.intro (S10.out.2.2.2.2.2.1.keep (below_dr _ 1)) (And.intro (S10.out.2.2.2.2.2.2.1.keep (below_dr _ 1)) (And.intro (S10.out.2.2.2.2.2.2.2.1.keep (below_dr _ 1)) (And.intro (S10.out.2.2.2.2.2.2.2.2.1.keep (below_dr _ 1)) (And.intro (S10.out.2.2.2.2.2.2.2.2.2.1.keep (below_dr _ 1)) (And.intro (S10.out.2.2.2.2.2.2.2.2.2.2.1.keep (below_dr _ 1)) (And.intro (S10.out.2.2.2.2.2.2.2.2.2.2.2.1.keep (below_dr _ 1)) (And.intro (S10.out.2.2.2.2.2.2.2.2.2.2.2.2.1.keep (below_dr _ 1)) (And.intro (S10.out.2.2.2.2.2.2.2.2.2.2.2.2.2.1.keep (below_dr _ 1)) (And.intro (S10.out.2.2.2.2.2.2.2.2.2.2.2.2.2.2.1.keep (below_dr _ 1)) (And.intro (S10.out.2.2.2.2.2.2.2.2.2.2.2.2.2.2.2.1.keep (below_dr _ 1)) (And.intro (S10.out.2.2.2.2.2.2.2.2.2.2.2.2.2.2.2.2.1.keep (below_dr _ 1)) (And.intro (S10.out.2.2.2.2.2.2.2.2.2.2.2.2.2.2.2.2.2.1.keep (below_dr _ 1)) (And.intro (S10.out.2.2.2.2.2.2.2.2.2.2.2.2.2.2.2.2.2.2.1.keep (below_dr _ 1)) (And.intro (S10.out.2.2.2.2.2.2.2.2.2.2.2.2.2.2.2.2.2.2.2.1.keep (below_dr _ 1)) (And.intro (S10.out.2.2.2.2.2.2.2.2.2.2.2.2.2.2.2.2.2.2.2.2.1.keep (below_dr _ 1)) (And.intro (S10.out.2.2.2.2.2.2.2.1.keep (below_dr _ 1)) (And.intro (S10.out.2.2.2.2.2.2.2.2.2.2.2.2.2.2.2.2.2.2.2.2.2.2.1.keep (below_dr _ 1)) (And.intro (S10.out.2.2.2.2.2.2.2.2.2.2.2.2.2.2.2.2.2.2.2.2.2.2.2.1.keep (below_dr _ 1)) (And.intro (S10.out.2.2.2.2.2.2.2.2.2.2.2.2.2.2.2.2.2.2.2.2.2.2.2.2.1.keep (below_dr _ 1)) (And.intro (S10.out.2.2.2.2.2.2.2.2.2.2.2.2.2.2.2.2.2.2.2.2.2.2.2.2.2.1.keep (below_dr _ 1)) (below_trans (S10.out.2.2.2.2.2.2.2.2.2.2.2.2.2.2.2.2.2.2.2.2.2.2.2.2.2.2) (below_dr _ 1))))))))))))))))))))))))))))
      refine wp_region_held_drew (S := fun W => W.cell? ⟨gq, 0, none⟩ = some (.bool pq) ∧ W.cell? ⟨gq, 1, none⟩ = some (.slice Aq lq cq) ∧ W.cell? ⟨gu, 0, none⟩ = some (.bool pu) ∧ W.cell? ⟨gu, 1, none⟩ = some (.slice Au lu cu) ∧ W.cell? ⟨gr, 0, none⟩ = some (.bool pr) ∧ W.cell? ⟨gr, 1, none⟩ = some (.slice Ar lr cr) ∧ W.cell? ⟨gv, 0, none⟩ = some (.bool pv) ∧ W.cell? ⟨gv, 1, none⟩ = some (.slice Av lv cv)) (by kernel_rfl) ⟨S11.out.2.2.2.2.2.2.2.2.2.2.2.2.2.2.2.2.2.1.facts.1, S11.out.2.2.2.2.2.2.2.2.2.2.2.2.2.2.2.2.2.1.facts.2.1, S11.out.2.2.2.2.2.2.2.2.2.2.2.2.2.2.2.2.2.2.2.2.2.2.1.facts.1, S11.out.2.2.2.2.2.2.2.2.2.2.2.2.2.2.2.2.2.2.2.2.2.2.1.facts.2.1, S11.out.2.2.2.2.2.2.2.2.2.2.2.2.2.2.2.2.2.2.1.facts.1, S11.out.2.2.2.2.2.2.2.2.2.2.2.2.2.2.2.2.2.2.1.facts.2.1, S11.out.2.2.2.2.2.2.2.2.2.2.2.2.2.2.2.2.2.2.2.2.2.2.2.1.facts.1, S11.out.2.2.2.2.2.2.2.2.2.2.2.2.2.2.2.2.2.2.2.2.2.2.2.1.facts.2.1⟩ (fun hHeld => ?_)
      refine wpAnyH_take (i := 0) (v := ?v38) (by simp only [List.getElem?_toArray, List.getElem?_cons_succ, List.getElem?_cons_zero]; rfl) (by kernel_rfl) (by kernel_rfl) (by kernel_rfl) (by exact fun _ _ _ h => h) (Or.inl ⟨by rfl, ?h38⟩) hHeld ?r38
      case h38 => (intro w hSw; (try dsimp only at hSw); (first | (go_simp; done) | (go_simp; with_reducible rfl)))
      try simp only [Act.put, List.setIfInBounds_toArray, List.set_cons_zero, List.set_cons_succ]
      refine wpAnyH_take (i := 1) (v := ?v39) (by simp only [List.getElem?_toArray, List.getElem?_cons_succ, List.getElem?_cons_zero]; rfl) (by kernel_rfl) (by kernel_rfl) (by kernel_rfl) (by exact fun _ _ _ h => h) (Or.inl ⟨by rfl, ?h39⟩) hHeld ?r39
      case h39 => (intro w hSw; (try dsimp only at hSw); (first | (go_simp; done) | (go_simp; with_reducible rfl)))
      try simp only [Act.put, List.setIfInBounds_toArray, List.set_cons_zero, List.set_cons_succ]
      refine wpAnyH_take (i := 2) (v := ?v40) (by simp only [List.getElem?_toArray, List.getElem?_cons_succ, List.getElem?_cons_zero]; rfl) (by kernel_rfl) (by kernel_rfl) (by kernel_rfl) (by exact fun _ _ _ h => h) (Or.inl ⟨by rfl, ?h40⟩) hHeld ?r40
      case h40 => (intro w hSw; (try dsimp only at hSw); (first | (go_simp; done) | (go_simp; with_reducible rfl)))
      try simp only [Act.put, List.setIfInBounds_toArray, List.set_cons_zero, List.set_cons_succ]
      refine wpAnyH_take (i := 3) (v := ?v41) (by simp only [List.getElem?_toArray, List.getElem?_cons_succ, List.getElem?_cons_zero]; rfl) (by kernel_rfl) (by kernel_rfl) (by kernel_rfl) (by exact fun _ _ _ h => h) (Or.inl ⟨by rfl, ?h41⟩) hHeld ?r41
      case h41 => (intro w hSw; (try dsimp only at hSw); (first | (go_simp; done) | (go_simp; with_reducible rfl)))
      try simp only [Act.put, List.setIfInBounds_toArray, List.set_cons_zero, List.set_cons_succ]
      refine wpAnyH_take (i := 4) (v := ?v42) (by simp only [List.getElem?_toArray, List.getElem?_cons_succ, List.getElem?_cons_zero]; rfl) (by kernel_rfl) (by kernel_rfl) (by kernel_rfl) (by exact fun _ _ _ h => h) (Or.inl ⟨by rfl, ?h42⟩) hHeld ?r42
      case h42 => (intro w hSw; (try dsimp only at hSw); (first | (go_simp; done) | (go_simp; with_reducible rfl)))
      try simp only [Act.put, List.setIfInBounds_toArray, List.set_cons_zero, List.set_cons_succ]
      refine wpAnyH_ready (rs := [5]) (by kernel_rfl) (by simp) (AllReadyH.cons (by simp only [List.getElem?_toArray, List.getElem?_cons_succ, List.getElem?_cons_zero]; rfl) (fun K hK => ?_) AllReadyH.nil)
      go_simp
      go_at_call 20; refine (to_k 13 S11.out.2.2.2.2.2.2.2.2.2.2.2.2.2.2.2.2.2.2.2.2.2.2.2.2.1 (by decide) HB.out.1 (by decide)).mono ?_; rintro e w12 ⟨v, rfl, h, hb⟩
      have S12 := Lib.hid (And.intro (S11.out.1.keep (hb)) (And.intro (S11.out.2.1.keep (hb)) (And.intro (S11.out.2.2.1.keep (hb)) (And.intro (S11.out.2.2.2.1.keep (hb)) (And.intro (S11.out.2.2.2.2.1.keep (hb)) (And.intro (S11.out.2.2.2.2.2.1.keep (hb)) (And.intro (S11.out.2.2.2.2.2.2.1.keep (hb)) (And.intro (S11.out.2.2.2.2.2.2.2.1.keep (hb)) (And.intro (S11.out.2.2.2.2.2.2.2.2.1.keep (hb)) (And.intro (S11.out.2.2.2.2.2.2.2.2.2.1.keep (hb)) (And.intro (S11.out.2.2.2.2.2.2.2.2.2.2.1.keep (hb)) (And.intro (S11.out.2.2.2.2.2.2.2.2.2.2.2.1.keep (hb)) (And.intro (S11.out.2.2.2.2.2.2.2.2.2.2.2.2.1.keep (hb)) (And.intro (S11.out.2.2.2.2.2.2.2.2.2.2.2.2.2.1.keep (hb)) (And.intro (S11.out.2.2.2.2.2.2.2.2.2.2.2.2.2.2.1.keep (hb)) (And.intro (S11.out.2.2.2.2.2.2.2.2.2.2.2.2.2.2.2.1.keep (hb)) (And.intro (S11.out.2.2.2.2.2.2.2.2.2.2.2.2.2.2.2.2.1.keep (hb)) (And.intro (S11.out.2.2.2.2.2.2.2.2.2.2.2.2.2.2.2.2.2.1.keep (hb)) (And.intro (S11.out.2.2.2.2.2.2.2.2.2.2.2.2.2.2.2.2.2.2.1.keep (hb)) (And.intro (S11.out.2.2.2.2.2.2.2.2.2.2.2.2.2.2.2.2.2.2.2.1.keep (hb)) (And.intro (S11.out.2.2.2.2.2.2.2.2.2.2.2.2.2.2.2.2.2.2.2.2.1.keep (hb)) (And.intro (S11.out.2.2.2.2.2.2.2.1.keep (hb)) (And.intro (S11.out.2.2.2.2.2.2.2.2.2.2.2.2.2.2.2.2.2.2.2.2.2.2.1.keep (hb)) (And.intro (S11.out.2.2.2.2.2.2.2.2.2.2.2.2.2.2.2.2.2.2.2.2.2.2.2.1.keep (hb)) (And.intro (S11.out.2.2.2.2.2.2.2.2.2.2.2.2.2.2.2.2.2.2.2.2.2.2.2.2.1.keep (hb)) (And.intro (S11.out.2.2.2.2.2.2.2.2.2.2.2.2.2.2.2.2.2.2.2.2.2.2.2.2.2.1.keep (hb)) (And.intro (h) (below_trans (S11.out.2.2.2.2.2.2.2.2.2.2.2.2.2.2.2.2.2.2.2.2.2.2.2.2.2.2) (hb)))))))))))))))))))))))))))))
      have hN : w12.cell? ⟨gq, 0, none⟩ = some (.bool pq) ∧ w12.cell? ⟨gq, 1, none⟩ = some (.slice Aq lq cq) ∧ w12.cell? ⟨gu, 0, none⟩ = some (.bool pu) ∧ w12.cell? ⟨gu, 1, none⟩ = some (.slice Au lu cu) ∧ w12.cell? ⟨gr, 0, none⟩ = some (.bool pr) ∧ w12.cell? ⟨gr, 1, none⟩ = some (.slice Ar lr cr) ∧ w12.cell? ⟨gv, 0, none⟩ = some (.bool pv) ∧ w12.cell? ⟨gv, 1, none⟩ = some (.slice Av lv cv) := ⟨S12.out.2.2.2.2.2.2.2.2.2.2.2.2.2.2.2.2.2.1.facts.1, S12.out.2.2.2.2.2.2.2.2.2.2.2.2.2.2.2.2.2.1.facts.2.1, S12.out.2.2.2.2.2.2.2.2.2.2.2.2.2.2.2.2.2.2.2.2.2.2.1.facts.1, S12.out.2.2.2.2.2.2.2.2.2.2.2.2.2.2.2.2.2.2.2.2.2.2.1.facts.2.1, S12.out.2.2.2.2.2.2.2.2.2.2.2.2.2.2.2.2.2.2.1.facts.1, S12.out.2.2.2.2.2.2.2.2.2.2.2.2.2.2.2.2.2.2.1.facts.2.1, S12.out.2.2.2.2.2.2.2.2.2.2.2.2.2.2.2.2.2.2.2.2.2.2.2.1.facts.1, S12.out.2.2.2.2.2.2.2.2.2.2.2.2.2.2.2.2.2.2.2.2.2.2.2.1.facts.2.1⟩
      clear h hb hHeld
      go_wp2_with fail
      refine hK.out _ _ hN (fun hHeld => ?_); clear hK K hN; try simp only [Act.put, List.setIfInBounds_toArray, List.set_cons_zero, List.set_cons_succ]
      refine wpAnyH_ready (rs := [6]) (by kernel_rfl) (by simp) (AllReadyH.cons (by simp only [List.getElem?_toArray, List.getElem?_cons_succ, List.getElem?_cons_zero]; rfl) (fun K hK => ?_) AllReadyH.nil)
      go_simp
      go_at_call 18; refine (same_zo S12.out.2.2.2.2.2.2.2.2.2.2.2.2.1 S12.out.2.2.2.2.2.2.2.2.2.2.2.2.2.2.2.2.2.2.2.2.2.2.2.2.2.2.1 rfl).mono ?_; rintro e w13 ⟨rfl, hb⟩
      have S13 := Lib.hid (And.intro (S12.out.1.keep (hb)) (And.intro (S12.out.2.1.keep (hb)) (And.intro (S12.out.2.2.1.keep (hb)) (And.intro (S12.out.2.2.2.1.keep (hb)) (And.intro (S12.out.2.2.2.2.1.keep (hb)) (And.intro (S12.out.2.2.2.2.2.1.keep (hb)) (And.intro (S12.out.2.2.2.2.2.2.1.keep (hb)) (And.intro (S12.out.2.2.2.2.2.2.2.1.keep (hb)) (And.intro (S12.out.2.2.2.2.2.2.2.2.1.keep (hb)) (And.intro (S12.out.2.2.2.2.2.2.2.2.2.1.keep (hb)) (And.intro (S12.out.2.2.2.2.2.2.2.2.2.2.1.keep (hb)) (And.intro (S12.out.2.2.2.2.2.2.2.2.2.2.2.1.keep (hb)) (And.intro (S12.out.2.2.2.2.2.2.2.2.2.2.2.2.1.keep (hb)) (And.intro (S12.out.2.2.2.2.2.2.2.2.2.2.2.2.2.1.keep (hb)) (And.intro (S12.out.2.2.2.2.2.2.2.2.2.2.2.2.2.2.1.keep (hb)) (And.intro (S12.out.2.2.2.2.2.2.2.2.2.2.2.2.2.2.2.1.keep (hb)) (And.intro (S12.out.2.2.2.2.2.2.2.2.2.2.2.2.2.2.2.2.1.keep (hb)) (And.intro (S12.out.2.2.2.2.2.2.2.2.2.2.2.2.2.2.2.2.2.1.keep (hb)) (And.intro (S12.out.2.2.2.2.2.2.2.2.2.2.2.2.2.2.2.2.2.2.1.keep (hb)) (And.intro (S12.out.2.2.2.2.2.2.2.2.2.2.2.2.2.2.2.2.2.2.2.1.keep (hb)) (And.intro (S12.out.2.2.2.2.2.2.2.2.2.2.2.2.2.2.2.2.2.2.2.2.1.keep (hb)) (And.intro (S12.out.2.2.2.2.2.2.2.1.keep (hb)) (And.intro (S12.out.2.2.2.2.2.2.2.2.2.2.2.2.2.2.2.2.2.2.2.2.2.2.1.keep (hb)) (And.intro (S12.out.2.2.2.2.2.2.2.2.2.2.2.2.2.2.2.2.2.2.2.2.2.2.2.1.keep (hb)) (And.intro (S12.out.2.2.2.2.2.2.2.2.2.2.2.2.2.2.2.2.2.2.2.2.2.2.2.2.1.keep (hb)) (And.intro (S12.out.2.2.2.2.2.2.2.2.2.2.2.2.2.2.2.2.2.2.2.2.2.2.2.2.2.1.keep (hb)) (below_trans (S12.out.2.2.2.2.2.2.2.2.2.2.2.2.2.2.2.2.2.2.2.2.2.2.2.2.2.2.2) (hb))))))))))))))))))))))))))))
      have hN : w13.cell? ⟨gq, 0, none⟩ = some (.bool pq) ∧ w13.cell? ⟨gq, 1, none⟩ = some (.slice Aq lq cq) ∧ w13.cell? ⟨gu, 0, none⟩ = some (.bool pu) ∧ w13.cell? ⟨gu, 1, none⟩ = some (.slice Au lu cu) ∧ w13.cell? ⟨gr, 0, none⟩ = some (.bool pr) ∧ w13.cell? ⟨gr, 1, none⟩ = some (.slice Ar lr cr) ∧ w13.cell? ⟨gv, 0, none⟩ = some (.bool pv) ∧ w13.cell? ⟨gv, 1, none⟩ = some (.slice Av lv cv) := ⟨S13.out.2.2.2.2.2.2.2.2.2.2.2.2.2.2.2.2.2.1.facts.1, S13.out.2.2.2.2.2.2.2.2.2.2.2.2.2.2.2.2.2.1.facts.2.1, S13.out.2.2.2.2.2.2.2.2.2.2.2.2.2.2.2.2.2.2.2.2.2.2.1.facts.1, S13.out.2.2.2.2.2.2.2.2.2.2.2.2.2.2.2.2.2.2.2.2.2.2.1.facts.2.1, S13.out.2.2.2.2.2.2.2.2.2.2.2.2.2.2.2.2.2.2.1.facts.1, S13.out.2.2.2.2.2.2.2.2.2.2.2.2.2.2.2.2.2.2.1.facts.2.1, S13.out.2.2.2.2.2.2.2.2.2.2.2.2.2.2.2.2.2.2.2.2.2.2.2.1.facts.1, S13.out.2.2.2.2.2.2.2.2.2.2.2.2.2.2.2.2.2.2.2.2.2.2.2.1.facts.2.1⟩
      clear hb hHeld
      go_wp2_with fail
      refine hK.out _ _ hN (fun hHeld => ?_); clear hK K hN; try simp only [Act.put, List.setIfInBounds_toArray, List.set_cons_zero, List.set_cons_succ]
      refine wpAnyH_take (i := 7) (v := ?v43) (by simp only [List.getElem?_toArray, List.getElem?_cons_succ, List.getElem?_cons_zero]; rfl) (by kernel_rfl) (by kernel_rfl) (by kernel_rfl) (by exact fun _ _ _ h => h) (Or.inl ⟨by rfl, ?h43⟩) hHeld ?r43
      case h43 => (intro w hSw; (try dsimp only at hSw); (first | (go_simp; done) | (go_simp; with_reducible rfl)))
      try simp only [Act.put, List.setIfInBounds_toArray, List.set_cons_zero, List.set_cons_succ]
      refine wpAnyH_take (i := 8) (v := ?v44) (by simp only [List.getElem?_toArray, List.getElem?_cons_succ, List.getElem?_cons_zero]; rfl) (by kernel_rfl) (by kernel_rfl) (by kernel_rfl) (by exact fun _ _ _ h => h) (Or.inl ⟨by rfl, ?h44⟩) hHeld ?r44
      case h44 => (intro w hSw; (try dsimp only at hSw); (first | (go_simp; done) | (go_simp; with_reducible rfl)))
      try simp only [Act.put, List.setIfInBounds_toArray, List.set_cons_zero, List.set_cons_succ]
      refine wpAnyH_take (i := 9) (v := ?v45) (by simp only [List.getElem?_toArray, List.getElem?_cons_succ, List.getElem?_cons_zero]; rfl) (by kernel_rfl) (by kernel_rfl) (by kernel_rfl) (by exact fun _ _ _ h => h) (Or.inl ⟨by rfl, ?h45⟩) hHeld ?r45
      case h45 => (intro w hSw; (try dsimp only at hSw); (first | (go_simp; done) | (go_simp; with_reducible rfl)))
      try simp only [Act.put, List.setIfInBounds_toArray, List.set_cons_zero, List.set_cons_succ]
      refine wpAnyH_take (i := 10) (v := ?v46) (by simp only [List.getElem?_toArray, List.getElem?_cons_succ, List.getElem?_cons_zero]; rfl) (by kernel_rfl) (by kernel_rfl) (by kernel_rfl) (by exact fun _ _ _ h => h) (Or.inl ⟨by rfl, ?h46⟩) hHeld ?r46
      case h46 => (intro w hSw; (try dsimp only at hSw); (first | (go_simp; done) | (go_simp; with_reducible rfl)))
      try simp only [Act.put, List.setIfInBounds_toArray, List.set_cons_zero, List.set_cons_succ]
      refine wpAnyH_ready (rs := [11]) (by kernel_rfl) (by simp) (AllReadyH.cons (by simp only [List.getElem?_toArray, List.getElem?_cons_succ, List.getElem?_cons_zero]; rfl) (fun K hK => ?_) AllReadyH.nil)
      go_simp
      go_at_call 20; refine (to_k 12 S13.out.2.2.2.2.2.2.2.2.2.2.2.2.2.2.2.2.2.2.2.2.2.2.2.2.2.1 (by decide) HB.out.2 (by decide)).mono ?_; rintro e w14 ⟨v, rfl, h, hb⟩
      have S14 := Lib.hid (And.intro (S13.out.1.keep (hb)) (And.intro (S13.out.2.1.keep (hb)) (And.intro (S13.out.2.2.1.keep (hb)) (And.intro (S13.out.2.2.2.1.keep (hb)) (And.intro (S13.out.2.2.2.2.1.keep (hb)) (And.intro (S13.out.2.2.2.2.2.1.keep (hb)) (And.intro (S13.out.2.2.2.2.2.2.1.keep (hb)) (And.intro (S13.out.2.2.2.2.2.2.2.1.keep (hb)) (And.intro (S13.out.2.2.2.2.2.2.2.2.1.keep (hb)) (And.intro (S13.out.2.2.2.2.2.2.2.2.2.1.keep (hb)) (And.intro (S13.out.2.2.2.2.2.2.2.2.2.2.1.keep (hb)) (And.intro (S13.out.2.2.2.2.2.2.2.2.2.2.2.1.keep (hb)) (And.intro (S13.out.2.2.2.2.2.2.2.2.2.2.2.2.1.keep (hb)) (And.intro (S13.out.2.2.2.2.2.2.2.2.2.2.2.2.2.1.keep (hb)) (And.intro (S13.out.2.2.2.2.2.2.2.2.2.2.2.2.2.2.1.keep (hb)) (And.intro (S13.out.2.2.2.2.2.2.2.2.2.2.2.2.2.2.2.1.keep (hb)) (And.intro (S13.out.2.2.2.2.2.2.2.2.2.2.2.2.2.2.2.2.1.keep (hb)) (And.intro (S13.out.2.2.2.2.2.2.2.2.2.2.2.2.2.2.2.2.2.1.keep (hb)) (And.intro (S13.out.2.2.2.2.2.2.2.2.2.2.2.2.2.2.2.2.2.2.1.keep (hb)) (And.intro (S13.out.2.2.2.2.2.2.2.2.2.2.2.2.2.2.2.2.2.2.2.1.keep (hb)) (And.intro (S13.out.2.2.2.2.2.2.2.2.2.2.2.2.2.2.2.2.2.2.2.2.1.keep (hb)) (And.intro (S13.out.2.2.2.2.2.2.2.1.keep (hb)) (And.intro (S13.out.2.2.2.2.2.2.2.2.2.2.2.2.2.2.2.2.2.2.2.2.2.2.1.keep (hb)) (And.intro (S13.out.2.2.2.2.2.2.2.2.2.2.2.2.2.2.2.2.2.2.2.2.2.2.2.1.keep (hb)) (And.intro (S13.out.2.2.2.2.2.2.2.2.2.2.2.2.2.2.2.2.2.2.2.2.2.2.2.2.1.keep (hb)) (And.intro (S13.out.2.2.2.2.2.2.2.2.2.2.2.2.2.2.2.2.2.2.2.2.2.2.2.2.2.1.keep (hb)) (And.intro (h) (below_trans (S13.out.2.2.2.2.2.2.2.2.2.2.2.2.2.2.2.2.2.2.2.2.2.2.2.2.2.2) (hb)))))))))))))))))))))))))))))
      have hN : w14.cell? ⟨gq, 0, none⟩ = some (.bool pq) ∧ w14.cell? ⟨gq, 1, none⟩ = some (.slice Aq lq cq) ∧ w14.cell? ⟨gu, 0, none⟩ = some (.bool pu) ∧ w14.cell? ⟨gu, 1, none⟩ = some (.slice Au lu cu) ∧ w14.cell? ⟨gr, 0, none⟩ = some (.bool pr) ∧ w14.cell? ⟨gr, 1, none⟩ = some (.slice Ar lr cr) ∧ w14.cell? ⟨gv, 0, none⟩ = some (.bool pv) ∧ w14.cell? ⟨gv, 1, none⟩ = some (.slice Av lv cv) := ⟨S14.out.2.2.2.2.2.2.2.2.2.2.2.2.2.2.2.2.2.1.facts.1, S14.out.2.2.2.2.2.2.2.2.2.2.2.2.2.2.2.2.2.1.facts.2.1, S14.out.2.2.2.2.2.2.2.2.2.2.2.2.2.2.2.2.2.2.2.2.2.2.1.facts.1, S14.out.2.2.2.2.2.2.2.2.2.2.2.2.2.2.2.2.2.2.2.2.2.2.1.facts.2.1, S14.out.2.2.2.2.2.2.2.2.2.2.2.2.2.2.2.2.2.2.1.facts.1, S14.out.2.2.2.2.2.2.2.2.2.2.2.2.2.2.2.2.2.2.1.facts.2.1, S14.out.2.2.2.2.2.2.2.2.2.2.2.2.2.2.2.2.2.2.2.2.2.2.2.1.facts.1, S14.out.2.2.2.2.2.2.2.2.2.2.2.2.2.2.2.2.2.2.2.2.2.2.2.1.facts.2.1⟩
      clear h hb hHeld
      go_wp2_with fail
      refine hK.out _ _ hN (fun hHeld => ?_); clear hK K hN; try simp only [Act.put, List.setIfInBounds_toArray, List.set_cons_zero, List.set_cons_succ]
      refine wpAnyH_ready (rs := [12]) (by kernel_rfl) (by simp) (AllReadyH.cons (by simp only [List.getElem?_toArray, List.getElem?_cons_succ, List.getElem?_cons_zero]; rfl) (fun K hK => ?_) AllReadyH.nil)
      go_simp
      go_at_call 18; refine (same_zo S14.out.2.2.2.2.2.2.2.2.2.2.2.2.2.1 S14.out.2.2.2.2.2.2.2.2.2.2.2.2.2.2.2.2.2.2.2.2.2.2.2.2.2.2.1 rfl).mono ?_; rintro e w15 ⟨rfl, hb⟩
      have S15 := Lib.hid (And.intro (S14.out.1.keep (hb)) (And.intro (S14.out.2.1.keep (hb)) (And.intro (S14.out.2.2.1.keep (hb)) (And.intro (S14.out.2.2.2.1.keep (hb)) (And.intro (S14.out.2.2.2.2.1.keep (hb)) (And.intro (S14.out.2.2.2.2.2.1.keep (hb)) (And.intro (S14.out.2.2.2.2.2.2.1.keep (hb)) (And.intro (S14.out.2.2.2.2.2.2.2.1.keep (hb)) (And.intro (S14.out.2.2.2.2.2.2.2.2.1.keep (hb)) (And.intro (S14.out.2.2.2.2.2.2.2.2.2.1.keep (hb)) (And.intro (S14.out.2.2.2.2.2.2.2.2.2.2.1.keep (hb)) (And.intro (S14.out.2.2.2.2.2.2.2.2.2.2.2.1.keep (hb)) (And.intro (S14.out.2.2.2.2.2.2.2.2.2.2.2.2.1.keep (hb)) (And.intro (S14.out.2.2.2.2.2.2.2.2.2.2.2.2.2.1.keep (hb)) (And.intro (S14.out.2.2.2.2.2.2.2.2.2.2.2.2.2.2.1.keep (hb)) (And.intro (S14.out.2.2.2.2.2.2.2.2.2.2.2.2.2.2.2.1.keep (hb)) (And.intro (S14.out.2.2.2.2.2.2.2.2.2.2.2.2.2.2.2.2.1.keep (hb)) (And.intro (S14.out.2.2.2.2.2.2.2.2.2.2.2.2.2.2.2.2.2.1.keep (hb)) (And.intro (S14.out.2.2.2.2.2.2.2.2.2.2.2.2.2.2.2.2.2.2.1.keep (hb)) (And.intro (S14.out.2.2.2.2.2.2.2.2.2.2.2.2.2.2.2.2.2.2.2.1.keep (hb)) (And.intro (S14.out.2.2.2.2.2.2.2.2.2.2.2.2.2.2.2.2.2.2.2.2.1.keep (hb)) (And.intro (S14.out.2.2.2.2.2.2.2.1.keep (hb)) (And.intro (S14.out.2.2.2.2.2.2.2.2.2.2.2.2.2.2.2.2.2.2.2.2.2.2.1.keep (hb)) (And.intro (S14.out.2.2.2.2.2.2.2.2.2.2.2.2.2.2.2.2.2.2.2.2.2.2.2.1.keep (hb)) (And.intro (S14.out.2.2.2.2.2.2.2.2.2.2.2.2.2.2.2.2.2.2.2.2.2.2.2.2.1.keep (hb)) (And.intro (S14.out.2.2.2.2.2.2.2.2.2.2.2.2.2.2.2.2.2.2.2.2.2.2.2.2.2.1.keep (hb)) (below_trans (S14.out.2.2.2.2.2.2.2.2.2.2.2.2.2.2.2.2.2.2.2.2.2.2.2.2.2.2.2) (hb))))))))))))))))))))))))))))
      have hN : w15.cell? ⟨gq, 0, none⟩ = some (.bool pq) ∧ w15.cell? ⟨gq, 1, none⟩ = some (.slice Aq lq cq) ∧ w15.cell? ⟨gu, 0, none⟩ = some (.bool pu) ∧ w15.cell? ⟨gu, 1, none⟩ = some (.slice Au lu cu) ∧ w15.cell? ⟨gr, 0, none⟩ = some (.bool pr) ∧ w15.cell? ⟨gr, 1, none⟩ = some (.slice Ar lr cr) ∧ w15.cell? ⟨gv, 0, none⟩ = some (.bool pv) ∧ w15.cell? ⟨gv, 1, none⟩ = some (.slice Av lv cv) := ⟨S15.out.2.2.2.2.2.2.2.2.2.2.2.2.2.2.2.2.2.1.facts.1, S15.out.2.2.2.2.2.2.2.2.2.2.2.2.2.2.2.2.2.1.facts.2.1, S15.out.2.2.2.2.2.2.2.2.2.2.2.2.2.2.2.2.2.2.2.2.2.2.1.facts.1, S15.out.2.2.2.2.2.2.2.2.2.2.2.2.2.2.2.2.2.2.2.2.2.2.1.facts.2.1, S15.out.2.2.2.2.2.2.2.2.2.2.2.2.2.2.2.2.2.2.1.facts.1, S15.out.2.2.2.2.2.2.2.2.2.2.2.2.2.2.2.2.2.2.1.facts.2.1, S15.out.2.2.2.2.2.2.2.2.2.2.2.2.2.2.2.2.2.2.2.2.2.2.2.1.facts.1, S15.out.2.2.2.2.2.2.2.2.2.2.2.2.2.2.2.2.2.2.2.2.2.2.2.1.facts.2.1⟩
      clear hb hHeld
      go_wp2_with fail
      refine hK.out _ _ hN (fun hHeld => ?_); clear hK K hN; try simp only [Act.put, List.setIfInBounds_toArray, List.set_cons_zero, List.set_cons_succ]
      refine wpAnyH_take (i := 13) (v := ?v47) (by simp only [List.getElem?_toArray, List.getElem?_cons_succ, List.getElem?_cons_zero]; rfl) (by kernel_rfl) (by kernel_rfl) (by kernel_rfl) (by exact fun _ _ _ h => h) (Or.inl ⟨by rfl, ?h47⟩) hHeld ?r47
      case h47 => (intro w hSw; (try dsimp only at hSw); (first | (go_simp; done) | (go_simp; with_reducible rfl)))
      try simp only [Act.put, List.setIfInBounds_toArray, List.set_cons_zero, List.set_cons_succ]
      refine wpAnyH_take (i := 14) (v := ?v48) (by simp only [List.getElem?_toArray, List.getElem?_cons_succ, List.getElem?_cons_zero]; rfl) (by kernel_rfl) (by kernel_rfl) (by kernel_rfl) (by exact fun _ _ _ h => h) (Or.inl ⟨by rfl, ?h48⟩) hHeld ?r48
      case h48 => (intro w hSw; (try dsimp only at hSw); (first | (go_simp; done) | (go_simp; with_reducible rfl)))
      try simp only [Act.put, List.setIfInBounds_toArray, List.set_cons_zero, List.set_cons_succ]
      refine wpAnyH_done (by kernel_rfl) ?_ _
      clear hHeld
      obtain ⟨qa, qb, -, -⟩ := S15.out.2.2.2.2.2.2.2.2.2.2.2.2.2.2.2.2.2.1.facts
      go_wp2_with fail
      refine (spoil_om S15.out.2.2.2.2.2.2.2.2.2.2.2.2.2.2.1 S15.out.2.2.2.2.2.2.2.2.2.2.2.2.2.2.2.2.1.out.size).mono ?_; rintro e w16 ⟨rfl, H⟩
      have S16 := Lib.hid (And.intro (S15.out.2.2.2.2.2.2.2.2.2.2.2.2.2.2.2.2.1.hit H (Nat.le_refl _)) (And.intro (S15.out.2.2.2.2.2.2.2.2.2.2.2.2.2.2.2.1.hit H) (And.intro (S15.out.2.2.2.2.2.2.2.2.2.2.2.2.2.2.2.2.2.2.1.hit H int_word) (below_trans (SC.out.2.2.2.2.2.2.2.2.2.2.2.2) (S15.out.2.2.2.2.2.2.2.2.2.2.2.2.2.2.2.2.1.hit H (Nat.le_refl _)).out))))
      clear H qa qb S15
      obtain ⟨ra, rb, -, -⟩ := S16.out.2.2.1.facts
      go_wp2_with fail
      refine (spoil_om S16.out.2.1 S16.out.1.out.size).mono ?_; rintro e w17 ⟨rfl, H⟩
      have S17 := Lib.hid (And.intro (S16.out.1.hit H (Nat.le_refl _)) (below_trans (SC.out.2.2.2.2.2.2.2.2.2.2.2.2) (S16.out.1.hit H (Nat.le_refl _)).out))
      clear H ra rb S16
      have S18 := Lib.hid (And.intro (SC.out.2.1.keep S17.out.1) (And.intro (SC.out.2.2.1.keep S17.out.1) (And.intro (SC.out.2.2.2.2.2.2.2.2.2.2.1.keep S17.out.1) (And.intro (SC.out.2.2.2.2.2.2.2.2.2.2.2.1.keep S17.out.1) (And.intro (SC.out.2.2.2.2.2.1.keep S17.out.1) (And.intro (SC.out.2.2.2.2.2.2.1.keep S17.out.1) (And.intro (SC.out.2.2.2.2.2.2.2.2.1.keep S17.out.1) (And.intro (SC.out.2.2.2.2.2.2.2.2.2.1.keep S17.out.1) (below_trans (SC.out.2.2.2.2.2.2.2.2.2.2.2.2) S17.out.1.out)))))))))
      clear SC S17
      obtain ⟨xa, xb, -, -⟩ := S18.out.2.2.2.2.2.2.1.facts
      obtain ⟨aa, ab, -, -⟩ := S18.out.2.2.2.2.1.facts
      go_wp2_with fail
      refine (same_z S18.out.2.2.1 S18.out.1).mono ?_; rintro e w19 ⟨rfl, hb⟩
      have S19 := Lib.hid (And.intro (S18.out.1.keep (hb)) (And.intro (S18.out.2.1.keep (hb)) (And.intro (S18.out.2.2.1.keep (hb)) (And.intro (S18.out.2.2.2.1.keep (hb)) (And.intro (S18.out.2.2.2.2.1.keep (hb)) (And.intro (S18.out.2.2.2.2.2.1.keep (hb)) (And.intro (S18.out.2.2.2.2.2.2.1.keep (hb)) (And.intro (S18.out.2.2.2.2.2.2.2.1.keep (hb)) (below_trans (S18.out.2.2.2.2.2.2.2.2) (hb))))))))))
      clear hb xa xb aa ab S18
      obtain ⟨ya, yb, -, -⟩ := S19.out.2.2.2.2.2.2.2.1.facts
      obtain ⟨ba, bb, -, -⟩ := S19.out.2.2.2.2.2.1.facts
      go_wp2_with fail
      refine (same_z S19.out.2.2.2.1 S19.out.2.1).mono ?_; rintro e w20 ⟨rfl, hb⟩
      have S20 := Lib.hid (And.intro (S19.out.1.keep (hb)) (And.intro (S19.out.2.1.keep (hb)) (And.intro (S19.out.2.2.1.keep (hb)) (And.intro (S19.out.2.2.2.1.keep (hb)) (And.intro (S19.out.2.2.2.2.1.keep (hb)) (And.intro (S19.out.2.2.2.2.2.1.keep (hb)) (And.intro (S19.out.2.2.2.2.2.2.1.keep (hb)) (And.intro (S19.out.2.2.2.2.2.2.2.1.keep (hb)) (below_trans (S19.out.2.2.2.2.2.2.2.2) (hb))))))))))
      clear hb ya yb ba bb S19
      go_wp2_with fail
      go_ret
      exact ⟨rfl, S20.out.2.2.2.2.2.2.2.2⟩
set_option maxRecDepth 100000 in
set_option maxHeartbeats 2000000 in
theorem zintFloors_big (w : World) (ht : Tab w) {a : Value} {pa : Bool} {xa : List Nat} {b : Value} {pb : Bool} {xb : List Nat} (ha : Zl w a pa xa) (hb : Zl w b pb xb) (hg : ¬ (xa.length ≤ 12 ∧ xb.length ≤ 12)) :
    Calls Tryz.prog 3 #[a, b] w fun e w' => e = .returned (.bool true) ∧ Below w.heap.size w w' := by
  obtain ⟨Aa, na, ca, rfl, ea, ha⟩ := ha.parts
  obtain ⟨Ab, nb, cb, rfl, eb, hb⟩ := hb.parts
  have HG := Lib.hid hg
  have S0 := Lib.hid (And.intro (ht) (And.intro (ha.out) (And.intro (hb.out) (Below.refl w.heap.size w))))
  clear ht ha hb ea eb hg
  go_enter Tryz.func3, Tryz.ntmps3
  go_upto_region 1 with (fail)
  obtain ⟨h0, h1, hb⟩ := box2 w 24 24 (.bool pa) (.slice Aa na ca) (.bool pb) (.slice Ab nb cb)
  have S1 := Lib.hid (And.intro (S0.out.1.keep (hb)) (And.intro (S0.out.2.1.keep (hb)) (And.intro (S0.out.2.2.1.keep (hb)) (And.intro (h0) (And.intro (h1) (below_trans (S0.out.2.2.2) (hb)))))))
  clear hb h0 h1 S0
  generalize (w.alloc _).alloc _ = W0 at S1 ⊢
  go_wp2_with fail
  refine (speaks_z _ S1.out.1).mono ?_; rintro e w2 ⟨rfl, hb⟩
  have S2 := Lib.hid (And.intro (S1.out.1.keep (hb)) (And.intro (S1.out.2.1.keep (hb)) (And.intro (S1.out.2.2.1.keep (hb)) (And.intro (S1.out.2.2.2.1.keep (hb)) (And.intro (S1.out.2.2.2.2.1.keep (hb)) (below_trans (S1.out.2.2.2.2.2) (hb)))))))
  clear hb  S1
  obtain ⟨aa, ab, -, -⟩ := S2.out.2.2.2.1.facts
  obtain ⟨ba, bb, -, -⟩ := S2.out.2.2.2.2.1.facts
  go_wp2_with fail
  refine (big_yes S2.out.2.1 S2.out.2.2.1 HG.out).mono ?_; rintro e w3 ⟨rfl, hb⟩
  have S3 := Lib.hid (And.intro (S2.out.1.keep (hb)) (And.intro (S2.out.2.1.keep (hb)) (And.intro (S2.out.2.2.1.keep (hb)) (And.intro (S2.out.2.2.2.1.keep (hb)) (And.intro (S2.out.2.2.2.2.1.keep (hb)) (below_trans (S2.out.2.2.2.2.2) (hb)))))))
  clear hb aa ab ba bb S2
  go_wp2_with fail
  go_ret
  exact ⟨rfl, S3.out.2.2.2.2.2⟩
theorem zintFloors_walk (w : World) (ht : Tab w) {a : Value} {pa : Bool} {xa : List Nat} {b : Value} {pb : Bool} {xb : List Nat} (ha : Zl w a pa xa) (hb : Zl w b pb xb) :
    Calls Tryz.prog 3 #[a, b] w fun e w' => e = .returned (.bool true) ∧ Below w.heap.size w w' := by
  by_cases hg : xa.length ≤ 12 ∧ xb.length ≤ 12
  · by_cases h0 : sg pb (val WB xb) = 0
    · exact zintFloors_by0 w ht ha hg.1 hb hg.2 h0
    · exact zintFloors_nz w ht ha hg.1 hb hg.2 h0
  · exact zintFloors_big w ht ha hb hg
end Go.Proofs.YtgbfpimdnmmfpaaGreatDoor
