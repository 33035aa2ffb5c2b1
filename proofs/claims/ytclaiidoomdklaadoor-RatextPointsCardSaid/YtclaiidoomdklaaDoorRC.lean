/-
  ratext.split, path by path.
-/
import Derived.Test.YtclaiidoomdklaaDoorRA
namespace Go.Proofs.YtclaiidoomdklaaDoor
open Go Go.RowKit Go.Proofs Pl
set_option linter.unusedVariables false
set_option linter.unusedSimpArgs false

set_option maxRecDepth 100000 in
set_option maxHeartbeats 2000000 in
theorem split_100_112 {w : World} {l l1 l2 l3 l4 l5 l6 l7 wh pt ex : List UInt8} {sb s5 b sm z yb1 yb2 yb3 : Bool} (hM : l.length ≤ 9223372036854775807) (hb : (l.head? == some 45) = b) (c1 : cutC [43, 45] l = (sb, l1)) (d1 : digs l1 = wh) (r1 : rest l1 = l2) (c2 : cutC [47] l2 = (true, l3)) (d2 : digs l3 = pt) (r2 : rest l3 = l4) (b1 : wh.isEmpty = false) (b2 : pt.isEmpty = false) (bz : l4.isEmpty = z) :
    Calls Tryd.prog 9 #[.string (St l)] w fun e w' => e = .returned (.tuple #[.agg #[.bool b, .bool false, .string (St wh), .string (St []), .string (St []), .string (St pt)], .int .i64 ((wh.length + pt.length : Nat) : Int), .bool (z)]) ∧ Below w.heap.size w w' := by
  have n0 := cut_le [43, 45] l
  rw [c1] at n0
  simp only at n0
  have n1 := digs_le l1
  rw [d1, r1] at n1
  have n2 := cut_le [47] l2
  rw [c2] at n2
  simp only at n2
  have n3 := digs_le l3
  rw [d2, r2] at n3
  have mb1 : (St wh).toList.isEmpty = false := by rw [st_nil, b1]
  have mb2 : (St pt).toList.isEmpty = false := by rw [st_nil, b2]
  have mz : (St l4).toList.isEmpty = z := by rw [st_nil, bz]
  have HE := Lib.hid (And.intro hb (And.intro c1 (And.intro d1 (And.intro r1 (And.intro c2 (And.intro d2 (r2)))))))
  obtain ⟨k1, hk1⟩ : ∃ k, wh.length = k := ⟨_, rfl⟩
  obtain ⟨k2, hk2⟩ : ∃ k, wh.length + pt.length = k := ⟨_, rfl⟩
  rw [hk2]
  have HK := Lib.hid (And.intro (show 0 + wh.length = k1 by omega) (And.intro (show 0 + l1.length ≤ 9223372036854775807 by omega) (And.intro (show k1 + pt.length = k2 by omega) ((show k1 + l3.length ≤ 9223372036854775807 by omega)))))
  clear hM hb c1 d1 r1 c2 d2 r2 b1 b2 bz n0 n1 n2 n3 hk1 hk2
  go_enter Tryd.func9, Tryd.ntmps9
  go_upto_region 2 with (fail)
  have hP := (B6.new 37 w (.bool false) (.bool false) (.string ⟨#[]⟩) (.string ⟨#[]⟩) (.string ⟨#[]⟩) (.string ⟨#[]⟩)).alloc (.cells #[.string (St l), .int .i64 0] 54)
  have hX := Bx.new1 54 w (.cells #[.bool false, .bool false, .string ⟨#[]⟩, .string ⟨#[]⟩, .string ⟨#[]⟩, .string ⟨#[]⟩] 37) (.string (St l)) (.int .i64 0)
  have hb := below_trans (below_al w (.cells #[.bool false, .bool false, .string ⟨#[]⟩, .string ⟨#[]⟩, .string ⟨#[]⟩, .string ⟨#[]⟩] 37)) (below_al _ (.cells #[.string (St l), .int .i64 0] 54))
  have S1 := Lib.hid (And.intro (hX) (And.intro (hP) (hb)))
  clear hX hP hb
  generalize (w.alloc _).alloc _ = W1 at S1 ⊢
  obtain ⟨x0, x1, x2, x3⟩ := S1.out.1.facts
  go_wp2_with fail
  refine (prefix_st l _).mono ?_; rintro e W1 ⟨rfl, rfl⟩
  rw [HE.out.1]
  clear x0 x1 x2 x3
  obtain ⟨p0, p1, p2, p3, p4, p5, q0, q1, q2, q3, q4, q5⟩ := S1.out.2.1.facts
  go_upto_region 3 with (fail)
  clear p0 p1 p2 p3 p4 p5 q0 q1 q2 q3 q4 q5
  have S2 := Lib.hid (And.intro (S1.out.1.other (p := ⟨w.heap.size, 0, none⟩) (by show w.heap.size ≠ w.heap.size + 1; omega) (.bool b)) (And.intro (S1.out.2.1.set0 (.bool b)) (S1.out.2.2.setCell (p := ⟨w.heap.size, 0, none⟩) (Nat.le_refl _) (.bool b))))
  clear S1
  generalize W1.setCell _ _ = W2 at S2 ⊢
  obtain ⟨x0, x1, x2, x3⟩ := S2.out.1.facts
  go_wp2_with fail
  refine (take_l HE.out.2.1 S2.out.1).mono ?_; rintro e w3 ⟨rfl, hX, hg⟩
  clear x0 x1 x2 x3
  have S3 := Lib.hid (And.intro (hX) (And.intro (S2.out.2.1.grown hg (by omega)) (below_one S2.out.2.2 hg (by omega))))
  clear hX hg S2
  go_wp2_with fail
  refine (run_l (m := k1) HE.out.2.2.1 HE.out.2.2.2.1 HK.out.1 HK.out.2.1 S3.out.1).mono ?_; rintro e w4 ⟨rfl, hX, Wm, hb, hg⟩
  have S4 := Lib.hid (And.intro (hX) (And.intro ((S3.out.2.1.keep hb).grown hg (by omega)) (below_one (below_trans S3.out.2.2 hb) hg (by omega))))
  clear hX hg hb S3
  obtain ⟨p0, p1, p2, p3, p4, p5, q0, q1, q2, q3, q4, q5⟩ := S4.out.2.1.facts
  go_upto_region 5 with (fail)
  clear p0 p1 p2 p3 p4 p5 q0 q1 q2 q3 q4 q5
  have S5 := Lib.hid (And.intro (S4.out.1.other (p := ⟨w.heap.size, 2, none⟩) (by show w.heap.size ≠ w.heap.size + 1; omega) (.string (St wh))) (And.intro (S4.out.2.1.set2 (.string (St wh))) (S4.out.2.2.setCell (p := ⟨w.heap.size, 2, none⟩) (Nat.le_refl _) (.string (St wh)))))
  clear S4
  generalize w4.setCell _ _ = W5 at S5 ⊢
  obtain ⟨p0, p1, p2, p3, p4, p5, q0, q1, q2, q3, q4, q5⟩ := S5.out.2.1.facts
  obtain ⟨x0, x1, x2, x3⟩ := S5.out.1.facts
  go_wp2_with fail
  refine (take_l HE.out.2.2.2.2.1 S5.out.1).mono ?_; rintro e w6 ⟨rfl, hX, hg⟩
  clear x0 x1 x2 x3
  have S6 := Lib.hid (And.intro (hX) (And.intro (S5.out.2.1.grown hg (by omega)) (below_one S5.out.2.2 hg (by omega))))
  clear hX hg S5
  clear p0 p1 p2 p3 p4 p5 q0 q1 q2 q3 q4 q5
  go_wp2_with fail
  refine (run_l (m := k2) HE.out.2.2.2.2.2.1 HE.out.2.2.2.2.2.2 HK.out.2.2.1 HK.out.2.2.2 S6.out.1).mono ?_; rintro e w7 ⟨rfl, hX, Wm, hb, hg⟩
  have S7 := Lib.hid (And.intro (hX) (And.intro ((S6.out.2.1.keep hb).grown hg (by omega)) (below_one (below_trans S6.out.2.2 hb) hg (by omega))))
  clear hX hg hb S6
  obtain ⟨p0, p1, p2, p3, p4, p5, q0, q1, q2, q3, q4, q5⟩ := S7.out.2.1.facts
  go_upto_region 8 with (fail)
  clear p0 p1 p2 p3 p4 p5 q0 q1 q2 q3 q4 q5
  have S8 := Lib.hid (And.intro (S7.out.1.other (p := ⟨w.heap.size, 5, none⟩) (by show w.heap.size ≠ w.heap.size + 1; omega) (.string (St pt))) (And.intro (S7.out.2.1.set5 (.string (St pt))) (S7.out.2.2.setCell (p := ⟨w.heap.size, 5, none⟩) (Nat.le_refl _) (.string (St pt)))))
  clear S7
  generalize w7.setCell _ _ = W8 at S8 ⊢
  obtain ⟨p0, p1, p2, p3, p4, p5, q0, q1, q2, q3, q4, q5⟩ := S8.out.2.1.facts
  go_upto_region 8 with (fail)
  clear p0 p1 p2 p3 p4 p5 q0 q1 q2 q3 q4 q5
  have S9 := Lib.hid (And.intro (show Bx 54 W8.drew (w.heap.size + 1) (.string (St l4)) (.int .i64 (k2 : Int)) from S8.out.1.keep (below_dr _ 1)) (And.intro (show B6 37 W8.drew w.heap.size (.bool b) (.bool false) (.string (St wh)) (.string ⟨#[]⟩) (.string ⟨#[]⟩) (.string (St pt)) from S8.out.2.1.keep (below_dr _ 1)) (show Below w.heap.size w W8.drew from below_trans S8.out.2.2 (below_dr _ 1))))
  refine wp_region_held_drew (S := fun W => W.cell? ⟨(w.heap.size + 1), 0, none⟩ = some (.string (St l4)) ∧ W.cell? ⟨(w.heap.size + 1), 1, none⟩ = some (.int .i64 (k2 : Int)) ∧ W.cell? ⟨w.heap.size, 0, none⟩ = some (.bool b) ∧ W.cell? ⟨w.heap.size, 1, none⟩ = some (.bool false) ∧ W.cell? ⟨w.heap.size, 2, none⟩ = some (.string (St wh)) ∧ W.cell? ⟨w.heap.size, 3, none⟩ = some (.string ⟨#[]⟩) ∧ W.cell? ⟨w.heap.size, 4, none⟩ = some (.string ⟨#[]⟩) ∧ W.cell? ⟨w.heap.size, 5, none⟩ = some (.string (St pt))) (by kernel_rfl) ⟨S9.out.1.facts.1, S9.out.1.facts.2.1, S9.out.2.1.facts.1, S9.out.2.1.facts.2.1, S9.out.2.1.facts.2.2.1, S9.out.2.1.facts.2.2.2.1, S9.out.2.1.facts.2.2.2.2.1, S9.out.2.1.facts.2.2.2.2.2.1⟩ (fun hHeld => ?_)
  clear S8
  generalize W8.drew = Wd at S9 hHeld ⊢
  refine rgTake 0 hHeld ?_; try simp only [Act.put, List.setIfInBounds_toArray, List.set_cons_zero, List.set_cons_succ]
  refine rgTake 1 hHeld ?_; try simp only [Act.put, List.setIfInBounds_toArray, List.set_cons_zero, List.set_cons_succ]
  refine rgTake 2 hHeld ?_; try simp only [Act.put, List.setIfInBounds_toArray, List.set_cons_zero, List.set_cons_succ]
  refine rgTake 3 hHeld ?_; try simp only [Act.put, List.setIfInBounds_toArray, List.set_cons_zero, List.set_cons_succ]
  refine rgTake 4 hHeld ?_; try simp only [Act.put, List.setIfInBounds_toArray, List.set_cons_zero, List.set_cons_succ]
  refine rgTake 5 hHeld ?_; try simp only [Act.put, List.setIfInBounds_toArray, List.set_cons_zero, List.set_cons_succ]
  refine rgTake 6 hHeld ?_; try simp only [Act.put, List.setIfInBounds_toArray, List.set_cons_zero, List.set_cons_succ]
  refine rgTake 7 hHeld ?_; try simp only [Act.put, List.setIfInBounds_toArray, List.set_cons_zero, List.set_cons_succ]
  refine rgTake 8 hHeld ?_; try simp only [Act.put, List.setIfInBounds_toArray, List.set_cons_zero, List.set_cons_succ]
  refine rgTake 9 hHeld ?_; try simp only [Act.put, List.setIfInBounds_toArray, List.set_cons_zero, List.set_cons_succ]
  refine rgTake 10 hHeld ?_; try simp only [Act.put, List.setIfInBounds_toArray, List.set_cons_zero, List.set_cons_succ]
  refine rgTake 11 hHeld ?_; try simp only [Act.put, List.setIfInBounds_toArray, List.set_cons_zero, List.set_cons_succ]
  refine rgTake 12 hHeld ?_; try simp only [Act.put, List.setIfInBounds_toArray, List.set_cons_zero, List.set_cons_succ]
  refine rgTake 13 hHeld ?_; try simp only [Act.put, List.setIfInBounds_toArray, List.set_cons_zero, List.set_cons_succ]
  refine rgTake 14 hHeld ?_; try simp only [Act.put, List.setIfInBounds_toArray, List.set_cons_zero, List.set_cons_succ]
  refine rgTake 15 hHeld ?_; try simp only [Act.put, List.setIfInBounds_toArray, List.set_cons_zero, List.set_cons_succ]
  refine rgTake 16 hHeld ?_; try simp only [Act.put, List.setIfInBounds_toArray, List.set_cons_zero, List.set_cons_succ]
  refine rgTake 17 hHeld ?_; try simp only [Act.put, List.setIfInBounds_toArray, List.set_cons_zero, List.set_cons_succ]
  refine rgTake 18 hHeld ?_; try simp only [Act.put, List.setIfInBounds_toArray, List.set_cons_zero, List.set_cons_succ]
  obtain ⟨p0, p1, p2, p3, p4, p5, q0, q1, q2, q3, q4, q5⟩ := S9.out.2.1.facts
  refine rgReady [19] (rgOne (fun K hK => ?_) rgNil)
  go_simp; clear p0 p1 p2 p3 p4 p5 q0 q1 q2 q3 q4 q5
  refine hK.out _ _ ⟨(S9.out.1.other6 (by omega)).facts.1, (S9.out.1.other6 (by omega)).facts.2.1, S9.out.2.1.self.facts.1, S9.out.2.1.self.facts.2.1, S9.out.2.1.self.facts.2.2.1, S9.out.2.1.self.facts.2.2.2.1, S9.out.2.1.self.facts.2.2.2.2.1, S9.out.2.1.self.facts.2.2.2.2.2.1⟩ (fun hHeld => ?_); clear hK K; try simp only [Act.put, List.setIfInBounds_toArray, List.set_cons_zero, List.set_cons_succ]
  refine rgTake 20 hHeld ?_; try simp only [Act.put, List.setIfInBounds_toArray, List.set_cons_zero, List.set_cons_succ]
  refine rgTake 21 hHeld ?_; try simp only [Act.put, List.setIfInBounds_toArray, List.set_cons_zero, List.set_cons_succ]
  refine wpAnyH_done (by kernel_rfl) ?_ _
  clear hHeld
  go_wp2_with fail
  refine ret_b6 S9.out.2.1.self (fun W d0 d1 d2 d3 d4 d5 => by simp [results, Tryd.results9, go_sem, d0, d1, d2, d3, d4, d5]; try rfl) rfl ?_
  exact ⟨rfl, below6 S9.out.2.2 (Nat.le_refl _)⟩
set_option maxRecDepth 100000 in
set_option maxHeartbeats 2000000 in
theorem split_100_102 {w : World} {l l1 l2 l3 l4 l5 l6 l7 wh pt ex : List UInt8} {sb s5 b sm z yb1 yb2 yb3 : Bool} (hM : l.length ≤ 9223372036854775807) (hb : (l.head? == some 45) = b) (c1 : cutC [43, 45] l = (sb, l1)) (d1 : digs l1 = wh) (r1 : rest l1 = l2) (c2 : cutC [47] l2 = (true, l3)) (d2 : digs l3 = pt) (r2 : rest l3 = l4) (b1 : wh.isEmpty = false) (b2 : pt.isEmpty = true) (bz : l4.isEmpty = z) :
    Calls Tryd.prog 9 #[.string (St l)] w fun e w' => e = .returned (.tuple #[.agg #[.bool b, .bool false, .string (St wh), .string (St []), .string (St []), .string (St pt)], .int .i64 ((wh.length + pt.length : Nat) : Int), .bool (false)]) ∧ Below w.heap.size w w' := by
  have n0 := cut_le [43, 45] l
  rw [c1] at n0
  simp only at n0
  have n1 := digs_le l1
  rw [d1, r1] at n1
  have n2 := cut_le [47] l2
  rw [c2] at n2
  simp only at n2
  have n3 := digs_le l3
  rw [d2, r2] at n3
  have mb1 : (St wh).toList.isEmpty = false := by rw [st_nil, b1]
  have mb2 : (St pt).toList.isEmpty = true := by rw [st_nil, b2]
  have mz : (St l4).toList.isEmpty = z := by rw [st_nil, bz]
  have HE := Lib.hid (And.intro hb (And.intro c1 (And.intro d1 (And.intro r1 (And.intro c2 (And.intro d2 (r2)))))))
  obtain ⟨k1, hk1⟩ : ∃ k, wh.length = k := ⟨_, rfl⟩
  obtain ⟨k2, hk2⟩ : ∃ k, wh.length + pt.length = k := ⟨_, rfl⟩
  rw [hk2]
  have HK := Lib.hid (And.intro (show 0 + wh.length = k1 by omega) (And.intro (show 0 + l1.length ≤ 9223372036854775807 by omega) (And.intro (show k1 + pt.length = k2 by omega) ((show k1 + l3.length ≤ 9223372036854775807 by omega)))))
  clear hM hb c1 d1 r1 c2 d2 r2 b1 b2 bz n0 n1 n2 n3 hk1 hk2
  go_enter Tryd.func9, Tryd.ntmps9
  go_upto_region 2 with (fail)
  have hP := (B6.new 37 w (.bool false) (.bool false) (.string ⟨#[]⟩) (.string ⟨#[]⟩) (.string ⟨#[]⟩) (.string ⟨#[]⟩)).alloc (.cells #[.string (St l), .int .i64 0] 54)
  have hX := Bx.new1 54 w (.cells #[.bool false, .bool false, .string ⟨#[]⟩, .string ⟨#[]⟩, .string ⟨#[]⟩, .string ⟨#[]⟩] 37) (.string (St l)) (.int .i64 0)
  have hb := below_trans (below_al w (.cells #[.bool false, .bool false, .string ⟨#[]⟩, .string ⟨#[]⟩, .string ⟨#[]⟩, .string ⟨#[]⟩] 37)) (below_al _ (.cells #[.string (St l), .int .i64 0] 54))
  have S1 := Lib.hid (And.intro (hX) (And.intro (hP) (hb)))
  clear hX hP hb
  generalize (w.alloc _).alloc _ = W1 at S1 ⊢
  obtain ⟨x0, x1, x2, x3⟩ := S1.out.1.facts
  go_wp2_with fail
  refine (prefix_st l _).mono ?_; rintro e W1 ⟨rfl, rfl⟩
  rw [HE.out.1]
  clear x0 x1 x2 x3
  obtain ⟨p0, p1, p2, p3, p4, p5, q0, q1, q2, q3, q4, q5⟩ := S1.out.2.1.facts
  go_upto_region 3 with (fail)
  clear p0 p1 p2 p3 p4 p5 q0 q1 q2 q3 q4 q5
  have S2 := Lib.hid (And.intro (S1.out.1.other (p := ⟨w.heap.size, 0, none⟩) (by show w.heap.size ≠ w.heap.size + 1; omega) (.bool b)) (And.intro (S1.out.2.1.set0 (.bool b)) (S1.out.2.2.setCell (p := ⟨w.heap.size, 0, none⟩) (Nat.le_refl _) (.bool b))))
  clear S1
  generalize W1.setCell _ _ = W2 at S2 ⊢
  obtain ⟨x0, x1, x2, x3⟩ := S2.out.1.facts
  go_wp2_with fail
  refine (take_l HE.out.2.1 S2.out.1).mono ?_; rintro e w3 ⟨rfl, hX, hg⟩
  clear x0 x1 x2 x3
  have S3 := Lib.hid (And.intro (hX) (And.intro (S2.out.2.1.grown hg (by omega)) (below_one S2.out.2.2 hg (by omega))))
  clear hX hg S2
  go_wp2_with fail
  refine (run_l (m := k1) HE.out.2.2.1 HE.out.2.2.2.1 HK.out.1 HK.out.2.1 S3.out.1).mono ?_; rintro e w4 ⟨rfl, hX, Wm, hb, hg⟩
  have S4 := Lib.hid (And.intro (hX) (And.intro ((S3.out.2.1.keep hb).grown hg (by omega)) (below_one (below_trans S3.out.2.2 hb) hg (by omega))))
  clear hX hg hb S3
  obtain ⟨p0, p1, p2, p3, p4, p5, q0, q1, q2, q3, q4, q5⟩ := S4.out.2.1.facts
  go_upto_region 5 with (fail)
  clear p0 p1 p2 p3 p4 p5 q0 q1 q2 q3 q4 q5
  have S5 := Lib.hid (And.intro (S4.out.1.other (p := ⟨w.heap.size, 2, none⟩) (by show w.heap.size ≠ w.heap.size + 1; omega) (.string (St wh))) (And.intro (S4.out.2.1.set2 (.string (St wh))) (S4.out.2.2.setCell (p := ⟨w.heap.size, 2, none⟩) (Nat.le_refl _) (.string (St wh)))))
  clear S4
  generalize w4.setCell _ _ = W5 at S5 ⊢
  obtain ⟨p0, p1, p2, p3, p4, p5, q0, q1, q2, q3, q4, q5⟩ := S5.out.2.1.facts
  obtain ⟨x0, x1, x2, x3⟩ := S5.out.1.facts
  go_wp2_with fail
  refine (take_l HE.out.2.2.2.2.1 S5.out.1).mono ?_; rintro e w6 ⟨rfl, hX, hg⟩
  clear x0 x1 x2 x3
  have S6 := Lib.hid (And.intro (hX) (And.intro (S5.out.2.1.grown hg (by omega)) (below_one S5.out.2.2 hg (by omega))))
  clear hX hg S5
  clear p0 p1 p2 p3 p4 p5 q0 q1 q2 q3 q4 q5
  go_wp2_with fail
  refine (run_l (m := k2) HE.out.2.2.2.2.2.1 HE.out.2.2.2.2.2.2 HK.out.2.2.1 HK.out.2.2.2 S6.out.1).mono ?_; rintro e w7 ⟨rfl, hX, Wm, hb, hg⟩
  have S7 := Lib.hid (And.intro (hX) (And.intro ((S6.out.2.1.keep hb).grown hg (by omega)) (below_one (below_trans S6.out.2.2 hb) hg (by omega))))
  clear hX hg hb S6
  obtain ⟨p0, p1, p2, p3, p4, p5, q0, q1, q2, q3, q4, q5⟩ := S7.out.2.1.facts
  go_upto_region 8 with (fail)
  clear p0 p1 p2 p3 p4 p5 q0 q1 q2 q3 q4 q5
  have S8 := Lib.hid (And.intro (S7.out.1.other (p := ⟨w.heap.size, 5, none⟩) (by show w.heap.size ≠ w.heap.size + 1; omega) (.string (St pt))) (And.intro (S7.out.2.1.set5 (.string (St pt))) (S7.out.2.2.setCell (p := ⟨w.heap.size, 5, none⟩) (Nat.le_refl _) (.string (St pt)))))
  clear S7
  generalize w7.setCell _ _ = W8 at S8 ⊢
  obtain ⟨p0, p1, p2, p3, p4, p5, q0, q1, q2, q3, q4, q5⟩ := S8.out.2.1.facts
  go_upto_region 8 with (fail)
  clear p0 p1 p2 p3 p4 p5 q0 q1 q2 q3 q4 q5
  have S9 := Lib.hid (And.intro (show Bx 54 W8.drew (w.heap.size + 1) (.string (St l4)) (.int .i64 (k2 : Int)) from S8.out.1.keep (below_dr _ 1)) (And.intro (show B6 37 W8.drew w.heap.size (.bool b) (.bool false) (.string (St wh)) (.string ⟨#[]⟩) (.string ⟨#[]⟩) (.string (St pt)) from S8.out.2.1.keep (below_dr _ 1)) (show Below w.heap.size w W8.drew from below_trans S8.out.2.2 (below_dr _ 1))))
  refine wp_region_held_drew (S := fun W => W.cell? ⟨(w.heap.size + 1), 0, none⟩ = some (.string (St l4)) ∧ W.cell? ⟨(w.heap.size + 1), 1, none⟩ = some (.int .i64 (k2 : Int)) ∧ W.cell? ⟨w.heap.size, 0, none⟩ = some (.bool b) ∧ W.cell? ⟨w.heap.size, 1, none⟩ = some (.bool false) ∧ W.cell? ⟨w.heap.size, 2, none⟩ = some (.string (St wh)) ∧ W.cell? ⟨w.heap.size, 3, none⟩ = some (.string ⟨#[]⟩) ∧ W.cell? ⟨w.heap.size, 4, none⟩ = some (.string ⟨#[]⟩) ∧ W.cell? ⟨w.heap.size, 5, none⟩ = some (.string (St pt))) (by kernel_rfl) ⟨S9.out.1.facts.1, S9.out.1.facts.2.1, S9.out.2.1.facts.1, S9.out.2.1.facts.2.1, S9.out.2.1.facts.2.2.1, S9.out.2.1.facts.2.2.2.1, S9.out.2.1.facts.2.2.2.2.1, S9.out.2.1.facts.2.2.2.2.2.1⟩ (fun hHeld => ?_)
  clear S8
  generalize W8.drew = Wd at S9 hHeld ⊢
  refine rgTake 0 hHeld ?_; try simp only [Act.put, List.setIfInBounds_toArray, List.set_cons_zero, List.set_cons_succ]
  refine rgTake 1 hHeld ?_; try simp only [Act.put, List.setIfInBounds_toArray, List.set_cons_zero, List.set_cons_succ]
  refine rgTake 2 hHeld ?_; try simp only [Act.put, List.setIfInBounds_toArray, List.set_cons_zero, List.set_cons_succ]
  refine rgTake 3 hHeld ?_; try simp only [Act.put, List.setIfInBounds_toArray, List.set_cons_zero, List.set_cons_succ]
  refine rgTake 4 hHeld ?_; try simp only [Act.put, List.setIfInBounds_toArray, List.set_cons_zero, List.set_cons_succ]
  refine rgTake 5 hHeld ?_; try simp only [Act.put, List.setIfInBounds_toArray, List.set_cons_zero, List.set_cons_succ]
  refine rgTake 6 hHeld ?_; try simp only [Act.put, List.setIfInBounds_toArray, List.set_cons_zero, List.set_cons_succ]
  refine rgTake 7 hHeld ?_; try simp only [Act.put, List.setIfInBounds_toArray, List.set_cons_zero, List.set_cons_succ]
  refine rgTake 8 hHeld ?_; try simp only [Act.put, List.setIfInBounds_toArray, List.set_cons_zero, List.set_cons_succ]
  refine rgTake 9 hHeld ?_; try simp only [Act.put, List.setIfInBounds_toArray, List.set_cons_zero, List.set_cons_succ]
  refine rgTake 10 hHeld ?_; try simp only [Act.put, List.setIfInBounds_toArray, List.set_cons_zero, List.set_cons_succ]
  refine rgTake 11 hHeld ?_; try simp only [Act.put, List.setIfInBounds_toArray, List.set_cons_zero, List.set_cons_succ]
  refine rgSkip 12 hHeld ?_; try simp only [Act.put, List.setIfInBounds_toArray, List.set_cons_zero, List.set_cons_succ]
  refine rgSkip 13 hHeld ?_; try simp only [Act.put, List.setIfInBounds_toArray, List.set_cons_zero, List.set_cons_succ]
  refine rgSkip 14 hHeld ?_; try simp only [Act.put, List.setIfInBounds_toArray, List.set_cons_zero, List.set_cons_succ]
  refine rgSkip 15 hHeld ?_; try simp only [Act.put, List.setIfInBounds_toArray, List.set_cons_zero, List.set_cons_succ]
  refine rgSkip 16 hHeld ?_; try simp only [Act.put, List.setIfInBounds_toArray, List.set_cons_zero, List.set_cons_succ]
  refine rgSkip 17 hHeld ?_; try simp only [Act.put, List.setIfInBounds_toArray, List.set_cons_zero, List.set_cons_succ]
  refine rgTake 18 hHeld ?_; try simp only [Act.put, List.setIfInBounds_toArray, List.set_cons_zero, List.set_cons_succ]
  obtain ⟨p0, p1, p2, p3, p4, p5, q0, q1, q2, q3, q4, q5⟩ := S9.out.2.1.facts
  refine rgReady [19] (rgOne (fun K hK => ?_) rgNil)
  go_simp; clear p0 p1 p2 p3 p4 p5 q0 q1 q2 q3 q4 q5
  refine hK.out _ _ ⟨(S9.out.1.other6 (by omega)).facts.1, (S9.out.1.other6 (by omega)).facts.2.1, S9.out.2.1.self.facts.1, S9.out.2.1.self.facts.2.1, S9.out.2.1.self.facts.2.2.1, S9.out.2.1.self.facts.2.2.2.1, S9.out.2.1.self.facts.2.2.2.2.1, S9.out.2.1.self.facts.2.2.2.2.2.1⟩ (fun hHeld => ?_); clear hK K; try simp only [Act.put, List.setIfInBounds_toArray, List.set_cons_zero, List.set_cons_succ]
  refine rgTake 20 hHeld ?_; try simp only [Act.put, List.setIfInBounds_toArray, List.set_cons_zero, List.set_cons_succ]
  refine rgTake 21 hHeld ?_; try simp only [Act.put, List.setIfInBounds_toArray, List.set_cons_zero, List.set_cons_succ]
  refine wpAnyH_done (by kernel_rfl) ?_ _
  clear hHeld
  go_wp2_with fail
  refine ret_b6 S9.out.2.1.self (fun W d0 d1 d2 d3 d4 d5 => by simp [results, Tryd.results9, go_sem, d0, d1, d2, d3, d4, d5]; try rfl) rfl ?_
  exact ⟨rfl, below6 S9.out.2.2 (Nat.le_refl _)⟩
set_option maxRecDepth 100000 in
set_option maxHeartbeats 2000000 in
theorem split_100_022 {w : World} {l l1 l2 l3 l4 l5 l6 l7 wh pt ex : List UInt8} {sb s5 b sm z yb1 yb2 yb3 : Bool} (hM : l.length ≤ 9223372036854775807) (hb : (l.head? == some 45) = b) (c1 : cutC [43, 45] l = (sb, l1)) (d1 : digs l1 = wh) (r1 : rest l1 = l2) (c2 : cutC [47] l2 = (true, l3)) (d2 : digs l3 = pt) (r2 : rest l3 = l4) (b1 : wh.isEmpty = true) (b2 : pt.isEmpty = yb2) (bz : l4.isEmpty = z) :
    Calls Tryd.prog 9 #[.string (St l)] w fun e w' => e = .returned (.tuple #[.agg #[.bool b, .bool false, .string (St wh), .string (St []), .string (St []), .string (St pt)], .int .i64 ((wh.length + pt.length : Nat) : Int), .bool (false)]) ∧ Below w.heap.size w w' := by
  have n0 := cut_le [43, 45] l
  rw [c1] at n0
  simp only at n0
  have n1 := digs_le l1
  rw [d1, r1] at n1
  have n2 := cut_le [47] l2
  rw [c2] at n2
  simp only at n2
  have n3 := digs_le l3
  rw [d2, r2] at n3
  have mb1 : (St wh).toList.isEmpty = true := by rw [st_nil, b1]
  have mb2 : (St pt).toList.isEmpty = yb2 := by rw [st_nil, b2]
  have mz : (St l4).toList.isEmpty = z := by rw [st_nil, bz]
  have HE := Lib.hid (And.intro hb (And.intro c1 (And.intro d1 (And.intro r1 (And.intro c2 (And.intro d2 (r2)))))))
  obtain ⟨k1, hk1⟩ : ∃ k, wh.length = k := ⟨_, rfl⟩
  obtain ⟨k2, hk2⟩ : ∃ k, wh.length + pt.length = k := ⟨_, rfl⟩
  rw [hk2]
  have HK := Lib.hid (And.intro (show 0 + wh.length = k1 by omega) (And.intro (show 0 + l1.length ≤ 9223372036854775807 by omega) (And.intro (show k1 + pt.length = k2 by omega) ((show k1 + l3.length ≤ 9223372036854775807 by omega)))))
  clear hM hb c1 d1 r1 c2 d2 r2 b1 b2 bz n0 n1 n2 n3 hk1 hk2
  go_enter Tryd.func9, Tryd.ntmps9
  go_upto_region 2 with (fail)
  have hP := (B6.new 37 w (.bool false) (.bool false) (.string ⟨#[]⟩) (.string ⟨#[]⟩) (.string ⟨#[]⟩) (.string ⟨#[]⟩)).alloc (.cells #[.string (St l), .int .i64 0] 54)
  have hX := Bx.new1 54 w (.cells #[.bool false, .bool false, .string ⟨#[]⟩, .string ⟨#[]⟩, .string ⟨#[]⟩, .string ⟨#[]⟩] 37) (.string (St l)) (.int .i64 0)
  have hb := below_trans (below_al w (.cells #[.bool false, .bool false, .string ⟨#[]⟩, .string ⟨#[]⟩, .string ⟨#[]⟩, .string ⟨#[]⟩] 37)) (below_al _ (.cells #[.string (St l), .int .i64 0] 54))
  have S1 := Lib.hid (And.intro (hX) (And.intro (hP) (hb)))
  clear hX hP hb
  generalize (w.alloc _).alloc _ = W1 at S1 ⊢
  obtain ⟨x0, x1, x2, x3⟩ := S1.out.1.facts
  go_wp2_with fail
  refine (prefix_st l _).mono ?_; rintro e W1 ⟨rfl, rfl⟩
  rw [HE.out.1]
  clear x0 x1 x2 x3
  obtain ⟨p0, p1, p2, p3, p4, p5, q0, q1, q2, q3, q4, q5⟩ := S1.out.2.1.facts
  go_upto_region 3 with (fail)
  clear p0 p1 p2 p3 p4 p5 q0 q1 q2 q3 q4 q5
  have S2 := Lib.hid (And.intro (S1.out.1.other (p := ⟨w.heap.size, 0, none⟩) (by show w.heap.size ≠ w.heap.size + 1; omega) (.bool b)) (And.intro (S1.out.2.1.set0 (.bool b)) (S1.out.2.2.setCell (p := ⟨w.heap.size, 0, none⟩) (Nat.le_refl _) (.bool b))))
  clear S1
  generalize W1.setCell _ _ = W2 at S2 ⊢
  obtain ⟨x0, x1, x2, x3⟩ := S2.out.1.facts
  go_wp2_with fail
  refine (take_l HE.out.2.1 S2.out.1).mono ?_; rintro e w3 ⟨rfl, hX, hg⟩
  clear x0 x1 x2 x3
  have S3 := Lib.hid (And.intro (hX) (And.intro (S2.out.2.1.grown hg (by omega)) (below_one S2.out.2.2 hg (by omega))))
  clear hX hg S2
  go_wp2_with fail
  refine (run_l (m := k1) HE.out.2.2.1 HE.out.2.2.2.1 HK.out.1 HK.out.2.1 S3.out.1).mono ?_; rintro e w4 ⟨rfl, hX, Wm, hb, hg⟩
  have S4 := Lib.hid (And.intro (hX) (And.intro ((S3.out.2.1.keep hb).grown hg (by omega)) (below_one (below_trans S3.out.2.2 hb) hg (by omega))))
  clear hX hg hb S3
  obtain ⟨p0, p1, p2, p3, p4, p5, q0, q1, q2, q3, q4, q5⟩ := S4.out.2.1.facts
  go_upto_region 5 with (fail)
  clear p0 p1 p2 p3 p4 p5 q0 q1 q2 q3 q4 q5
  have S5 := Lib.hid (And.intro (S4.out.1.other (p := ⟨w.heap.size, 2, none⟩) (by show w.heap.size ≠ w.heap.size + 1; omega) (.string (St wh))) (And.intro (S4.out.2.1.set2 (.string (St wh))) (S4.out.2.2.setCell (p := ⟨w.heap.size, 2, none⟩) (Nat.le_refl _) (.string (St wh)))))
  clear S4
  generalize w4.setCell _ _ = W5 at S5 ⊢
  obtain ⟨p0, p1, p2, p3, p4, p5, q0, q1, q2, q3, q4, q5⟩ := S5.out.2.1.facts
  obtain ⟨x0, x1, x2, x3⟩ := S5.out.1.facts
  go_wp2_with fail
  refine (take_l HE.out.2.2.2.2.1 S5.out.1).mono ?_; rintro e w6 ⟨rfl, hX, hg⟩
  clear x0 x1 x2 x3
  have S6 := Lib.hid (And.intro (hX) (And.intro (S5.out.2.1.grown hg (by omega)) (below_one S5.out.2.2 hg (by omega))))
  clear hX hg S5
  clear p0 p1 p2 p3 p4 p5 q0 q1 q2 q3 q4 q5
  go_wp2_with fail
  refine (run_l (m := k2) HE.out.2.2.2.2.2.1 HE.out.2.2.2.2.2.2 HK.out.2.2.1 HK.out.2.2.2 S6.out.1).mono ?_; rintro e w7 ⟨rfl, hX, Wm, hb, hg⟩
  have S7 := Lib.hid (And.intro (hX) (And.intro ((S6.out.2.1.keep hb).grown hg (by omega)) (below_one (below_trans S6.out.2.2 hb) hg (by omega))))
  clear hX hg hb S6
  obtain ⟨p0, p1, p2, p3, p4, p5, q0, q1, q2, q3, q4, q5⟩ := S7.out.2.1.facts
  go_upto_region 8 with (fail)
  clear p0 p1 p2 p3 p4 p5 q0 q1 q2 q3 q4 q5
  have S8 := Lib.hid (And.intro (S7.out.1.other (p := ⟨w.heap.size, 5, none⟩) (by show w.heap.size ≠ w.heap.size + 1; omega) (.string (St pt))) (And.intro (S7.out.2.1.set5 (.string (St pt))) (S7.out.2.2.setCell (p := ⟨w.heap.size, 5, none⟩) (Nat.le_refl _) (.string (St pt)))))
  clear S7
  generalize w7.setCell _ _ = W8 at S8 ⊢
  obtain ⟨p0, p1, p2, p3, p4, p5, q0, q1, q2, q3, q4, q5⟩ := S8.out.2.1.facts
  go_upto_region 8 with (fail)
  clear p0 p1 p2 p3 p4 p5 q0 q1 q2 q3 q4 q5
  have S9 := Lib.hid (And.intro (show Bx 54 W8.drew (w.heap.size + 1) (.string (St l4)) (.int .i64 (k2 : Int)) from S8.out.1.keep (below_dr _ 1)) (And.intro (show B6 37 W8.drew w.heap.size (.bool b) (.bool false) (.string (St wh)) (.string ⟨#[]⟩) (.string ⟨#[]⟩) (.string (St pt)) from S8.out.2.1.keep (below_dr _ 1)) (show Below w.heap.size w W8.drew from below_trans S8.out.2.2 (below_dr _ 1))))
  refine wp_region_held_drew (S := fun W => W.cell? ⟨(w.heap.size + 1), 0, none⟩ = some (.string (St l4)) ∧ W.cell? ⟨(w.heap.size + 1), 1, none⟩ = some (.int .i64 (k2 : Int)) ∧ W.cell? ⟨w.heap.size, 0, none⟩ = some (.bool b) ∧ W.cell? ⟨w.heap.size, 1, none⟩ = some (.bool false) ∧ W.cell? ⟨w.heap.size, 2, none⟩ = some (.string (St wh)) ∧ W.cell? ⟨w.heap.size, 3, none⟩ = some (.string ⟨#[]⟩) ∧ W.cell? ⟨w.heap.size, 4, none⟩ = some (.string ⟨#[]⟩) ∧ W.cell? ⟨w.heap.size, 5, none⟩ = some (.string (St pt))) (by kernel_rfl) ⟨S9.out.1.facts.1, S9.out.1.facts.2.1, S9.out.2.1.facts.1, S9.out.2.1.facts.2.1, S9.out.2.1.facts.2.2.1, S9.out.2.1.facts.2.2.2.1, S9.out.2.1.facts.2.2.2.2.1, S9.out.2.1.facts.2.2.2.2.2.1⟩ (fun hHeld => ?_)
  clear S8
  generalize W8.drew = Wd at S9 hHeld ⊢
  refine rgTake 0 hHeld ?_; try simp only [Act.put, List.setIfInBounds_toArray, List.set_cons_zero, List.set_cons_succ]
  refine rgTake 1 hHeld ?_; try simp only [Act.put, List.setIfInBounds_toArray, List.set_cons_zero, List.set_cons_succ]
  refine rgTake 2 hHeld ?_; try simp only [Act.put, List.setIfInBounds_toArray, List.set_cons_zero, List.set_cons_succ]
  refine rgTake 3 hHeld ?_; try simp only [Act.put, List.setIfInBounds_toArray, List.set_cons_zero, List.set_cons_succ]
  refine rgTake 4 hHeld ?_; try simp only [Act.put, List.setIfInBounds_toArray, List.set_cons_zero, List.set_cons_succ]
  refine rgTake 5 hHeld ?_; try simp only [Act.put, List.setIfInBounds_toArray, List.set_cons_zero, List.set_cons_succ]
  refine rgTake 6 hHeld ?_; try simp only [Act.put, List.setIfInBounds_toArray, List.set_cons_zero, List.set_cons_succ]
  refine rgSkip 7 hHeld ?_; try simp only [Act.put, List.setIfInBounds_toArray, List.set_cons_zero, List.set_cons_succ]
  refine rgSkip 8 hHeld ?_; try simp only [Act.put, List.setIfInBounds_toArray, List.set_cons_zero, List.set_cons_succ]
  refine rgSkip 9 hHeld ?_; try simp only [Act.put, List.setIfInBounds_toArray, List.set_cons_zero, List.set_cons_succ]
  refine rgTake 10 hHeld ?_; try simp only [Act.put, List.setIfInBounds_toArray, List.set_cons_zero, List.set_cons_succ]
  refine rgTake 11 hHeld ?_; try simp only [Act.put, List.setIfInBounds_toArray, List.set_cons_zero, List.set_cons_succ]
  refine rgSkip 12 hHeld ?_; try simp only [Act.put, List.setIfInBounds_toArray, List.set_cons_zero, List.set_cons_succ]
  refine rgSkip 13 hHeld ?_; try simp only [Act.put, List.setIfInBounds_toArray, List.set_cons_zero, List.set_cons_succ]
  refine rgSkip 14 hHeld ?_; try simp only [Act.put, List.setIfInBounds_toArray, List.set_cons_zero, List.set_cons_succ]
  refine rgSkip 15 hHeld ?_; try simp only [Act.put, List.setIfInBounds_toArray, List.set_cons_zero, List.set_cons_succ]
  refine rgSkip 16 hHeld ?_; try simp only [Act.put, List.setIfInBounds_toArray, List.set_cons_zero, List.set_cons_succ]
  refine rgSkip 17 hHeld ?_; try simp only [Act.put, List.setIfInBounds_toArray, List.set_cons_zero, List.set_cons_succ]
  refine rgTake 18 hHeld ?_; try simp only [Act.put, List.setIfInBounds_toArray, List.set_cons_zero, List.set_cons_succ]
  obtain ⟨p0, p1, p2, p3, p4, p5, q0, q1, q2, q3, q4, q5⟩ := S9.out.2.1.facts
  refine rgReady [19] (rgOne (fun K hK => ?_) rgNil)
  go_simp; clear p0 p1 p2 p3 p4 p5 q0 q1 q2 q3 q4 q5
  refine hK.out _ _ ⟨(S9.out.1.other6 (by omega)).facts.1, (S9.out.1.other6 (by omega)).facts.2.1, S9.out.2.1.self.facts.1, S9.out.2.1.self.facts.2.1, S9.out.2.1.self.facts.2.2.1, S9.out.2.1.self.facts.2.2.2.1, S9.out.2.1.self.facts.2.2.2.2.1, S9.out.2.1.self.facts.2.2.2.2.2.1⟩ (fun hHeld => ?_); clear hK K; try simp only [Act.put, List.setIfInBounds_toArray, List.set_cons_zero, List.set_cons_succ]
  refine rgTake 20 hHeld ?_; try simp only [Act.put, List.setIfInBounds_toArray, List.set_cons_zero, List.set_cons_succ]
  refine rgTake 21 hHeld ?_; try simp only [Act.put, List.setIfInBounds_toArray, List.set_cons_zero, List.set_cons_succ]
  refine wpAnyH_done (by kernel_rfl) ?_ _
  clear hHeld
  go_wp2_with fail
  refine ret_b6 S9.out.2.1.self (fun W d0 d1 d2 d3 d4 d5 => by simp [results, Tryd.results9, go_sem, d0, d1, d2, d3, d4, d5]; try rfl) rfl ?_
  exact ⟨rfl, below6 S9.out.2.2 (Nat.le_refl _)⟩
set_option maxRecDepth 100000 in
set_option maxHeartbeats 2000000 in
theorem split_000_122 {w : World} {l l1 l2 l3 l4 l5 l6 l7 wh pt ex : List UInt8} {sb s5 b sm z yb1 yb2 yb3 : Bool} (hM : l.length ≤ 9223372036854775807) (hb : (l.head? == some 45) = b) (c1 : cutC [43, 45] l = (sb, l1)) (d1 : digs l1 = wh) (r1 : rest l1 = l2) (c2 : cutC [47] l2 = (false, l2)) (c3 : cutC [46] l2 = (false, l2)) (c4 : cutC [101, 69] l2 = (false, l2)) (b1 : wh.isEmpty = false) (bz : l2.isEmpty = z) :
    Calls Tryd.prog 9 #[.string (St l)] w fun e w' => e = .returned (.tuple #[.agg #[.bool b, .bool false, .string (St wh), .string (St []), .string (St []), .string (St [])], .int .i64 ((wh.length : Nat) : Int), .bool (z)]) ∧ Below w.heap.size w w' := by
  have n0 := cut_le [43, 45] l
  rw [c1] at n0
  simp only at n0
  have n1 := digs_le l1
  rw [d1, r1] at n1
  have mb1 : (St wh).toList.isEmpty = false := by rw [st_nil, b1]
  have mz : (St l2).toList.isEmpty = z := by rw [st_nil, bz]
  have HE := Lib.hid (And.intro hb (And.intro c1 (And.intro d1 (And.intro r1 (And.intro c2 (And.intro c3 (c4)))))))
  obtain ⟨k1, hk1⟩ : ∃ k, wh.length = k := ⟨_, rfl⟩
  rw [hk1]
  have HK := Lib.hid (And.intro (show 0 + wh.length = k1 by omega) ((show 0 + l1.length ≤ 9223372036854775807 by omega)))
  clear hM hb c1 d1 r1 c2 c3 c4 b1 bz n0 n1 hk1
  go_enter Tryd.func9, Tryd.ntmps9
  go_upto_region 2 with (fail)
  have hP := (B6.new 37 w (.bool false) (.bool false) (.string ⟨#[]⟩) (.string ⟨#[]⟩) (.string ⟨#[]⟩) (.string ⟨#[]⟩)).alloc (.cells #[.string (St l), .int .i64 0] 54)
  have hX := Bx.new1 54 w (.cells #[.bool false, .bool false, .string ⟨#[]⟩, .string ⟨#[]⟩, .string ⟨#[]⟩, .string ⟨#[]⟩] 37) (.string (St l)) (.int .i64 0)
  have hb := below_trans (below_al w (.cells #[.bool false, .bool false, .string ⟨#[]⟩, .string ⟨#[]⟩, .string ⟨#[]⟩, .string ⟨#[]⟩] 37)) (below_al _ (.cells #[.string (St l), .int .i64 0] 54))
  have S1 := Lib.hid (And.intro (hX) (And.intro (hP) (hb)))
  clear hX hP hb
  generalize (w.alloc _).alloc _ = W1 at S1 ⊢
  obtain ⟨x0, x1, x2, x3⟩ := S1.out.1.facts
  go_wp2_with fail
  refine (prefix_st l _).mono ?_; rintro e W1 ⟨rfl, rfl⟩
  rw [HE.out.1]
  clear x0 x1 x2 x3
  obtain ⟨p0, p1, p2, p3, p4, p5, q0, q1, q2, q3, q4, q5⟩ := S1.out.2.1.facts
  go_upto_region 3 with (fail)
  clear p0 p1 p2 p3 p4 p5 q0 q1 q2 q3 q4 q5
  have S2 := Lib.hid (And.intro (S1.out.1.other (p := ⟨w.heap.size, 0, none⟩) (by show w.heap.size ≠ w.heap.size + 1; omega) (.bool b)) (And.intro (S1.out.2.1.set0 (.bool b)) (S1.out.2.2.setCell (p := ⟨w.heap.size, 0, none⟩) (Nat.le_refl _) (.bool b))))
  clear S1
  generalize W1.setCell _ _ = W2 at S2 ⊢
  obtain ⟨x0, x1, x2, x3⟩ := S2.out.1.facts
  go_wp2_with fail
  refine (take_l HE.out.2.1 S2.out.1).mono ?_; rintro e w3 ⟨rfl, hX, hg⟩
  clear x0 x1 x2 x3
  have S3 := Lib.hid (And.intro (hX) (And.intro (S2.out.2.1.grown hg (by omega)) (below_one S2.out.2.2 hg (by omega))))
  clear hX hg S2
  go_wp2_with fail
  refine (run_l (m := k1) HE.out.2.2.1 HE.out.2.2.2.1 HK.out.1 HK.out.2 S3.out.1).mono ?_; rintro e w4 ⟨rfl, hX, Wm, hb, hg⟩
  have S4 := Lib.hid (And.intro (hX) (And.intro ((S3.out.2.1.keep hb).grown hg (by omega)) (below_one (below_trans S3.out.2.2 hb) hg (by omega))))
  clear hX hg hb S3
  obtain ⟨p0, p1, p2, p3, p4, p5, q0, q1, q2, q3, q4, q5⟩ := S4.out.2.1.facts
  go_upto_region 5 with (fail)
  clear p0 p1 p2 p3 p4 p5 q0 q1 q2 q3 q4 q5
  have S5 := Lib.hid (And.intro (S4.out.1.other (p := ⟨w.heap.size, 2, none⟩) (by show w.heap.size ≠ w.heap.size + 1; omega) (.string (St wh))) (And.intro (S4.out.2.1.set2 (.string (St wh))) (S4.out.2.2.setCell (p := ⟨w.heap.size, 2, none⟩) (Nat.le_refl _) (.string (St wh)))))
  clear S4
  generalize w4.setCell _ _ = W5 at S5 ⊢
  obtain ⟨p0, p1, p2, p3, p4, p5, q0, q1, q2, q3, q4, q5⟩ := S5.out.2.1.facts
  obtain ⟨x0, x1, x2, x3⟩ := S5.out.1.facts
  go_wp2_with fail
  refine (take_l HE.out.2.2.2.2.1 S5.out.1).mono ?_; rintro e w6 ⟨rfl, hX, hg⟩
  clear x0 x1 x2 x3
  have S6 := Lib.hid (And.intro (hX) (And.intro (S5.out.2.1.grown hg (by omega)) (below_one S5.out.2.2 hg (by omega))))
  clear hX hg S5
  clear p0 p1 p2 p3 p4 p5 q0 q1 q2 q3 q4 q5
  obtain ⟨x0, x1, x2, x3⟩ := S6.out.1.facts
  go_wp2_with fail
  refine (take_l HE.out.2.2.2.2.2.1 S6.out.1).mono ?_; rintro e w7 ⟨rfl, hX, hg⟩
  clear x0 x1 x2 x3
  have S7 := Lib.hid (And.intro (hX) (And.intro (S6.out.2.1.grown hg (by omega)) (below_one S6.out.2.2 hg (by omega))))
  clear hX hg S6
  obtain ⟨x0, x1, x2, x3⟩ := S7.out.1.facts
  go_wp2_with fail
  refine (take_l HE.out.2.2.2.2.2.2 S7.out.1).mono ?_; rintro e w8 ⟨rfl, hX, hg⟩
  clear x0 x1 x2 x3
  have S8 := Lib.hid (And.intro (hX) (And.intro (S7.out.2.1.grown hg (by omega)) (below_one S7.out.2.2 hg (by omega))))
  clear hX hg S7
  obtain ⟨p0, p1, p2, p3, p4, p5, q0, q1, q2, q3, q4, q5⟩ := S8.out.2.1.facts
  go_upto_region 17 with (fail)
  clear p0 p1 p2 p3 p4 p5 q0 q1 q2 q3 q4 q5
  have S9 := Lib.hid (And.intro (show Bx 54 w8.drew (w.heap.size + 1) (.string (St l2)) (.int .i64 (k1 : Int)) from S8.out.1.keep (below_dr _ 1)) (And.intro (show B6 37 w8.drew w.heap.size (.bool b) (.bool false) (.string (St wh)) (.string ⟨#[]⟩) (.string ⟨#[]⟩) (.string ⟨#[]⟩) from S8.out.2.1.keep (below_dr _ 1)) (show Below w.heap.size w w8.drew from below_trans S8.out.2.2 (below_dr _ 1))))
  refine wp_region_held_drew (S := fun W => W.cell? ⟨(w.heap.size + 1), 0, none⟩ = some (.string (St l2)) ∧ W.cell? ⟨(w.heap.size + 1), 1, none⟩ = some (.int .i64 (k1 : Int)) ∧ W.cell? ⟨w.heap.size, 0, none⟩ = some (.bool b) ∧ W.cell? ⟨w.heap.size, 1, none⟩ = some (.bool false) ∧ W.cell? ⟨w.heap.size, 2, none⟩ = some (.string (St wh)) ∧ W.cell? ⟨w.heap.size, 3, none⟩ = some (.string ⟨#[]⟩) ∧ W.cell? ⟨w.heap.size, 4, none⟩ = some (.string ⟨#[]⟩) ∧ W.cell? ⟨w.heap.size, 5, none⟩ = some (.string ⟨#[]⟩)) (by kernel_rfl) ⟨S9.out.1.facts.1, S9.out.1.facts.2.1, S9.out.2.1.facts.1, S9.out.2.1.facts.2.1, S9.out.2.1.facts.2.2.1, S9.out.2.1.facts.2.2.2.1, S9.out.2.1.facts.2.2.2.2.1, S9.out.2.1.facts.2.2.2.2.2.1⟩ (fun hHeld => ?_)
  clear S8
  generalize w8.drew = Wd at S9 hHeld ⊢
  refine rgTake 0 hHeld ?_; try simp only [Act.put, List.setIfInBounds_toArray, List.set_cons_zero, List.set_cons_succ]
  refine rgTake 1 hHeld ?_; try simp only [Act.put, List.setIfInBounds_toArray, List.set_cons_zero, List.set_cons_succ]
  refine rgTake 2 hHeld ?_; try simp only [Act.put, List.setIfInBounds_toArray, List.set_cons_zero, List.set_cons_succ]
  refine rgTake 3 hHeld ?_; try simp only [Act.put, List.setIfInBounds_toArray, List.set_cons_zero, List.set_cons_succ]
  refine rgTake 4 hHeld ?_; try simp only [Act.put, List.setIfInBounds_toArray, List.set_cons_zero, List.set_cons_succ]
  refine rgTake 5 hHeld ?_; try simp only [Act.put, List.setIfInBounds_toArray, List.set_cons_zero, List.set_cons_succ]
  refine rgTake 6 hHeld ?_; try simp only [Act.put, List.setIfInBounds_toArray, List.set_cons_zero, List.set_cons_succ]
  refine rgTake 7 hHeld ?_; try simp only [Act.put, List.setIfInBounds_toArray, List.set_cons_zero, List.set_cons_succ]
  refine rgTake 8 hHeld ?_; try simp only [Act.put, List.setIfInBounds_toArray, List.set_cons_zero, List.set_cons_succ]
  refine rgTake 9 hHeld ?_; try simp only [Act.put, List.setIfInBounds_toArray, List.set_cons_zero, List.set_cons_succ]
  refine rgTake 10 hHeld ?_; try simp only [Act.put, List.setIfInBounds_toArray, List.set_cons_zero, List.set_cons_succ]
  refine rgTake 11 hHeld ?_; try simp only [Act.put, List.setIfInBounds_toArray, List.set_cons_zero, List.set_cons_succ]
  refine rgTake 12 hHeld ?_; try simp only [Act.put, List.setIfInBounds_toArray, List.set_cons_zero, List.set_cons_succ]
  refine rgTake 13 hHeld ?_; try simp only [Act.put, List.setIfInBounds_toArray, List.set_cons_zero, List.set_cons_succ]
  obtain ⟨p0, p1, p2, p3, p4, p5, q0, q1, q2, q3, q4, q5⟩ := S9.out.2.1.facts
  refine rgReady [14] (rgOne (fun K hK => ?_) rgNil)
  go_simp; clear p0 p1 p2 p3 p4 p5 q0 q1 q2 q3 q4 q5
  refine hK.out _ _ ⟨(S9.out.1.other6 (by omega)).facts.1, (S9.out.1.other6 (by omega)).facts.2.1, S9.out.2.1.self.facts.1, S9.out.2.1.self.facts.2.1, S9.out.2.1.self.facts.2.2.1, S9.out.2.1.self.facts.2.2.2.1, S9.out.2.1.self.facts.2.2.2.2.1, S9.out.2.1.self.facts.2.2.2.2.2.1⟩ (fun hHeld => ?_); clear hK K; try simp only [Act.put, List.setIfInBounds_toArray, List.set_cons_zero, List.set_cons_succ]
  refine rgTake 15 hHeld ?_; try simp only [Act.put, List.setIfInBounds_toArray, List.set_cons_zero, List.set_cons_succ]
  refine rgTake 16 hHeld ?_; try simp only [Act.put, List.setIfInBounds_toArray, List.set_cons_zero, List.set_cons_succ]
  refine wpAnyH_done (by kernel_rfl) ?_ _
  clear hHeld
  go_wp2_with fail
  refine ret_b6 S9.out.2.1.self (fun W d0 d1 d2 d3 d4 d5 => by simp [results, Tryd.results9, go_sem, d0, d1, d2, d3, d4, d5]; try rfl) rfl ?_
  exact ⟨rfl, below6 S9.out.2.2 (Nat.le_refl _)⟩
set_option maxRecDepth 100000 in
set_option maxHeartbeats 2000000 in
theorem split_000_022 {w : World} {l l1 l2 l3 l4 l5 l6 l7 wh pt ex : List UInt8} {sb s5 b sm z yb1 yb2 yb3 : Bool} (hM : l.length ≤ 9223372036854775807) (hb : (l.head? == some 45) = b) (c1 : cutC [43, 45] l = (sb, l1)) (d1 : digs l1 = wh) (r1 : rest l1 = l2) (c2 : cutC [47] l2 = (false, l2)) (c3 : cutC [46] l2 = (false, l2)) (c4 : cutC [101, 69] l2 = (false, l2)) (b1 : wh.isEmpty = true) (bz : l2.isEmpty = z) :
    Calls Tryd.prog 9 #[.string (St l)] w fun e w' => e = .returned (.tuple #[.agg #[.bool b, .bool false, .string (St wh), .string (St []), .string (St []), .string (St [])], .int .i64 ((wh.length : Nat) : Int), .bool (false)]) ∧ Below w.heap.size w w' := by
  have n0 := cut_le [43, 45] l
  rw [c1] at n0
  simp only at n0
  have n1 := digs_le l1
  rw [d1, r1] at n1
  have mb1 : (St wh).toList.isEmpty = true := by rw [st_nil, b1]
  have mz : (St l2).toList.isEmpty = z := by rw [st_nil, bz]
  have HE := Lib.hid (And.intro hb (And.intro c1 (And.intro d1 (And.intro r1 (And.intro c2 (And.intro c3 (c4)))))))
  obtain ⟨k1, hk1⟩ : ∃ k, wh.length = k := ⟨_, rfl⟩
  rw [hk1]
  have HK := Lib.hid (And.intro (show 0 + wh.length = k1 by omega) ((show 0 + l1.length ≤ 9223372036854775807 by omega)))
  clear hM hb c1 d1 r1 c2 c3 c4 b1 bz n0 n1 hk1
  go_enter Tryd.func9, Tryd.ntmps9
  go_upto_region 2 with (fail)
  have hP := (B6.new 37 w (.bool false) (.bool false) (.string ⟨#[]⟩) (.string ⟨#[]⟩) (.string ⟨#[]⟩) (.string ⟨#[]⟩)).alloc (.cells #[.string (St l), .int .i64 0] 54)
  have hX := Bx.new1 54 w (.cells #[.bool false, .bool false, .string ⟨#[]⟩, .string ⟨#[]⟩, .string ⟨#[]⟩, .string ⟨#[]⟩] 37) (.string (St l)) (.int .i64 0)
  have hb := below_trans (below_al w (.cells #[.bool false, .bool false, .string ⟨#[]⟩, .string ⟨#[]⟩, .string ⟨#[]⟩, .string ⟨#[]⟩] 37)) (below_al _ (.cells #[.string (St l), .int .i64 0] 54))
  have S1 := Lib.hid (And.intro (hX) (And.intro (hP) (hb)))
  clear hX hP hb
  generalize (w.alloc _).alloc _ = W1 at S1 ⊢
  obtain ⟨x0, x1, x2, x3⟩ := S1.out.1.facts
  go_wp2_with fail
  refine (prefix_st l _).mono ?_; rintro e W1 ⟨rfl, rfl⟩
  rw [HE.out.1]
  clear x0 x1 x2 x3
  obtain ⟨p0, p1, p2, p3, p4, p5, q0, q1, q2, q3, q4, q5⟩ := S1.out.2.1.facts
  go_upto_region 3 with (fail)
  clear p0 p1 p2 p3 p4 p5 q0 q1 q2 q3 q4 q5
  have S2 := Lib.hid (And.intro (S1.out.1.other (p := ⟨w.heap.size, 0, none⟩) (by show w.heap.size ≠ w.heap.size + 1; omega) (.bool b)) (And.intro (S1.out.2.1.set0 (.bool b)) (S1.out.2.2.setCell (p := ⟨w.heap.size, 0, none⟩) (Nat.le_refl _) (.bool b))))
  clear S1
  generalize W1.setCell _ _ = W2 at S2 ⊢
  obtain ⟨x0, x1, x2, x3⟩ := S2.out.1.facts
  go_wp2_with fail
  refine (take_l HE.out.2.1 S2.out.1).mono ?_; rintro e w3 ⟨rfl, hX, hg⟩
  clear x0 x1 x2 x3
  have S3 := Lib.hid (And.intro (hX) (And.intro (S2.out.2.1.grown hg (by omega)) (below_one S2.out.2.2 hg (by omega))))
  clear hX hg S2
  go_wp2_with fail
  refine (run_l (m := k1) HE.out.2.2.1 HE.out.2.2.2.1 HK.out.1 HK.out.2 S3.out.1).mono ?_; rintro e w4 ⟨rfl, hX, Wm, hb, hg⟩
  have S4 := Lib.hid (And.intro (hX) (And.intro ((S3.out.2.1.keep hb).grown hg (by omega)) (below_one (below_trans S3.out.2.2 hb) hg (by omega))))
  clear hX hg hb S3
  obtain ⟨p0, p1, p2, p3, p4, p5, q0, q1, q2, q3, q4, q5⟩ := S4.out.2.1.facts
  go_upto_region 5 with (fail)
  clear p0 p1 p2 p3 p4 p5 q0 q1 q2 q3 q4 q5
  have S5 := Lib.hid (And.intro (S4.out.1.other (p := ⟨w.heap.size, 2, none⟩) (by show w.heap.size ≠ w.heap.size + 1; omega) (.string (St wh))) (And.intro (S4.out.2.1.set2 (.string (St wh))) (S4.out.2.2.setCell (p := ⟨w.heap.size, 2, none⟩) (Nat.le_refl _) (.string (St wh)))))
  clear S4
  generalize w4.setCell _ _ = W5 at S5 ⊢
  obtain ⟨p0, p1, p2, p3, p4, p5, q0, q1, q2, q3, q4, q5⟩ := S5.out.2.1.facts
  obtain ⟨x0, x1, x2, x3⟩ := S5.out.1.facts
  go_wp2_with fail
  refine (take_l HE.out.2.2.2.2.1 S5.out.1).mono ?_; rintro e w6 ⟨rfl, hX, hg⟩
  clear x0 x1 x2 x3
  have S6 := Lib.hid (And.intro (hX) (And.intro (S5.out.2.1.grown hg (by omega)) (below_one S5.out.2.2 hg (by omega))))
  clear hX hg S5
  clear p0 p1 p2 p3 p4 p5 q0 q1 q2 q3 q4 q5
  obtain ⟨x0, x1, x2, x3⟩ := S6.out.1.facts
  go_wp2_with fail
  refine (take_l HE.out.2.2.2.2.2.1 S6.out.1).mono ?_; rintro e w7 ⟨rfl, hX, hg⟩
  clear x0 x1 x2 x3
  have S7 := Lib.hid (And.intro (hX) (And.intro (S6.out.2.1.grown hg (by omega)) (below_one S6.out.2.2 hg (by omega))))
  clear hX hg S6
  obtain ⟨x0, x1, x2, x3⟩ := S7.out.1.facts
  go_wp2_with fail
  refine (take_l HE.out.2.2.2.2.2.2 S7.out.1).mono ?_; rintro e w8 ⟨rfl, hX, hg⟩
  clear x0 x1 x2 x3
  have S8 := Lib.hid (And.intro (hX) (And.intro (S7.out.2.1.grown hg (by omega)) (below_one S7.out.2.2 hg (by omega))))
  clear hX hg S7
  obtain ⟨p0, p1, p2, p3, p4, p5, q0, q1, q2, q3, q4, q5⟩ := S8.out.2.1.facts
  go_upto_region 17 with (fail)
  clear p0 p1 p2 p3 p4 p5 q0 q1 q2 q3 q4 q5
  have S9 := Lib.hid (And.intro (show Bx 54 w8.drew (w.heap.size + 1) (.string (St l2)) (.int .i64 (k1 : Int)) from S8.out.1.keep (below_dr _ 1)) (And.intro (show B6 37 w8.drew w.heap.size (.bool b) (.bool false) (.string (St wh)) (.string ⟨#[]⟩) (.string ⟨#[]⟩) (.string ⟨#[]⟩) from S8.out.2.1.keep (below_dr _ 1)) (show Below w.heap.size w w8.drew from below_trans S8.out.2.2 (below_dr _ 1))))
  refine wp_region_held_drew (S := fun W => W.cell? ⟨(w.heap.size + 1), 0, none⟩ = some (.string (St l2)) ∧ W.cell? ⟨(w.heap.size + 1), 1, none⟩ = some (.int .i64 (k1 : Int)) ∧ W.cell? ⟨w.heap.size, 0, none⟩ = some (.bool b) ∧ W.cell? ⟨w.heap.size, 1, none⟩ = some (.bool false) ∧ W.cell? ⟨w.heap.size, 2, none⟩ = some (.string (St wh)) ∧ W.cell? ⟨w.heap.size, 3, none⟩ = some (.string ⟨#[]⟩) ∧ W.cell? ⟨w.heap.size, 4, none⟩ = some (.string ⟨#[]⟩) ∧ W.cell? ⟨w.heap.size, 5, none⟩ = some (.string ⟨#[]⟩)) (by kernel_rfl) ⟨S9.out.1.facts.1, S9.out.1.facts.2.1, S9.out.2.1.facts.1, S9.out.2.1.facts.2.1, S9.out.2.1.facts.2.2.1, S9.out.2.1.facts.2.2.2.1, S9.out.2.1.facts.2.2.2.2.1, S9.out.2.1.facts.2.2.2.2.2.1⟩ (fun hHeld => ?_)
  clear S8
  generalize w8.drew = Wd at S9 hHeld ⊢
  refine rgTake 0 hHeld ?_; try simp only [Act.put, List.setIfInBounds_toArray, List.set_cons_zero, List.set_cons_succ]
  refine rgTake 1 hHeld ?_; try simp only [Act.put, List.setIfInBounds_toArray, List.set_cons_zero, List.set_cons_succ]
  refine rgTake 2 hHeld ?_; try simp only [Act.put, List.setIfInBounds_toArray, List.set_cons_zero, List.set_cons_succ]
  refine rgTake 3 hHeld ?_; try simp only [Act.put, List.setIfInBounds_toArray, List.set_cons_zero, List.set_cons_succ]
  refine rgTake 4 hHeld ?_; try simp only [Act.put, List.setIfInBounds_toArray, List.set_cons_zero, List.set_cons_succ]
  refine rgTake 5 hHeld ?_; try simp only [Act.put, List.setIfInBounds_toArray, List.set_cons_zero, List.set_cons_succ]
  refine rgTake 6 hHeld ?_; try simp only [Act.put, List.setIfInBounds_toArray, List.set_cons_zero, List.set_cons_succ]
  refine rgSkip 7 hHeld ?_; try simp only [Act.put, List.setIfInBounds_toArray, List.set_cons_zero, List.set_cons_succ]
  refine rgSkip 8 hHeld ?_; try simp only [Act.put, List.setIfInBounds_toArray, List.set_cons_zero, List.set_cons_succ]
  refine rgSkip 9 hHeld ?_; try simp only [Act.put, List.setIfInBounds_toArray, List.set_cons_zero, List.set_cons_succ]
  refine rgSkip 10 hHeld ?_; try simp only [Act.put, List.setIfInBounds_toArray, List.set_cons_zero, List.set_cons_succ]
  refine rgSkip 11 hHeld ?_; try simp only [Act.put, List.setIfInBounds_toArray, List.set_cons_zero, List.set_cons_succ]
  refine rgSkip 12 hHeld ?_; try simp only [Act.put, List.setIfInBounds_toArray, List.set_cons_zero, List.set_cons_succ]
  refine rgTake 13 hHeld ?_; try simp only [Act.put, List.setIfInBounds_toArray, List.set_cons_zero, List.set_cons_succ]
  obtain ⟨p0, p1, p2, p3, p4, p5, q0, q1, q2, q3, q4, q5⟩ := S9.out.2.1.facts
  refine rgReady [14] (rgOne (fun K hK => ?_) rgNil)
  go_simp; clear p0 p1 p2 p3 p4 p5 q0 q1 q2 q3 q4 q5
  refine hK.out _ _ ⟨(S9.out.1.other6 (by omega)).facts.1, (S9.out.1.other6 (by omega)).facts.2.1, S9.out.2.1.self.facts.1, S9.out.2.1.self.facts.2.1, S9.out.2.1.self.facts.2.2.1, S9.out.2.1.self.facts.2.2.2.1, S9.out.2.1.self.facts.2.2.2.2.1, S9.out.2.1.self.facts.2.2.2.2.2.1⟩ (fun hHeld => ?_); clear hK K; try simp only [Act.put, List.setIfInBounds_toArray, List.set_cons_zero, List.set_cons_succ]
  refine rgTake 15 hHeld ?_; try simp only [Act.put, List.setIfInBounds_toArray, List.set_cons_zero, List.set_cons_succ]
  refine rgTake 16 hHeld ?_; try simp only [Act.put, List.setIfInBounds_toArray, List.set_cons_zero, List.set_cons_succ]
  refine wpAnyH_done (by kernel_rfl) ?_ _
  clear hHeld
  go_wp2_with fail
  refine ret_b6 S9.out.2.1.self (fun W d0 d1 d2 d3 d4 d5 => by simp [results, Tryd.results9, go_sem, d0, d1, d2, d3, d4, d5]; try rfl) rfl ?_
  exact ⟨rfl, below6 S9.out.2.2 (Nat.le_refl _)⟩
set_option maxRecDepth 100000 in
set_option maxHeartbeats 2000000 in
theorem split_001_121 {w : World} {l l1 l2 l3 l4 l5 l6 l7 wh pt ex : List UInt8} {sb s5 b sm z yb1 yb2 yb3 : Bool} (hM : l.length ≤ 9223372036854775807) (hb : (l.head? == some 45) = b) (c1 : cutC [43, 45] l = (sb, l1)) (d1 : digs l1 = wh) (r1 : rest l1 = l2) (c2 : cutC [47] l2 = (false, l2)) (c3 : cutC [46] l2 = (false, l2)) (c4 : cutC [101, 69] l2 = (true, l5)) (hs : (l5.head? == some 45) = sm) (c5 : cutC [43, 45] l5 = (s5, l6)) (d5 : digs l6 = ex) (r5 : rest l6 = l7) (b1 : wh.isEmpty = false) (b3 : ex.isEmpty = false) (bz : l7.isEmpty = z) :
    Calls Tryd.prog 9 #[.string (St l)] w fun e w' => e = .returned (.tuple #[.agg #[.bool b, .bool sm, .string (St wh), .string (St []), .string (St ex), .string (St [])], .int .i64 ((wh.length + ex.length : Nat) : Int), .bool (z)]) ∧ Below w.heap.size w w' := by
  have n0 := cut_le [43, 45] l
  rw [c1] at n0
  simp only at n0
  have n1 := digs_le l1
  rw [d1, r1] at n1
  have n2 := cut_le [101, 69] l2
  rw [c4] at n2
  simp only at n2
  have n3 := cut_le [43, 45] l5
  rw [c5] at n3
  simp only at n3
  have n4 := digs_le l6
  rw [d5, r5] at n4
  have mb1 : (St wh).toList.isEmpty = false := by rw [st_nil, b1]
  have mb3 : (St ex).toList.isEmpty = false := by rw [st_nil, b3]
  have mz : (St l7).toList.isEmpty = z := by rw [st_nil, bz]
  have HE := Lib.hid (And.intro hb (And.intro c1 (And.intro d1 (And.intro r1 (And.intro c2 (And.intro c3 (And.intro c4 (And.intro hs (And.intro c5 (And.intro d5 (r5)))))))))))
  obtain ⟨k1, hk1⟩ : ∃ k, wh.length = k := ⟨_, rfl⟩
  obtain ⟨k2, hk2⟩ : ∃ k, wh.length + ex.length = k := ⟨_, rfl⟩
  rw [hk2]
  have HK := Lib.hid (And.intro (show 0 + wh.length = k1 by omega) (And.intro (show 0 + l1.length ≤ 9223372036854775807 by omega) (And.intro (show k1 + ex.length = k2 by omega) ((show k1 + l6.length ≤ 9223372036854775807 by omega)))))
  clear hM hb c1 d1 r1 c2 c3 c4 hs c5 d5 r5 b1 b3 bz n0 n1 n2 n3 n4 hk1 hk2
  go_enter Tryd.func9, Tryd.ntmps9
  go_upto_region 2 with (fail)
  have hP := (B6.new 37 w (.bool false) (.bool false) (.string ⟨#[]⟩) (.string ⟨#[]⟩) (.string ⟨#[]⟩) (.string ⟨#[]⟩)).alloc (.cells #[.string (St l), .int .i64 0] 54)
  have hX := Bx.new1 54 w (.cells #[.bool false, .bool false, .string ⟨#[]⟩, .string ⟨#[]⟩, .string ⟨#[]⟩, .string ⟨#[]⟩] 37) (.string (St l)) (.int .i64 0)
  have hb := below_trans (below_al w (.cells #[.bool false, .bool false, .string ⟨#[]⟩, .string ⟨#[]⟩, .string ⟨#[]⟩, .string ⟨#[]⟩] 37)) (below_al _ (.cells #[.string (St l), .int .i64 0] 54))
  have S1 := Lib.hid (And.intro (hX) (And.intro (hP) (hb)))
  clear hX hP hb
  generalize (w.alloc _).alloc _ = W1 at S1 ⊢
  obtain ⟨x0, x1, x2, x3⟩ := S1.out.1.facts
  go_wp2_with fail
  refine (prefix_st l _).mono ?_; rintro e W1 ⟨rfl, rfl⟩
  rw [HE.out.1]
  clear x0 x1 x2 x3
  obtain ⟨p0, p1, p2, p3, p4, p5, q0, q1, q2, q3, q4, q5⟩ := S1.out.2.1.facts
  go_upto_region 3 with (fail)
  clear p0 p1 p2 p3 p4 p5 q0 q1 q2 q3 q4 q5
  have S2 := Lib.hid (And.intro (S1.out.1.other (p := ⟨w.heap.size, 0, none⟩) (by show w.heap.size ≠ w.heap.size + 1; omega) (.bool b)) (And.intro (S1.out.2.1.set0 (.bool b)) (S1.out.2.2.setCell (p := ⟨w.heap.size, 0, none⟩) (Nat.le_refl _) (.bool b))))
  clear S1
  generalize W1.setCell _ _ = W2 at S2 ⊢
  obtain ⟨x0, x1, x2, x3⟩ := S2.out.1.facts
  go_wp2_with fail
  refine (take_l HE.out.2.1 S2.out.1).mono ?_; rintro e w3 ⟨rfl, hX, hg⟩
  clear x0 x1 x2 x3
  have S3 := Lib.hid (And.intro (hX) (And.intro (S2.out.2.1.grown hg (by omega)) (below_one S2.out.2.2 hg (by omega))))
  clear hX hg S2
  go_wp2_with fail
  refine (run_l (m := k1) HE.out.2.2.1 HE.out.2.2.2.1 HK.out.1 HK.out.2.1 S3.out.1).mono ?_; rintro e w4 ⟨rfl, hX, Wm, hb, hg⟩
  have S4 := Lib.hid (And.intro (hX) (And.intro ((S3.out.2.1.keep hb).grown hg (by omega)) (below_one (below_trans S3.out.2.2 hb) hg (by omega))))
  clear hX hg hb S3
  obtain ⟨p0, p1, p2, p3, p4, p5, q0, q1, q2, q3, q4, q5⟩ := S4.out.2.1.facts
  go_upto_region 5 with (fail)
  clear p0 p1 p2 p3 p4 p5 q0 q1 q2 q3 q4 q5
  have S5 := Lib.hid (And.intro (S4.out.1.other (p := ⟨w.heap.size, 2, none⟩) (by show w.heap.size ≠ w.heap.size + 1; omega) (.string (St wh))) (And.intro (S4.out.2.1.set2 (.string (St wh))) (S4.out.2.2.setCell (p := ⟨w.heap.size, 2, none⟩) (Nat.le_refl _) (.string (St wh)))))
  clear S4
  generalize w4.setCell _ _ = W5 at S5 ⊢
  obtain ⟨p0, p1, p2, p3, p4, p5, q0, q1, q2, q3, q4, q5⟩ := S5.out.2.1.facts
  obtain ⟨x0, x1, x2, x3⟩ := S5.out.1.facts
  go_wp2_with fail
  refine (take_l HE.out.2.2.2.2.1 S5.out.1).mono ?_; rintro e w6 ⟨rfl, hX, hg⟩
  clear x0 x1 x2 x3
  have S6 := Lib.hid (And.intro (hX) (And.intro (S5.out.2.1.grown hg (by omega)) (below_one S5.out.2.2 hg (by omega))))
  clear hX hg S5
  clear p0 p1 p2 p3 p4 p5 q0 q1 q2 q3 q4 q5
  obtain ⟨x0, x1, x2, x3⟩ := S6.out.1.facts
  go_wp2_with fail
  refine (take_l HE.out.2.2.2.2.2.1 S6.out.1).mono ?_; rintro e w7 ⟨rfl, hX, hg⟩
  clear x0 x1 x2 x3
  have S7 := Lib.hid (And.intro (hX) (And.intro (S6.out.2.1.grown hg (by omega)) (below_one S6.out.2.2 hg (by omega))))
  clear hX hg S6
  obtain ⟨x0, x1, x2, x3⟩ := S7.out.1.facts
  go_wp2_with fail
  refine (take_l HE.out.2.2.2.2.2.2.1 S7.out.1).mono ?_; rintro e w8 ⟨rfl, hX, hg⟩
  clear x0 x1 x2 x3
  have S8 := Lib.hid (And.intro (hX) (And.intro (S7.out.2.1.grown hg (by omega)) (below_one S7.out.2.2 hg (by omega))))
  clear hX hg S7
  obtain ⟨x0, x1, x2, x3⟩ := S8.out.1.facts
  go_wp2_with fail
  refine (prefix_st l5 _).mono ?_; rintro e w8 ⟨rfl, rfl⟩
  rw [HE.out.2.2.2.2.2.2.2.1]
  clear x0 x1 x2 x3
  obtain ⟨p0, p1, p2, p3, p4, p5, q0, q1, q2, q3, q4, q5⟩ := S8.out.2.1.facts
  go_upto_region 14 with (fail)
  clear p0 p1 p2 p3 p4 p5 q0 q1 q2 q3 q4 q5
  have S9 := Lib.hid (And.intro (S8.out.1.other (p := ⟨w.heap.size, 1, none⟩) (by show w.heap.size ≠ w.heap.size + 1; omega) (.bool sm)) (And.intro (S8.out.2.1.set1 (.bool sm)) (S8.out.2.2.setCell (p := ⟨w.heap.size, 1, none⟩) (Nat.le_refl _) (.bool sm))))
  clear S8
  generalize w8.setCell _ _ = W9 at S9 ⊢
  obtain ⟨x0, x1, x2, x3⟩ := S9.out.1.facts
  go_wp2_with fail
  refine (take_l HE.out.2.2.2.2.2.2.2.2.1 S9.out.1).mono ?_; rintro e w10 ⟨rfl, hX, hg⟩
  clear x0 x1 x2 x3
  have S10 := Lib.hid (And.intro (hX) (And.intro (S9.out.2.1.grown hg (by omega)) (below_one S9.out.2.2 hg (by omega))))
  clear hX hg S9
  go_wp2_with fail
  refine (run_l (m := k2) HE.out.2.2.2.2.2.2.2.2.2.1 HE.out.2.2.2.2.2.2.2.2.2.2 HK.out.2.2.1 HK.out.2.2.2 S10.out.1).mono ?_; rintro e w11 ⟨rfl, hX, Wm, hb, hg⟩
  have S11 := Lib.hid (And.intro (hX) (And.intro ((S10.out.2.1.keep hb).grown hg (by omega)) (below_one (below_trans S10.out.2.2 hb) hg (by omega))))
  clear hX hg hb S10
  obtain ⟨p0, p1, p2, p3, p4, p5, q0, q1, q2, q3, q4, q5⟩ := S11.out.2.1.facts
  go_upto_region 16 with (fail)
  clear p0 p1 p2 p3 p4 p5 q0 q1 q2 q3 q4 q5
  have S12 := Lib.hid (And.intro (S11.out.1.other (p := ⟨w.heap.size, 4, none⟩) (by show w.heap.size ≠ w.heap.size + 1; omega) (.string (St ex))) (And.intro (S11.out.2.1.set4 (.string (St ex))) (S11.out.2.2.setCell (p := ⟨w.heap.size, 4, none⟩) (Nat.le_refl _) (.string (St ex)))))
  clear S11
  generalize w11.setCell _ _ = W12 at S12 ⊢
  obtain ⟨p0, p1, p2, p3, p4, p5, q0, q1, q2, q3, q4, q5⟩ := S12.out.2.1.facts
  go_upto_region 17 with (fail)
  clear p0 p1 p2 p3 p4 p5 q0 q1 q2 q3 q4 q5
  have S13 := Lib.hid (And.intro (show Bx 54 W12.drew (w.heap.size + 1) (.string (St l7)) (.int .i64 (k2 : Int)) from S12.out.1.keep (below_dr _ 1)) (And.intro (show B6 37 W12.drew w.heap.size (.bool b) (.bool sm) (.string (St wh)) (.string ⟨#[]⟩) (.string (St ex)) (.string ⟨#[]⟩) from S12.out.2.1.keep (below_dr _ 1)) (show Below w.heap.size w W12.drew from below_trans S12.out.2.2 (below_dr _ 1))))
  refine wp_region_held_drew (S := fun W => W.cell? ⟨(w.heap.size + 1), 0, none⟩ = some (.string (St l7)) ∧ W.cell? ⟨(w.heap.size + 1), 1, none⟩ = some (.int .i64 (k2 : Int)) ∧ W.cell? ⟨w.heap.size, 0, none⟩ = some (.bool b) ∧ W.cell? ⟨w.heap.size, 1, none⟩ = some (.bool sm) ∧ W.cell? ⟨w.heap.size, 2, none⟩ = some (.string (St wh)) ∧ W.cell? ⟨w.heap.size, 3, none⟩ = some (.string ⟨#[]⟩) ∧ W.cell? ⟨w.heap.size, 4, none⟩ = some (.string (St ex)) ∧ W.cell? ⟨w.heap.size, 5, none⟩ = some (.string ⟨#[]⟩)) (by kernel_rfl) ⟨S13.out.1.facts.1, S13.out.1.facts.2.1, S13.out.2.1.facts.1, S13.out.2.1.facts.2.1, S13.out.2.1.facts.2.2.1, S13.out.2.1.facts.2.2.2.1, S13.out.2.1.facts.2.2.2.2.1, S13.out.2.1.facts.2.2.2.2.2.1⟩ (fun hHeld => ?_)
  clear S12
  generalize W12.drew = Wd at S13 hHeld ⊢
  refine rgTake 0 hHeld ?_; try simp only [Act.put, List.setIfInBounds_toArray, List.set_cons_zero, List.set_cons_succ]
  refine rgTake 1 hHeld ?_; try simp only [Act.put, List.setIfInBounds_toArray, List.set_cons_zero, List.set_cons_succ]
  refine rgTake 2 hHeld ?_; try simp only [Act.put, List.setIfInBounds_toArray, List.set_cons_zero, List.set_cons_succ]
  refine rgTake 3 hHeld ?_; try simp only [Act.put, List.setIfInBounds_toArray, List.set_cons_zero, List.set_cons_succ]
  refine rgTake 4 hHeld ?_; try simp only [Act.put, List.setIfInBounds_toArray, List.set_cons_zero, List.set_cons_succ]
  refine rgTake 5 hHeld ?_; try simp only [Act.put, List.setIfInBounds_toArray, List.set_cons_zero, List.set_cons_succ]
  refine rgTake 6 hHeld ?_; try simp only [Act.put, List.setIfInBounds_toArray, List.set_cons_zero, List.set_cons_succ]
  refine rgTake 7 hHeld ?_; try simp only [Act.put, List.setIfInBounds_toArray, List.set_cons_zero, List.set_cons_succ]
  refine rgTake 8 hHeld ?_; try simp only [Act.put, List.setIfInBounds_toArray, List.set_cons_zero, List.set_cons_succ]
  refine rgTake 9 hHeld ?_; try simp only [Act.put, List.setIfInBounds_toArray, List.set_cons_zero, List.set_cons_succ]
  refine rgTake 10 hHeld ?_; try simp only [Act.put, List.setIfInBounds_toArray, List.set_cons_zero, List.set_cons_succ]
  refine rgTake 11 hHeld ?_; try simp only [Act.put, List.setIfInBounds_toArray, List.set_cons_zero, List.set_cons_succ]
  refine rgTake 12 hHeld ?_; try simp only [Act.put, List.setIfInBounds_toArray, List.set_cons_zero, List.set_cons_succ]
  refine rgTake 13 hHeld ?_; try simp only [Act.put, List.setIfInBounds_toArray, List.set_cons_zero, List.set_cons_succ]
  obtain ⟨p0, p1, p2, p3, p4, p5, q0, q1, q2, q3, q4, q5⟩ := S13.out.2.1.facts
  refine rgReady [14] (rgOne (fun K hK => ?_) rgNil)
  go_simp; clear p0 p1 p2 p3 p4 p5 q0 q1 q2 q3 q4 q5
  refine hK.out _ _ ⟨(S13.out.1.other6 (by omega)).facts.1, (S13.out.1.other6 (by omega)).facts.2.1, S13.out.2.1.self.facts.1, S13.out.2.1.self.facts.2.1, S13.out.2.1.self.facts.2.2.1, S13.out.2.1.self.facts.2.2.2.1, S13.out.2.1.self.facts.2.2.2.2.1, S13.out.2.1.self.facts.2.2.2.2.2.1⟩ (fun hHeld => ?_); clear hK K; try simp only [Act.put, List.setIfInBounds_toArray, List.set_cons_zero, List.set_cons_succ]
  refine rgTake 15 hHeld ?_; try simp only [Act.put, List.setIfInBounds_toArray, List.set_cons_zero, List.set_cons_succ]
  refine rgTake 16 hHeld ?_; try simp only [Act.put, List.setIfInBounds_toArray, List.set_cons_zero, List.set_cons_succ]
  refine wpAnyH_done (by kernel_rfl) ?_ _
  clear hHeld
  go_wp2_with fail
  refine ret_b6 S13.out.2.1.self (fun W d0 d1 d2 d3 d4 d5 => by simp [results, Tryd.results9, go_sem, d0, d1, d2, d3, d4, d5]; try rfl) rfl ?_
  exact ⟨rfl, below6 S13.out.2.2 (Nat.le_refl _)⟩
set_option maxRecDepth 100000 in
set_option maxHeartbeats 2000000 in
theorem split_001_120 {w : World} {l l1 l2 l3 l4 l5 l6 l7 wh pt ex : List UInt8} {sb s5 b sm z yb1 yb2 yb3 : Bool} (hM : l.length ≤ 9223372036854775807) (hb : (l.head? == some 45) = b) (c1 : cutC [43, 45] l = (sb, l1)) (d1 : digs l1 = wh) (r1 : rest l1 = l2) (c2 : cutC [47] l2 = (false, l2)) (c3 : cutC [46] l2 = (false, l2)) (c4 : cutC [101, 69] l2 = (true, l5)) (hs : (l5.head? == some 45) = sm) (c5 : cutC [43, 45] l5 = (s5, l6)) (d5 : digs l6 = ex) (r5 : rest l6 = l7) (b1 : wh.isEmpty = false) (b3 : ex.isEmpty = true) (bz : l7.isEmpty = z) :
    Calls Tryd.prog 9 #[.string (St l)] w fun e w' => e = .returned (.tuple #[.agg #[.bool b, .bool sm, .string (St wh), .string (St []), .string (St ex), .string (St [])], .int .i64 ((wh.length + ex.length : Nat) : Int), .bool (false)]) ∧ Below w.heap.size w w' := by
  have n0 := cut_le [43, 45] l
  rw [c1] at n0
  simp only at n0
  have n1 := digs_le l1
  rw [d1, r1] at n1
  have n2 := cut_le [101, 69] l2
  rw [c4] at n2
  simp only at n2
  have n3 := cut_le [43, 45] l5
  rw [c5] at n3
  simp only at n3
  have n4 := digs_le l6
  rw [d5, r5] at n4
  have mb1 : (St wh).toList.isEmpty = false := by rw [st_nil, b1]
  have mb3 : (St ex).toList.isEmpty = true := by rw [st_nil, b3]
  have mz : (St l7).toList.isEmpty = z := by rw [st_nil, bz]
  have HE := Lib.hid (And.intro hb (And.intro c1 (And.intro d1 (And.intro r1 (And.intro c2 (And.intro c3 (And.intro c4 (And.intro hs (And.intro c5 (And.intro d5 (r5)))))))))))
  obtain ⟨k1, hk1⟩ : ∃ k, wh.length = k := ⟨_, rfl⟩
  obtain ⟨k2, hk2⟩ : ∃ k, wh.length + ex.length = k := ⟨_, rfl⟩
  rw [hk2]
  have HK := Lib.hid (And.intro (show 0 + wh.length = k1 by omega) (And.intro (show 0 + l1.length ≤ 9223372036854775807 by omega) (And.intro (show k1 + ex.length = k2 by omega) ((show k1 + l6.length ≤ 9223372036854775807 by omega)))))
  clear hM hb c1 d1 r1 c2 c3 c4 hs c5 d5 r5 b1 b3 bz n0 n1 n2 n3 n4 hk1 hk2
  go_enter Tryd.func9, Tryd.ntmps9
  go_upto_region 2 with (fail)
  have hP := (B6.new 37 w (.bool false) (.bool false) (.string ⟨#[]⟩) (.string ⟨#[]⟩) (.string ⟨#[]⟩) (.string ⟨#[]⟩)).alloc (.cells #[.string (St l), .int .i64 0] 54)
  have hX := Bx.new1 54 w (.cells #[.bool false, .bool false, .string ⟨#[]⟩, .string ⟨#[]⟩, .string ⟨#[]⟩, .string ⟨#[]⟩] 37) (.string (St l)) (.int .i64 0)
  have hb := below_trans (below_al w (.cells #[.bool false, .bool false, .string ⟨#[]⟩, .string ⟨#[]⟩, .string ⟨#[]⟩, .string ⟨#[]⟩] 37)) (below_al _ (.cells #[.string (St l), .int .i64 0] 54))
  have S1 := Lib.hid (And.intro (hX) (And.intro (hP) (hb)))
  clear hX hP hb
  generalize (w.alloc _).alloc _ = W1 at S1 ⊢
  obtain ⟨x0, x1, x2, x3⟩ := S1.out.1.facts
  go_wp2_with fail
  refine (prefix_st l _).mono ?_; rintro e W1 ⟨rfl, rfl⟩
  rw [HE.out.1]
  clear x0 x1 x2 x3
  obtain ⟨p0, p1, p2, p3, p4, p5, q0, q1, q2, q3, q4, q5⟩ := S1.out.2.1.facts
  go_upto_region 3 with (fail)
  clear p0 p1 p2 p3 p4 p5 q0 q1 q2 q3 q4 q5
  have S2 := Lib.hid (And.intro (S1.out.1.other (p := ⟨w.heap.size, 0, none⟩) (by show w.heap.size ≠ w.heap.size + 1; omega) (.bool b)) (And.intro (S1.out.2.1.set0 (.bool b)) (S1.out.2.2.setCell (p := ⟨w.heap.size, 0, none⟩) (Nat.le_refl _) (.bool b))))
  clear S1
  generalize W1.setCell _ _ = W2 at S2 ⊢
  obtain ⟨x0, x1, x2, x3⟩ := S2.out.1.facts
  go_wp2_with fail
  refine (take_l HE.out.2.1 S2.out.1).mono ?_; rintro e w3 ⟨rfl, hX, hg⟩
  clear x0 x1 x2 x3
  have S3 := Lib.hid (And.intro (hX) (And.intro (S2.out.2.1.grown hg (by omega)) (below_one S2.out.2.2 hg (by omega))))
  clear hX hg S2
  go_wp2_with fail
  refine (run_l (m := k1) HE.out.2.2.1 HE.out.2.2.2.1 HK.out.1 HK.out.2.1 S3.out.1).mono ?_; rintro e w4 ⟨rfl, hX, Wm, hb, hg⟩
  have S4 := Lib.hid (And.intro (hX) (And.intro ((S3.out.2.1.keep hb).grown hg (by omega)) (below_one (below_trans S3.out.2.2 hb) hg (by omega))))
  clear hX hg hb S3
  obtain ⟨p0, p1, p2, p3, p4, p5, q0, q1, q2, q3, q4, q5⟩ := S4.out.2.1.facts
  go_upto_region 5 with (fail)
  clear p0 p1 p2 p3 p4 p5 q0 q1 q2 q3 q4 q5
  have S5 := Lib.hid (And.intro (S4.out.1.other (p := ⟨w.heap.size, 2, none⟩) (by show w.heap.size ≠ w.heap.size + 1; omega) (.string (St wh))) (And.intro (S4.out.2.1.set2 (.string (St wh))) (S4.out.2.2.setCell (p := ⟨w.heap.size, 2, none⟩) (Nat.le_refl _) (.string (St wh)))))
  clear S4
  generalize w4.setCell _ _ = W5 at S5 ⊢
  obtain ⟨p0, p1, p2, p3, p4, p5, q0, q1, q2, q3, q4, q5⟩ := S5.out.2.1.facts
  obtain ⟨x0, x1, x2, x3⟩ := S5.out.1.facts
  go_wp2_with fail
  refine (take_l HE.out.2.2.2.2.1 S5.out.1).mono ?_; rintro e w6 ⟨rfl, hX, hg⟩
  clear x0 x1 x2 x3
  have S6 := Lib.hid (And.intro (hX) (And.intro (S5.out.2.1.grown hg (by omega)) (below_one S5.out.2.2 hg (by omega))))
  clear hX hg S5
  clear p0 p1 p2 p3 p4 p5 q0 q1 q2 q3 q4 q5
  obtain ⟨x0, x1, x2, x3⟩ := S6.out.1.facts
  go_wp2_with fail
  refine (take_l HE.out.2.2.2.2.2.1 S6.out.1).mono ?_; rintro e w7 ⟨rfl, hX, hg⟩
  clear x0 x1 x2 x3
  have S7 := Lib.hid (And.intro (hX) (And.intro (S6.out.2.1.grown hg (by omega)) (below_one S6.out.2.2 hg (by omega))))
  clear hX hg S6
  obtain ⟨x0, x1, x2, x3⟩ := S7.out.1.facts
  go_wp2_with fail
  refine (take_l HE.out.2.2.2.2.2.2.1 S7.out.1).mono ?_; rintro e w8 ⟨rfl, hX, hg⟩
  clear x0 x1 x2 x3
  have S8 := Lib.hid (And.intro (hX) (And.intro (S7.out.2.1.grown hg (by omega)) (below_one S7.out.2.2 hg (by omega))))
  clear hX hg S7
  obtain ⟨x0, x1, x2, x3⟩ := S8.out.1.facts
  go_wp2_with fail
  refine (prefix_st l5 _).mono ?_; rintro e w8 ⟨rfl, rfl⟩
  rw [HE.out.2.2.2.2.2.2.2.1]
  clear x0 x1 x2 x3
  obtain ⟨p0, p1, p2, p3, p4, p5, q0, q1, q2, q3, q4, q5⟩ := S8.out.2.1.facts
  go_upto_region 14 with (fail)
  clear p0 p1 p2 p3 p4 p5 q0 q1 q2 q3 q4 q5
  have S9 := Lib.hid (And.intro (S8.out.1.other (p := ⟨w.heap.size, 1, none⟩) (by show w.heap.size ≠ w.heap.size + 1; omega) (.bool sm)) (And.intro (S8.out.2.1.set1 (.bool sm)) (S8.out.2.2.setCell (p := ⟨w.heap.size, 1, none⟩) (Nat.le_refl _) (.bool sm))))
  clear S8
  generalize w8.setCell _ _ = W9 at S9 ⊢
  obtain ⟨x0, x1, x2, x3⟩ := S9.out.1.facts
  go_wp2_with fail
  refine (take_l HE.out.2.2.2.2.2.2.2.2.1 S9.out.1).mono ?_; rintro e w10 ⟨rfl, hX, hg⟩
  clear x0 x1 x2 x3
  have S10 := Lib.hid (And.intro (hX) (And.intro (S9.out.2.1.grown hg (by omega)) (below_one S9.out.2.2 hg (by omega))))
  clear hX hg S9
  go_wp2_with fail
  refine (run_l (m := k2) HE.out.2.2.2.2.2.2.2.2.2.1 HE.out.2.2.2.2.2.2.2.2.2.2 HK.out.2.2.1 HK.out.2.2.2 S10.out.1).mono ?_; rintro e w11 ⟨rfl, hX, Wm, hb, hg⟩
  have S11 := Lib.hid (And.intro (hX) (And.intro ((S10.out.2.1.keep hb).grown hg (by omega)) (below_one (below_trans S10.out.2.2 hb) hg (by omega))))
  clear hX hg hb S10
  obtain ⟨p0, p1, p2, p3, p4, p5, q0, q1, q2, q3, q4, q5⟩ := S11.out.2.1.facts
  go_upto_region 16 with (fail)
  clear p0 p1 p2 p3 p4 p5 q0 q1 q2 q3 q4 q5
  have S12 := Lib.hid (And.intro (S11.out.1.other (p := ⟨w.heap.size, 4, none⟩) (by show w.heap.size ≠ w.heap.size + 1; omega) (.string (St ex))) (And.intro (S11.out.2.1.set4 (.string (St ex))) (S11.out.2.2.setCell (p := ⟨w.heap.size, 4, none⟩) (Nat.le_refl _) (.string (St ex)))))
  clear S11
  generalize w11.setCell _ _ = W12 at S12 ⊢
  obtain ⟨p0, p1, p2, p3, p4, p5, q0, q1, q2, q3, q4, q5⟩ := S12.out.2.1.facts
  go_upto_region 17 with (fail)
  clear p0 p1 p2 p3 p4 p5 q0 q1 q2 q3 q4 q5
  have S13 := Lib.hid (And.intro (show Bx 54 W12.drew (w.heap.size + 1) (.string (St l7)) (.int .i64 (k2 : Int)) from S12.out.1.keep (below_dr _ 1)) (And.intro (show B6 37 W12.drew w.heap.size (.bool b) (.bool sm) (.string (St wh)) (.string ⟨#[]⟩) (.string (St ex)) (.string ⟨#[]⟩) from S12.out.2.1.keep (below_dr _ 1)) (show Below w.heap.size w W12.drew from below_trans S12.out.2.2 (below_dr _ 1))))
  refine wp_region_held_drew (S := fun W => W.cell? ⟨(w.heap.size + 1), 0, none⟩ = some (.string (St l7)) ∧ W.cell? ⟨(w.heap.size + 1), 1, none⟩ = some (.int .i64 (k2 : Int)) ∧ W.cell? ⟨w.heap.size, 0, none⟩ = some (.bool b) ∧ W.cell? ⟨w.heap.size, 1, none⟩ = some (.bool sm) ∧ W.cell? ⟨w.heap.size, 2, none⟩ = some (.string (St wh)) ∧ W.cell? ⟨w.heap.size, 3, none⟩ = some (.string ⟨#[]⟩) ∧ W.cell? ⟨w.heap.size, 4, none⟩ = some (.string (St ex)) ∧ W.cell? ⟨w.heap.size, 5, none⟩ = some (.string ⟨#[]⟩)) (by kernel_rfl) ⟨S13.out.1.facts.1, S13.out.1.facts.2.1, S13.out.2.1.facts.1, S13.out.2.1.facts.2.1, S13.out.2.1.facts.2.2.1, S13.out.2.1.facts.2.2.2.1, S13.out.2.1.facts.2.2.2.2.1, S13.out.2.1.facts.2.2.2.2.2.1⟩ (fun hHeld => ?_)
  clear S12
  generalize W12.drew = Wd at S13 hHeld ⊢
  refine rgTake 0 hHeld ?_; try simp only [Act.put, List.setIfInBounds_toArray, List.set_cons_zero, List.set_cons_succ]
  refine rgTake 1 hHeld ?_; try simp only [Act.put, List.setIfInBounds_toArray, List.set_cons_zero, List.set_cons_succ]
  refine rgTake 2 hHeld ?_; try simp only [Act.put, List.setIfInBounds_toArray, List.set_cons_zero, List.set_cons_succ]
  refine rgTake 3 hHeld ?_; try simp only [Act.put, List.setIfInBounds_toArray, List.set_cons_zero, List.set_cons_succ]
  refine rgTake 4 hHeld ?_; try simp only [Act.put, List.setIfInBounds_toArray, List.set_cons_zero, List.set_cons_succ]
  refine rgTake 5 hHeld ?_; try simp only [Act.put, List.setIfInBounds_toArray, List.set_cons_zero, List.set_cons_succ]
  refine rgTake 6 hHeld ?_; try simp only [Act.put, List.setIfInBounds_toArray, List.set_cons_zero, List.set_cons_succ]
  refine rgSkip 7 hHeld ?_; try simp only [Act.put, List.setIfInBounds_toArray, List.set_cons_zero, List.set_cons_succ]
  refine rgSkip 8 hHeld ?_; try simp only [Act.put, List.setIfInBounds_toArray, List.set_cons_zero, List.set_cons_succ]
  refine rgSkip 9 hHeld ?_; try simp only [Act.put, List.setIfInBounds_toArray, List.set_cons_zero, List.set_cons_succ]
  refine rgSkip 10 hHeld ?_; try simp only [Act.put, List.setIfInBounds_toArray, List.set_cons_zero, List.set_cons_succ]
  refine rgSkip 11 hHeld ?_; try simp only [Act.put, List.setIfInBounds_toArray, List.set_cons_zero, List.set_cons_succ]
  refine rgSkip 12 hHeld ?_; try simp only [Act.put, List.setIfInBounds_toArray, List.set_cons_zero, List.set_cons_succ]
  refine rgTake 13 hHeld ?_; try simp only [Act.put, List.setIfInBounds_toArray, List.set_cons_zero, List.set_cons_succ]
  obtain ⟨p0, p1, p2, p3, p4, p5, q0, q1, q2, q3, q4, q5⟩ := S13.out.2.1.facts
  refine rgReady [14] (rgOne (fun K hK => ?_) rgNil)
  go_simp; clear p0 p1 p2 p3 p4 p5 q0 q1 q2 q3 q4 q5
  refine hK.out _ _ ⟨(S13.out.1.other6 (by omega)).facts.1, (S13.out.1.other6 (by omega)).facts.2.1, S13.out.2.1.self.facts.1, S13.out.2.1.self.facts.2.1, S13.out.2.1.self.facts.2.2.1, S13.out.2.1.self.facts.2.2.2.1, S13.out.2.1.self.facts.2.2.2.2.1, S13.out.2.1.self.facts.2.2.2.2.2.1⟩ (fun hHeld => ?_); clear hK K; try simp only [Act.put, List.setIfInBounds_toArray, List.set_cons_zero, List.set_cons_succ]
  refine rgTake 15 hHeld ?_; try simp only [Act.put, List.setIfInBounds_toArray, List.set_cons_zero, List.set_cons_succ]
  refine rgTake 16 hHeld ?_; try simp only [Act.put, List.setIfInBounds_toArray, List.set_cons_zero, List.set_cons_succ]
  refine wpAnyH_done (by kernel_rfl) ?_ _
  clear hHeld
  go_wp2_with fail
  refine ret_b6 S13.out.2.1.self (fun W d0 d1 d2 d3 d4 d5 => by simp [results, Tryd.results9, go_sem, d0, d1, d2, d3, d4, d5]; try rfl) rfl ?_
  exact ⟨rfl, below6 S13.out.2.2 (Nat.le_refl _)⟩
set_option maxRecDepth 100000 in
set_option maxHeartbeats 2000000 in
theorem split_001_022 {w : World} {l l1 l2 l3 l4 l5 l6 l7 wh pt ex : List UInt8} {sb s5 b sm z yb1 yb2 yb3 : Bool} (hM : l.length ≤ 9223372036854775807) (hb : (l.head? == some 45) = b) (c1 : cutC [43, 45] l = (sb, l1)) (d1 : digs l1 = wh) (r1 : rest l1 = l2) (c2 : cutC [47] l2 = (false, l2)) (c3 : cutC [46] l2 = (false, l2)) (c4 : cutC [101, 69] l2 = (true, l5)) (hs : (l5.head? == some 45) = sm) (c5 : cutC [43, 45] l5 = (s5, l6)) (d5 : digs l6 = ex) (r5 : rest l6 = l7) (b1 : wh.isEmpty = true) (b3 : ex.isEmpty = yb3) (bz : l7.isEmpty = z) :
    Calls Tryd.prog 9 #[.string (St l)] w fun e w' => e = .returned (.tuple #[.agg #[.bool b, .bool sm, .string (St wh), .string (St []), .string (St ex), .string (St [])], .int .i64 ((wh.length + ex.length : Nat) : Int), .bool (false)]) ∧ Below w.heap.size w w' := by
  have n0 := cut_le [43, 45] l
  rw [c1] at n0
  simp only at n0
  have n1 := digs_le l1
  rw [d1, r1] at n1
  have n2 := cut_le [101, 69] l2
  rw [c4] at n2
  simp only at n2
  have n3 := cut_le [43, 45] l5
  rw [c5] at n3
  simp only at n3
  have n4 := digs_le l6
  rw [d5, r5] at n4
  have mb1 : (St wh).toList.isEmpty = true := by rw [st_nil, b1]
  have mb3 : (St ex).toList.isEmpty = yb3 := by rw [st_nil, b3]
  have mz : (St l7).toList.isEmpty = z := by rw [st_nil, bz]
  have HE := Lib.hid (And.intro hb (And.intro c1 (And.intro d1 (And.intro r1 (And.intro c2 (And.intro c3 (And.intro c4 (And.intro hs (And.intro c5 (And.intro d5 (r5)))))))))))
  obtain ⟨k1, hk1⟩ : ∃ k, wh.length = k := ⟨_, rfl⟩
  obtain ⟨k2, hk2⟩ : ∃ k, wh.length + ex.length = k := ⟨_, rfl⟩
  rw [hk2]
  have HK := Lib.hid (And.intro (show 0 + wh.length = k1 by omega) (And.intro (show 0 + l1.length ≤ 9223372036854775807 by omega) (And.intro (show k1 + ex.length = k2 by omega) ((show k1 + l6.length ≤ 9223372036854775807 by omega)))))
  clear hM hb c1 d1 r1 c2 c3 c4 hs c5 d5 r5 b1 b3 bz n0 n1 n2 n3 n4 hk1 hk2
  go_enter Tryd.func9, Tryd.ntmps9
  go_upto_region 2 with (fail)
  have hP := (B6.new 37 w (.bool false) (.bool false) (.string ⟨#[]⟩) (.string ⟨#[]⟩) (.string ⟨#[]⟩) (.string ⟨#[]⟩)).alloc (.cells #[.string (St l), .int .i64 0] 54)
  have hX := Bx.new1 54 w (.cells #[.bool false, .bool false, .string ⟨#[]⟩, .string ⟨#[]⟩, .string ⟨#[]⟩, .string ⟨#[]⟩] 37) (.string (St l)) (.int .i64 0)
  have hb := below_trans (below_al w (.cells #[.bool false, .bool false, .string ⟨#[]⟩, .string ⟨#[]⟩, .string ⟨#[]⟩, .string ⟨#[]⟩] 37)) (below_al _ (.cells #[.string (St l), .int .i64 0] 54))
  have S1 := Lib.hid (And.intro (hX) (And.intro (hP) (hb)))
  clear hX hP hb
  generalize (w.alloc _).alloc _ = W1 at S1 ⊢
  obtain ⟨x0, x1, x2, x3⟩ := S1.out.1.facts
  go_wp2_with fail
  refine (prefix_st l _).mono ?_; rintro e W1 ⟨rfl, rfl⟩
  rw [HE.out.1]
  clear x0 x1 x2 x3
  obtain ⟨p0, p1, p2, p3, p4, p5, q0, q1, q2, q3, q4, q5⟩ := S1.out.2.1.facts
  go_upto_region 3 with (fail)
  clear p0 p1 p2 p3 p4 p5 q0 q1 q2 q3 q4 q5
  have S2 := Lib.hid (And.intro (S1.out.1.other (p := ⟨w.heap.size, 0, none⟩) (by show w.heap.size ≠ w.heap.size + 1; omega) (.bool b)) (And.intro (S1.out.2.1.set0 (.bool b)) (S1.out.2.2.setCell (p := ⟨w.heap.size, 0, none⟩) (Nat.le_refl _) (.bool b))))
  clear S1
  generalize W1.setCell _ _ = W2 at S2 ⊢
  obtain ⟨x0, x1, x2, x3⟩ := S2.out.1.facts
  go_wp2_with fail
  refine (take_l HE.out.2.1 S2.out.1).mono ?_; rintro e w3 ⟨rfl, hX, hg⟩
  clear x0 x1 x2 x3
  have S3 := Lib.hid (And.intro (hX) (And.intro (S2.out.2.1.grown hg (by omega)) (below_one S2.out.2.2 hg (by omega))))
  clear hX hg S2
  go_wp2_with fail
  refine (run_l (m := k1) HE.out.2.2.1 HE.out.2.2.2.1 HK.out.1 HK.out.2.1 S3.out.1).mono ?_; rintro e w4 ⟨rfl, hX, Wm, hb, hg⟩
  have S4 := Lib.hid (And.intro (hX) (And.intro ((S3.out.2.1.keep hb).grown hg (by omega)) (below_one (below_trans S3.out.2.2 hb) hg (by omega))))
  clear hX hg hb S3
  obtain ⟨p0, p1, p2, p3, p4, p5, q0, q1, q2, q3, q4, q5⟩ := S4.out.2.1.facts
  go_upto_region 5 with (fail)
  clear p0 p1 p2 p3 p4 p5 q0 q1 q2 q3 q4 q5
  have S5 := Lib.hid (And.intro (S4.out.1.other (p := ⟨w.heap.size, 2, none⟩) (by show w.heap.size ≠ w.heap.size + 1; omega) (.string (St wh))) (And.intro (S4.out.2.1.set2 (.string (St wh))) (S4.out.2.2.setCell (p := ⟨w.heap.size, 2, none⟩) (Nat.le_refl _) (.string (St wh)))))
  clear S4
  generalize w4.setCell _ _ = W5 at S5 ⊢
  obtain ⟨p0, p1, p2, p3, p4, p5, q0, q1, q2, q3, q4, q5⟩ := S5.out.2.1.facts
  obtain ⟨x0, x1, x2, x3⟩ := S5.out.1.facts
  go_wp2_with fail
  refine (take_l HE.out.2.2.2.2.1 S5.out.1).mono ?_; rintro e w6 ⟨rfl, hX, hg⟩
  clear x0 x1 x2 x3
  have S6 := Lib.hid (And.intro (hX) (And.intro (S5.out.2.1.grown hg (by omega)) (below_one S5.out.2.2 hg (by omega))))
  clear hX hg S5
  clear p0 p1 p2 p3 p4 p5 q0 q1 q2 q3 q4 q5
  obtain ⟨x0, x1, x2, x3⟩ := S6.out.1.facts
  go_wp2_with fail
  refine (take_l HE.out.2.2.2.2.2.1 S6.out.1).mono ?_; rintro e w7 ⟨rfl, hX, hg⟩
  clear x0 x1 x2 x3
  have S7 := Lib.hid (And.intro (hX) (And.intro (S6.out.2.1.grown hg (by omega)) (below_one S6.out.2.2 hg (by omega))))
  clear hX hg S6
  obtain ⟨x0, x1, x2, x3⟩ := S7.out.1.facts
  go_wp2_with fail
  refine (take_l HE.out.2.2.2.2.2.2.1 S7.out.1).mono ?_; rintro e w8 ⟨rfl, hX, hg⟩
  clear x0 x1 x2 x3
  have S8 := Lib.hid (And.intro (hX) (And.intro (S7.out.2.1.grown hg (by omega)) (below_one S7.out.2.2 hg (by omega))))
  clear hX hg S7
  obtain ⟨x0, x1, x2, x3⟩ := S8.out.1.facts
  go_wp2_with fail
  refine (prefix_st l5 _).mono ?_; rintro e w8 ⟨rfl, rfl⟩
  rw [HE.out.2.2.2.2.2.2.2.1]
  clear x0 x1 x2 x3
  obtain ⟨p0, p1, p2, p3, p4, p5, q0, q1, q2, q3, q4, q5⟩ := S8.out.2.1.facts
  go_upto_region 14 with (fail)
  clear p0 p1 p2 p3 p4 p5 q0 q1 q2 q3 q4 q5
  have S9 := Lib.hid (And.intro (S8.out.1.other (p := ⟨w.heap.size, 1, none⟩) (by show w.heap.size ≠ w.heap.size + 1; omega) (.bool sm)) (And.intro (S8.out.2.1.set1 (.bool sm)) (S8.out.2.2.setCell (p := ⟨w.heap.size, 1, none⟩) (Nat.le_refl _) (.bool sm))))
  clear S8
  generalize w8.setCell _ _ = W9 at S9 ⊢
  obtain ⟨x0, x1, x2, x3⟩ := S9.out.1.facts
  go_wp2_with fail
  refine (take_l HE.out.2.2.2.2.2.2.2.2.1 S9.out.1).mono ?_; rintro e w10 ⟨rfl, hX, hg⟩
  clear x0 x1 x2 x3
  have S10 := Lib.hid (And.intro (hX) (And.intro (S9.out.2.1.grown hg (by omega)) (below_one S9.out.2.2 hg (by omega))))
  clear hX hg S9
  go_wp2_with fail
  refine (run_l (m := k2) HE.out.2.2.2.2.2.2.2.2.2.1 HE.out.2.2.2.2.2.2.2.2.2.2 HK.out.2.2.1 HK.out.2.2.2 S10.out.1).mono ?_; rintro e w11 ⟨rfl, hX, Wm, hb, hg⟩
  have S11 := Lib.hid (And.intro (hX) (And.intro ((S10.out.2.1.keep hb).grown hg (by omega)) (below_one (below_trans S10.out.2.2 hb) hg (by omega))))
  clear hX hg hb S10
  obtain ⟨p0, p1, p2, p3, p4, p5, q0, q1, q2, q3, q4, q5⟩ := S11.out.2.1.facts
  go_upto_region 16 with (fail)
  clear p0 p1 p2 p3 p4 p5 q0 q1 q2 q3 q4 q5
  have S12 := Lib.hid (And.intro (S11.out.1.other (p := ⟨w.heap.size, 4, none⟩) (by show w.heap.size ≠ w.heap.size + 1; omega) (.string (St ex))) (And.intro (S11.out.2.1.set4 (.string (St ex))) (S11.out.2.2.setCell (p := ⟨w.heap.size, 4, none⟩) (Nat.le_refl _) (.string (St ex)))))
  clear S11
  generalize w11.setCell _ _ = W12 at S12 ⊢
  obtain ⟨p0, p1, p2, p3, p4, p5, q0, q1, q2, q3, q4, q5⟩ := S12.out.2.1.facts
  go_upto_region 17 with (fail)
  clear p0 p1 p2 p3 p4 p5 q0 q1 q2 q3 q4 q5
  have S13 := Lib.hid (And.intro (show Bx 54 W12.drew (w.heap.size + 1) (.string (St l7)) (.int .i64 (k2 : Int)) from S12.out.1.keep (below_dr _ 1)) (And.intro (show B6 37 W12.drew w.heap.size (.bool b) (.bool sm) (.string (St wh)) (.string ⟨#[]⟩) (.string (St ex)) (.string ⟨#[]⟩) from S12.out.2.1.keep (below_dr _ 1)) (show Below w.heap.size w W12.drew from below_trans S12.out.2.2 (below_dr _ 1))))
  refine wp_region_held_drew (S := fun W => W.cell? ⟨(w.heap.size + 1), 0, none⟩ = some (.string (St l7)) ∧ W.cell? ⟨(w.heap.size + 1), 1, none⟩ = some (.int .i64 (k2 : Int)) ∧ W.cell? ⟨w.heap.size, 0, none⟩ = some (.bool b) ∧ W.cell? ⟨w.heap.size, 1, none⟩ = some (.bool sm) ∧ W.cell? ⟨w.heap.size, 2, none⟩ = some (.string (St wh)) ∧ W.cell? ⟨w.heap.size, 3, none⟩ = some (.string ⟨#[]⟩) ∧ W.cell? ⟨w.heap.size, 4, none⟩ = some (.string (St ex)) ∧ W.cell? ⟨w.heap.size, 5, none⟩ = some (.string ⟨#[]⟩)) (by kernel_rfl) ⟨S13.out.1.facts.1, S13.out.1.facts.2.1, S13.out.2.1.facts.1, S13.out.2.1.facts.2.1, S13.out.2.1.facts.2.2.1, S13.out.2.1.facts.2.2.2.1, S13.out.2.1.facts.2.2.2.2.1, S13.out.2.1.facts.2.2.2.2.2.1⟩ (fun hHeld => ?_)
  clear S12
  generalize W12.drew = Wd at S13 hHeld ⊢
  refine rgTake 0 hHeld ?_; try simp only [Act.put, List.setIfInBounds_toArray, List.set_cons_zero, List.set_cons_succ]
  refine rgTake 1 hHeld ?_; try simp only [Act.put, List.setIfInBounds_toArray, List.set_cons_zero, List.set_cons_succ]
  refine rgTake 2 hHeld ?_; try simp only [Act.put, List.setIfInBounds_toArray, List.set_cons_zero, List.set_cons_succ]
  refine rgTake 3 hHeld ?_; try simp only [Act.put, List.setIfInBounds_toArray, List.set_cons_zero, List.set_cons_succ]
  refine rgTake 4 hHeld ?_; try simp only [Act.put, List.setIfInBounds_toArray, List.set_cons_zero, List.set_cons_succ]
  refine rgTake 5 hHeld ?_; try simp only [Act.put, List.setIfInBounds_toArray, List.set_cons_zero, List.set_cons_succ]
  refine rgTake 6 hHeld ?_; try simp only [Act.put, List.setIfInBounds_toArray, List.set_cons_zero, List.set_cons_succ]
  refine rgSkip 7 hHeld ?_; try simp only [Act.put, List.setIfInBounds_toArray, List.set_cons_zero, List.set_cons_succ]
  refine rgSkip 8 hHeld ?_; try simp only [Act.put, List.setIfInBounds_toArray, List.set_cons_zero, List.set_cons_succ]
  refine rgSkip 9 hHeld ?_; try simp only [Act.put, List.setIfInBounds_toArray, List.set_cons_zero, List.set_cons_succ]
  refine rgSkip 10 hHeld ?_; try simp only [Act.put, List.setIfInBounds_toArray, List.set_cons_zero, List.set_cons_succ]
  refine rgSkip 11 hHeld ?_; try simp only [Act.put, List.setIfInBounds_toArray, List.set_cons_zero, List.set_cons_succ]
  refine rgSkip 12 hHeld ?_; try simp only [Act.put, List.setIfInBounds_toArray, List.set_cons_zero, List.set_cons_succ]
  refine rgTake 13 hHeld ?_; try simp only [Act.put, List.setIfInBounds_toArray, List.set_cons_zero, List.set_cons_succ]
  obtain ⟨p0, p1, p2, p3, p4, p5, q0, q1, q2, q3, q4, q5⟩ := S13.out.2.1.facts
  refine rgReady [14] (rgOne (fun K hK => ?_) rgNil)
  go_simp; clear p0 p1 p2 p3 p4 p5 q0 q1 q2 q3 q4 q5
  refine hK.out _ _ ⟨(S13.out.1.other6 (by omega)).facts.1, (S13.out.1.other6 (by omega)).facts.2.1, S13.out.2.1.self.facts.1, S13.out.2.1.self.facts.2.1, S13.out.2.1.self.facts.2.2.1, S13.out.2.1.self.facts.2.2.2.1, S13.out.2.1.self.facts.2.2.2.2.1, S13.out.2.1.self.facts.2.2.2.2.2.1⟩ (fun hHeld => ?_); clear hK K; try simp only [Act.put, List.setIfInBounds_toArray, List.set_cons_zero, List.set_cons_succ]
  refine rgTake 15 hHeld ?_; try simp only [Act.put, List.setIfInBounds_toArray, List.set_cons_zero, List.set_cons_succ]
  refine rgTake 16 hHeld ?_; try simp only [Act.put, List.setIfInBounds_toArray, List.set_cons_zero, List.set_cons_succ]
  refine wpAnyH_done (by kernel_rfl) ?_ _
  clear hHeld
  go_wp2_with fail
  refine ret_b6 S13.out.2.1.self (fun W d0 d1 d2 d3 d4 d5 => by simp [results, Tryd.results9, go_sem, d0, d1, d2, d3, d4, d5]; try rfl) rfl ?_
  exact ⟨rfl, below6 S13.out.2.2 (Nat.le_refl _)⟩
set_option maxRecDepth 100000 in
set_option maxHeartbeats 2000000 in
theorem split_010_112 {w : World} {l l1 l2 l3 l4 l5 l6 l7 wh pt ex : List UInt8} {sb s5 b sm z yb1 yb2 yb3 : Bool} (hM : l.length ≤ 9223372036854775807) (hb : (l.head? == some 45) = b) (c1 : cutC [43, 45] l = (sb, l1)) (d1 : digs l1 = wh) (r1 : rest l1 = l2) (c2 : cutC [47] l2 = (false, l2)) (c3 : cutC [46] l2 = (true, l3)) (d2 : digs l3 = pt) (r2 : rest l3 = l4) (c4 : cutC [101, 69] l4 = (false, l4)) (b1 : wh.isEmpty = false) (b2 : pt.isEmpty = false) (bz : l4.isEmpty = z) :
    Calls Tryd.prog 9 #[.string (St l)] w fun e w' => e = .returned (.tuple #[.agg #[.bool b, .bool false, .string (St wh), .string (St pt), .string (St []), .string (St [])], .int .i64 ((wh.length + pt.length : Nat) : Int), .bool (z)]) ∧ Below w.heap.size w w' := by
  have n0 := cut_le [43, 45] l
  rw [c1] at n0
  simp only at n0
  have n1 := digs_le l1
  rw [d1, r1] at n1
  have n2 := cut_le [46] l2
  rw [c3] at n2
  simp only at n2
  have n3 := digs_le l3
  rw [d2, r2] at n3
  have mb1 : (St wh).toList.isEmpty = false := by rw [st_nil, b1]
  have mb2 : (St pt).toList.isEmpty = false := by rw [st_nil, b2]
  have mz : (St l4).toList.isEmpty = z := by rw [st_nil, bz]
  have HE := Lib.hid (And.intro hb (And.intro c1 (And.intro d1 (And.intro r1 (And.intro c2 (And.intro c3 (And.intro d2 (And.intro r2 (c4)))))))))
  obtain ⟨k1, hk1⟩ : ∃ k, wh.length = k := ⟨_, rfl⟩
  obtain ⟨k2, hk2⟩ : ∃ k, wh.length + pt.length = k := ⟨_, rfl⟩
  rw [hk2]
  have HK := Lib.hid (And.intro (show 0 + wh.length = k1 by omega) (And.intro (show 0 + l1.length ≤ 9223372036854775807 by omega) (And.intro (show k1 + pt.length = k2 by omega) ((show k1 + l3.length ≤ 9223372036854775807 by omega)))))
  clear hM hb c1 d1 r1 c2 c3 d2 r2 c4 b1 b2 bz n0 n1 n2 n3 hk1 hk2
  go_enter Tryd.func9, Tryd.ntmps9
  go_upto_region 2 with (fail)
  have hP := (B6.new 37 w (.bool false) (.bool false) (.string ⟨#[]⟩) (.string ⟨#[]⟩) (.string ⟨#[]⟩) (.string ⟨#[]⟩)).alloc (.cells #[.string (St l), .int .i64 0] 54)
  have hX := Bx.new1 54 w (.cells #[.bool false, .bool false, .string ⟨#[]⟩, .string ⟨#[]⟩, .string ⟨#[]⟩, .string ⟨#[]⟩] 37) (.string (St l)) (.int .i64 0)
  have hb := below_trans (below_al w (.cells #[.bool false, .bool false, .string ⟨#[]⟩, .string ⟨#[]⟩, .string ⟨#[]⟩, .string ⟨#[]⟩] 37)) (below_al _ (.cells #[.string (St l), .int .i64 0] 54))
  have S1 := Lib.hid (And.intro (hX) (And.intro (hP) (hb)))
  clear hX hP hb
  generalize (w.alloc _).alloc _ = W1 at S1 ⊢
  obtain ⟨x0, x1, x2, x3⟩ := S1.out.1.facts
  go_wp2_with fail
  refine (prefix_st l _).mono ?_; rintro e W1 ⟨rfl, rfl⟩
  rw [HE.out.1]
  clear x0 x1 x2 x3
  obtain ⟨p0, p1, p2, p3, p4, p5, q0, q1, q2, q3, q4, q5⟩ := S1.out.2.1.facts
  go_upto_region 3 with (fail)
  clear p0 p1 p2 p3 p4 p5 q0 q1 q2 q3 q4 q5
  have S2 := Lib.hid (And.intro (S1.out.1.other (p := ⟨w.heap.size, 0, none⟩) (by show w.heap.size ≠ w.heap.size + 1; omega) (.bool b)) (And.intro (S1.out.2.1.set0 (.bool b)) (S1.out.2.2.setCell (p := ⟨w.heap.size, 0, none⟩) (Nat.le_refl _) (.bool b))))
  clear S1
  generalize W1.setCell _ _ = W2 at S2 ⊢
  obtain ⟨x0, x1, x2, x3⟩ := S2.out.1.facts
  go_wp2_with fail
  refine (take_l HE.out.2.1 S2.out.1).mono ?_; rintro e w3 ⟨rfl, hX, hg⟩
  clear x0 x1 x2 x3
  have S3 := Lib.hid (And.intro (hX) (And.intro (S2.out.2.1.grown hg (by omega)) (below_one S2.out.2.2 hg (by omega))))
  clear hX hg S2
  go_wp2_with fail
  refine (run_l (m := k1) HE.out.2.2.1 HE.out.2.2.2.1 HK.out.1 HK.out.2.1 S3.out.1).mono ?_; rintro e w4 ⟨rfl, hX, Wm, hb, hg⟩
  have S4 := Lib.hid (And.intro (hX) (And.intro ((S3.out.2.1.keep hb).grown hg (by omega)) (below_one (below_trans S3.out.2.2 hb) hg (by omega))))
  clear hX hg hb S3
  obtain ⟨p0, p1, p2, p3, p4, p5, q0, q1, q2, q3, q4, q5⟩ := S4.out.2.1.facts
  go_upto_region 5 with (fail)
  clear p0 p1 p2 p3 p4 p5 q0 q1 q2 q3 q4 q5
  have S5 := Lib.hid (And.intro (S4.out.1.other (p := ⟨w.heap.size, 2, none⟩) (by show w.heap.size ≠ w.heap.size + 1; omega) (.string (St wh))) (And.intro (S4.out.2.1.set2 (.string (St wh))) (S4.out.2.2.setCell (p := ⟨w.heap.size, 2, none⟩) (Nat.le_refl _) (.string (St wh)))))
  clear S4
  generalize w4.setCell _ _ = W5 at S5 ⊢
  obtain ⟨p0, p1, p2, p3, p4, p5, q0, q1, q2, q3, q4, q5⟩ := S5.out.2.1.facts
  obtain ⟨x0, x1, x2, x3⟩ := S5.out.1.facts
  go_wp2_with fail
  refine (take_l HE.out.2.2.2.2.1 S5.out.1).mono ?_; rintro e w6 ⟨rfl, hX, hg⟩
  clear x0 x1 x2 x3
  have S6 := Lib.hid (And.intro (hX) (And.intro (S5.out.2.1.grown hg (by omega)) (below_one S5.out.2.2 hg (by omega))))
  clear hX hg S5
  clear p0 p1 p2 p3 p4 p5 q0 q1 q2 q3 q4 q5
  obtain ⟨x0, x1, x2, x3⟩ := S6.out.1.facts
  go_wp2_with fail
  refine (take_l HE.out.2.2.2.2.2.1 S6.out.1).mono ?_; rintro e w7 ⟨rfl, hX, hg⟩
  clear x0 x1 x2 x3
  have S7 := Lib.hid (And.intro (hX) (And.intro (S6.out.2.1.grown hg (by omega)) (below_one S6.out.2.2 hg (by omega))))
  clear hX hg S6
  go_wp2_with fail
  refine (run_l (m := k2) HE.out.2.2.2.2.2.2.1 HE.out.2.2.2.2.2.2.2.1 HK.out.2.2.1 HK.out.2.2.2 S7.out.1).mono ?_; rintro e w8 ⟨rfl, hX, Wm, hb, hg⟩
  have S8 := Lib.hid (And.intro (hX) (And.intro ((S7.out.2.1.keep hb).grown hg (by omega)) (below_one (below_trans S7.out.2.2 hb) hg (by omega))))
  clear hX hg hb S7
  obtain ⟨p0, p1, p2, p3, p4, p5, q0, q1, q2, q3, q4, q5⟩ := S8.out.2.1.facts
  go_upto_region 11 with (fail)
  clear p0 p1 p2 p3 p4 p5 q0 q1 q2 q3 q4 q5
  have S9 := Lib.hid (And.intro (S8.out.1.other (p := ⟨w.heap.size, 3, none⟩) (by show w.heap.size ≠ w.heap.size + 1; omega) (.string (St pt))) (And.intro (S8.out.2.1.set3 (.string (St pt))) (S8.out.2.2.setCell (p := ⟨w.heap.size, 3, none⟩) (Nat.le_refl _) (.string (St pt)))))
  clear S8
  generalize w8.setCell _ _ = W9 at S9 ⊢
  obtain ⟨p0, p1, p2, p3, p4, p5, q0, q1, q2, q3, q4, q5⟩ := S9.out.2.1.facts
  obtain ⟨x0, x1, x2, x3⟩ := S9.out.1.facts
  go_wp2_with fail
  refine (take_l HE.out.2.2.2.2.2.2.2.2 S9.out.1).mono ?_; rintro e w10 ⟨rfl, hX, hg⟩
  clear x0 x1 x2 x3
  have S10 := Lib.hid (And.intro (hX) (And.intro (S9.out.2.1.grown hg (by omega)) (below_one S9.out.2.2 hg (by omega))))
  clear hX hg S9
  clear p0 p1 p2 p3 p4 p5 q0 q1 q2 q3 q4 q5
  obtain ⟨p0, p1, p2, p3, p4, p5, q0, q1, q2, q3, q4, q5⟩ := S10.out.2.1.facts
  go_upto_region 17 with (fail)
  clear p0 p1 p2 p3 p4 p5 q0 q1 q2 q3 q4 q5
  have S11 := Lib.hid (And.intro (show Bx 54 w10.drew (w.heap.size + 1) (.string (St l4)) (.int .i64 (k2 : Int)) from S10.out.1.keep (below_dr _ 1)) (And.intro (show B6 37 w10.drew w.heap.size (.bool b) (.bool false) (.string (St wh)) (.string (St pt)) (.string ⟨#[]⟩) (.string ⟨#[]⟩) from S10.out.2.1.keep (below_dr _ 1)) (show Below w.heap.size w w10.drew from below_trans S10.out.2.2 (below_dr _ 1))))
  refine wp_region_held_drew (S := fun W => W.cell? ⟨(w.heap.size + 1), 0, none⟩ = some (.string (St l4)) ∧ W.cell? ⟨(w.heap.size + 1), 1, none⟩ = some (.int .i64 (k2 : Int)) ∧ W.cell? ⟨w.heap.size, 0, none⟩ = some (.bool b) ∧ W.cell? ⟨w.heap.size, 1, none⟩ = some (.bool false) ∧ W.cell? ⟨w.heap.size, 2, none⟩ = some (.string (St wh)) ∧ W.cell? ⟨w.heap.size, 3, none⟩ = some (.string (St pt)) ∧ W.cell? ⟨w.heap.size, 4, none⟩ = some (.string ⟨#[]⟩) ∧ W.cell? ⟨w.heap.size, 5, none⟩ = some (.string ⟨#[]⟩)) (by kernel_rfl) ⟨S11.out.1.facts.1, S11.out.1.facts.2.1, S11.out.2.1.facts.1, S11.out.2.1.facts.2.1, S11.out.2.1.facts.2.2.1, S11.out.2.1.facts.2.2.2.1, S11.out.2.1.facts.2.2.2.2.1, S11.out.2.1.facts.2.2.2.2.2.1⟩ (fun hHeld => ?_)
  clear S10
  generalize w10.drew = Wd at S11 hHeld ⊢
  refine rgTake 0 hHeld ?_; try simp only [Act.put, List.setIfInBounds_toArray, List.set_cons_zero, List.set_cons_succ]
  refine rgTake 1 hHeld ?_; try simp only [Act.put, List.setIfInBounds_toArray, List.set_cons_zero, List.set_cons_succ]
  refine rgTake 2 hHeld ?_; try simp only [Act.put, List.setIfInBounds_toArray, List.set_cons_zero, List.set_cons_succ]
  refine rgTake 3 hHeld ?_; try simp only [Act.put, List.setIfInBounds_toArray, List.set_cons_zero, List.set_cons_succ]
  refine rgTake 4 hHeld ?_; try simp only [Act.put, List.setIfInBounds_toArray, List.set_cons_zero, List.set_cons_succ]
  refine rgTake 5 hHeld ?_; try simp only [Act.put, List.setIfInBounds_toArray, List.set_cons_zero, List.set_cons_succ]
  refine rgTake 6 hHeld ?_; try simp only [Act.put, List.setIfInBounds_toArray, List.set_cons_zero, List.set_cons_succ]
  refine rgTake 7 hHeld ?_; try simp only [Act.put, List.setIfInBounds_toArray, List.set_cons_zero, List.set_cons_succ]
  refine rgTake 8 hHeld ?_; try simp only [Act.put, List.setIfInBounds_toArray, List.set_cons_zero, List.set_cons_succ]
  refine rgTake 9 hHeld ?_; try simp only [Act.put, List.setIfInBounds_toArray, List.set_cons_zero, List.set_cons_succ]
  refine rgTake 10 hHeld ?_; try simp only [Act.put, List.setIfInBounds_toArray, List.set_cons_zero, List.set_cons_succ]
  refine rgTake 11 hHeld ?_; try simp only [Act.put, List.setIfInBounds_toArray, List.set_cons_zero, List.set_cons_succ]
  refine rgTake 12 hHeld ?_; try simp only [Act.put, List.setIfInBounds_toArray, List.set_cons_zero, List.set_cons_succ]
  refine rgTake 13 hHeld ?_; try simp only [Act.put, List.setIfInBounds_toArray, List.set_cons_zero, List.set_cons_succ]
  obtain ⟨p0, p1, p2, p3, p4, p5, q0, q1, q2, q3, q4, q5⟩ := S11.out.2.1.facts
  refine rgReady [14] (rgOne (fun K hK => ?_) rgNil)
  go_simp; clear p0 p1 p2 p3 p4 p5 q0 q1 q2 q3 q4 q5
  refine hK.out _ _ ⟨(S11.out.1.other6 (by omega)).facts.1, (S11.out.1.other6 (by omega)).facts.2.1, S11.out.2.1.self.facts.1, S11.out.2.1.self.facts.2.1, S11.out.2.1.self.facts.2.2.1, S11.out.2.1.self.facts.2.2.2.1, S11.out.2.1.self.facts.2.2.2.2.1, S11.out.2.1.self.facts.2.2.2.2.2.1⟩ (fun hHeld => ?_); clear hK K; try simp only [Act.put, List.setIfInBounds_toArray, List.set_cons_zero, List.set_cons_succ]
  refine rgTake 15 hHeld ?_; try simp only [Act.put, List.setIfInBounds_toArray, List.set_cons_zero, List.set_cons_succ]
  refine rgTake 16 hHeld ?_; try simp only [Act.put, List.setIfInBounds_toArray, List.set_cons_zero, List.set_cons_succ]
  refine wpAnyH_done (by kernel_rfl) ?_ _
  clear hHeld
  go_wp2_with fail
  refine ret_b6 S11.out.2.1.self (fun W d0 d1 d2 d3 d4 d5 => by simp [results, Tryd.results9, go_sem, d0, d1, d2, d3, d4, d5]; try rfl) rfl ?_
  exact ⟨rfl, below6 S11.out.2.2 (Nat.le_refl _)⟩
set_option maxRecDepth 100000 in
set_option maxHeartbeats 2000000 in
theorem split_010_102 {w : World} {l l1 l2 l3 l4 l5 l6 l7 wh pt ex : List UInt8} {sb s5 b sm z yb1 yb2 yb3 : Bool} (hM : l.length ≤ 9223372036854775807) (hb : (l.head? == some 45) = b) (c1 : cutC [43, 45] l = (sb, l1)) (d1 : digs l1 = wh) (r1 : rest l1 = l2) (c2 : cutC [47] l2 = (false, l2)) (c3 : cutC [46] l2 = (true, l3)) (d2 : digs l3 = pt) (r2 : rest l3 = l4) (c4 : cutC [101, 69] l4 = (false, l4)) (b1 : wh.isEmpty = false) (b2 : pt.isEmpty = true) (bz : l4.isEmpty = z) :
    Calls Tryd.prog 9 #[.string (St l)] w fun e w' => e = .returned (.tuple #[.agg #[.bool b, .bool false, .string (St wh), .string (St pt), .string (St []), .string (St [])], .int .i64 ((wh.length + pt.length : Nat) : Int), .bool (false)]) ∧ Below w.heap.size w w' := by
  have n0 := cut_le [43, 45] l
  rw [c1] at n0
  simp only at n0
  have n1 := digs_le l1
  rw [d1, r1] at n1
  have n2 := cut_le [46] l2
  rw [c3] at n2
  simp only at n2
  have n3 := digs_le l3
  rw [d2, r2] at n3
  have mb1 : (St wh).toList.isEmpty = false := by rw [st_nil, b1]
  have mb2 : (St pt).toList.isEmpty = true := by rw [st_nil, b2]
  have mz : (St l4).toList.isEmpty = z := by rw [st_nil, bz]
  have HE := Lib.hid (And.intro hb (And.intro c1 (And.intro d1 (And.intro r1 (And.intro c2 (And.intro c3 (And.intro d2 (And.intro r2 (c4)))))))))
  obtain ⟨k1, hk1⟩ : ∃ k, wh.length = k := ⟨_, rfl⟩
  obtain ⟨k2, hk2⟩ : ∃ k, wh.length + pt.length = k := ⟨_, rfl⟩
  rw [hk2]
  have HK := Lib.hid (And.intro (show 0 + wh.length = k1 by omega) (And.intro (show 0 + l1.length ≤ 9223372036854775807 by omega) (And.intro (show k1 + pt.length = k2 by omega) ((show k1 + l3.length ≤ 9223372036854775807 by omega)))))
  clear hM hb c1 d1 r1 c2 c3 d2 r2 c4 b1 b2 bz n0 n1 n2 n3 hk1 hk2
  go_enter Tryd.func9, Tryd.ntmps9
  go_upto_region 2 with (fail)
  have hP := (B6.new 37 w (.bool false) (.bool false) (.string ⟨#[]⟩) (.string ⟨#[]⟩) (.string ⟨#[]⟩) (.string ⟨#[]⟩)).alloc (.cells #[.string (St l), .int .i64 0] 54)
  have hX := Bx.new1 54 w (.cells #[.bool false, .bool false, .string ⟨#[]⟩, .string ⟨#[]⟩, .string ⟨#[]⟩, .string ⟨#[]⟩] 37) (.string (St l)) (.int .i64 0)
  have hb := below_trans (below_al w (.cells #[.bool false, .bool false, .string ⟨#[]⟩, .string ⟨#[]⟩, .string ⟨#[]⟩, .string ⟨#[]⟩] 37)) (below_al _ (.cells #[.string (St l), .int .i64 0] 54))
  have S1 := Lib.hid (And.intro (hX) (And.intro (hP) (hb)))
  clear hX hP hb
  generalize (w.alloc _).alloc _ = W1 at S1 ⊢
  obtain ⟨x0, x1, x2, x3⟩ := S1.out.1.facts
  go_wp2_with fail
  refine (prefix_st l _).mono ?_; rintro e W1 ⟨rfl, rfl⟩
  rw [HE.out.1]
  clear x0 x1 x2 x3
  obtain ⟨p0, p1, p2, p3, p4, p5, q0, q1, q2, q3, q4, q5⟩ := S1.out.2.1.facts
  go_upto_region 3 with (fail)
  clear p0 p1 p2 p3 p4 p5 q0 q1 q2 q3 q4 q5
  have S2 := Lib.hid (And.intro (S1.out.1.other (p := ⟨w.heap.size, 0, none⟩) (by show w.heap.size ≠ w.heap.size + 1; omega) (.bool b)) (And.intro (S1.out.2.1.set0 (.bool b)) (S1.out.2.2.setCell (p := ⟨w.heap.size, 0, none⟩) (Nat.le_refl _) (.bool b))))
  clear S1
  generalize W1.setCell _ _ = W2 at S2 ⊢
  obtain ⟨x0, x1, x2, x3⟩ := S2.out.1.facts
  go_wp2_with fail
  refine (take_l HE.out.2.1 S2.out.1).mono ?_; rintro e w3 ⟨rfl, hX, hg⟩
  clear x0 x1 x2 x3
  have S3 := Lib.hid (And.intro (hX) (And.intro (S2.out.2.1.grown hg (by omega)) (below_one S2.out.2.2 hg (by omega))))
  clear hX hg S2
  go_wp2_with fail
  refine (run_l (m := k1) HE.out.2.2.1 HE.out.2.2.2.1 HK.out.1 HK.out.2.1 S3.out.1).mono ?_; rintro e w4 ⟨rfl, hX, Wm, hb, hg⟩
  have S4 := Lib.hid (And.intro (hX) (And.intro ((S3.out.2.1.keep hb).grown hg (by omega)) (below_one (below_trans S3.out.2.2 hb) hg (by omega))))
  clear hX hg hb S3
  obtain ⟨p0, p1, p2, p3, p4, p5, q0, q1, q2, q3, q4, q5⟩ := S4.out.2.1.facts
  go_upto_region 5 with (fail)
  clear p0 p1 p2 p3 p4 p5 q0 q1 q2 q3 q4 q5
  have S5 := Lib.hid (And.intro (S4.out.1.other (p := ⟨w.heap.size, 2, none⟩) (by show w.heap.size ≠ w.heap.size + 1; omega) (.string (St wh))) (And.intro (S4.out.2.1.set2 (.string (St wh))) (S4.out.2.2.setCell (p := ⟨w.heap.size, 2, none⟩) (Nat.le_refl _) (.string (St wh)))))
  clear S4
  generalize w4.setCell _ _ = W5 at S5 ⊢
  obtain ⟨p0, p1, p2, p3, p4, p5, q0, q1, q2, q3, q4, q5⟩ := S5.out.2.1.facts
  obtain ⟨x0, x1, x2, x3⟩ := S5.out.1.facts
  go_wp2_with fail
  refine (take_l HE.out.2.2.2.2.1 S5.out.1).mono ?_; rintro e w6 ⟨rfl, hX, hg⟩
  clear x0 x1 x2 x3
  have S6 := Lib.hid (And.intro (hX) (And.intro (S5.out.2.1.grown hg (by omega)) (below_one S5.out.2.2 hg (by omega))))
  clear hX hg S5
  clear p0 p1 p2 p3 p4 p5 q0 q1 q2 q3 q4 q5
  obtain ⟨x0, x1, x2, x3⟩ := S6.out.1.facts
  go_wp2_with fail
  refine (take_l HE.out.2.2.2.2.2.1 S6.out.1).mono ?_; rintro e w7 ⟨rfl, hX, hg⟩
  clear x0 x1 x2 x3
  have S7 := Lib.hid (And.intro (hX) (And.intro (S6.out.2.1.grown hg (by omega)) (below_one S6.out.2.2 hg (by omega))))
  clear hX hg S6
  go_wp2_with fail
  refine (run_l (m := k2) HE.out.2.2.2.2.2.2.1 HE.out.2.2.2.2.2.2.2.1 HK.out.2.2.1 HK.out.2.2.2 S7.out.1).mono ?_; rintro e w8 ⟨rfl, hX, Wm, hb, hg⟩
  have S8 := Lib.hid (And.intro (hX) (And.intro ((S7.out.2.1.keep hb).grown hg (by omega)) (below_one (below_trans S7.out.2.2 hb) hg (by omega))))
  clear hX hg hb S7
  obtain ⟨p0, p1, p2, p3, p4, p5, q0, q1, q2, q3, q4, q5⟩ := S8.out.2.1.facts
  go_upto_region 11 with (fail)
  clear p0 p1 p2 p3 p4 p5 q0 q1 q2 q3 q4 q5
  have S9 := Lib.hid (And.intro (S8.out.1.other (p := ⟨w.heap.size, 3, none⟩) (by show w.heap.size ≠ w.heap.size + 1; omega) (.string (St pt))) (And.intro (S8.out.2.1.set3 (.string (St pt))) (S8.out.2.2.setCell (p := ⟨w.heap.size, 3, none⟩) (Nat.le_refl _) (.string (St pt)))))
  clear S8
  generalize w8.setCell _ _ = W9 at S9 ⊢
  obtain ⟨p0, p1, p2, p3, p4, p5, q0, q1, q2, q3, q4, q5⟩ := S9.out.2.1.facts
  obtain ⟨x0, x1, x2, x3⟩ := S9.out.1.facts
  go_wp2_with fail
  refine (take_l HE.out.2.2.2.2.2.2.2.2 S9.out.1).mono ?_; rintro e w10 ⟨rfl, hX, hg⟩
  clear x0 x1 x2 x3
  have S10 := Lib.hid (And.intro (hX) (And.intro (S9.out.2.1.grown hg (by omega)) (below_one S9.out.2.2 hg (by omega))))
  clear hX hg S9
  clear p0 p1 p2 p3 p4 p5 q0 q1 q2 q3 q4 q5
  obtain ⟨p0, p1, p2, p3, p4, p5, q0, q1, q2, q3, q4, q5⟩ := S10.out.2.1.facts
  go_upto_region 17 with (fail)
  clear p0 p1 p2 p3 p4 p5 q0 q1 q2 q3 q4 q5
  have S11 := Lib.hid (And.intro (show Bx 54 w10.drew (w.heap.size + 1) (.string (St l4)) (.int .i64 (k2 : Int)) from S10.out.1.keep (below_dr _ 1)) (And.intro (show B6 37 w10.drew w.heap.size (.bool b) (.bool false) (.string (St wh)) (.string (St pt)) (.string ⟨#[]⟩) (.string ⟨#[]⟩) from S10.out.2.1.keep (below_dr _ 1)) (show Below w.heap.size w w10.drew from below_trans S10.out.2.2 (below_dr _ 1))))
  refine wp_region_held_drew (S := fun W => W.cell? ⟨(w.heap.size + 1), 0, none⟩ = some (.string (St l4)) ∧ W.cell? ⟨(w.heap.size + 1), 1, none⟩ = some (.int .i64 (k2 : Int)) ∧ W.cell? ⟨w.heap.size, 0, none⟩ = some (.bool b) ∧ W.cell? ⟨w.heap.size, 1, none⟩ = some (.bool false) ∧ W.cell? ⟨w.heap.size, 2, none⟩ = some (.string (St wh)) ∧ W.cell? ⟨w.heap.size, 3, none⟩ = some (.string (St pt)) ∧ W.cell? ⟨w.heap.size, 4, none⟩ = some (.string ⟨#[]⟩) ∧ W.cell? ⟨w.heap.size, 5, none⟩ = some (.string ⟨#[]⟩)) (by kernel_rfl) ⟨S11.out.1.facts.1, S11.out.1.facts.2.1, S11.out.2.1.facts.1, S11.out.2.1.facts.2.1, S11.out.2.1.facts.2.2.1, S11.out.2.1.facts.2.2.2.1, S11.out.2.1.facts.2.2.2.2.1, S11.out.2.1.facts.2.2.2.2.2.1⟩ (fun hHeld => ?_)
  clear S10
  generalize w10.drew = Wd at S11 hHeld ⊢
  refine rgTake 0 hHeld ?_; try simp only [Act.put, List.setIfInBounds_toArray, List.set_cons_zero, List.set_cons_succ]
  refine rgTake 1 hHeld ?_; try simp only [Act.put, List.setIfInBounds_toArray, List.set_cons_zero, List.set_cons_succ]
  refine rgTake 2 hHeld ?_; try simp only [Act.put, List.setIfInBounds_toArray, List.set_cons_zero, List.set_cons_succ]
  refine rgTake 3 hHeld ?_; try simp only [Act.put, List.setIfInBounds_toArray, List.set_cons_zero, List.set_cons_succ]
  refine rgTake 4 hHeld ?_; try simp only [Act.put, List.setIfInBounds_toArray, List.set_cons_zero, List.set_cons_succ]
  refine rgTake 5 hHeld ?_; try simp only [Act.put, List.setIfInBounds_toArray, List.set_cons_zero, List.set_cons_succ]
  refine rgTake 6 hHeld ?_; try simp only [Act.put, List.setIfInBounds_toArray, List.set_cons_zero, List.set_cons_succ]
  refine rgSkip 7 hHeld ?_; try simp only [Act.put, List.setIfInBounds_toArray, List.set_cons_zero, List.set_cons_succ]
  refine rgSkip 8 hHeld ?_; try simp only [Act.put, List.setIfInBounds_toArray, List.set_cons_zero, List.set_cons_succ]
  refine rgSkip 9 hHeld ?_; try simp only [Act.put, List.setIfInBounds_toArray, List.set_cons_zero, List.set_cons_succ]
  refine rgSkip 10 hHeld ?_; try simp only [Act.put, List.setIfInBounds_toArray, List.set_cons_zero, List.set_cons_succ]
  refine rgSkip 11 hHeld ?_; try simp only [Act.put, List.setIfInBounds_toArray, List.set_cons_zero, List.set_cons_succ]
  refine rgSkip 12 hHeld ?_; try simp only [Act.put, List.setIfInBounds_toArray, List.set_cons_zero, List.set_cons_succ]
  refine rgTake 13 hHeld ?_; try simp only [Act.put, List.setIfInBounds_toArray, List.set_cons_zero, List.set_cons_succ]
  obtain ⟨p0, p1, p2, p3, p4, p5, q0, q1, q2, q3, q4, q5⟩ := S11.out.2.1.facts
  refine rgReady [14] (rgOne (fun K hK => ?_) rgNil)
  go_simp; clear p0 p1 p2 p3 p4 p5 q0 q1 q2 q3 q4 q5
  refine hK.out _ _ ⟨(S11.out.1.other6 (by omega)).facts.1, (S11.out.1.other6 (by omega)).facts.2.1, S11.out.2.1.self.facts.1, S11.out.2.1.self.facts.2.1, S11.out.2.1.self.facts.2.2.1, S11.out.2.1.self.facts.2.2.2.1, S11.out.2.1.self.facts.2.2.2.2.1, S11.out.2.1.self.facts.2.2.2.2.2.1⟩ (fun hHeld => ?_); clear hK K; try simp only [Act.put, List.setIfInBounds_toArray, List.set_cons_zero, List.set_cons_succ]
  refine rgTake 15 hHeld ?_; try simp only [Act.put, List.setIfInBounds_toArray, List.set_cons_zero, List.set_cons_succ]
  refine rgTake 16 hHeld ?_; try simp only [Act.put, List.setIfInBounds_toArray, List.set_cons_zero, List.set_cons_succ]
  refine wpAnyH_done (by kernel_rfl) ?_ _
  clear hHeld
  go_wp2_with fail
  refine ret_b6 S11.out.2.1.self (fun W d0 d1 d2 d3 d4 d5 => by simp [results, Tryd.results9, go_sem, d0, d1, d2, d3, d4, d5]; try rfl) rfl ?_
  exact ⟨rfl, below6 S11.out.2.2 (Nat.le_refl _)⟩
set_option maxRecDepth 100000 in
set_option maxHeartbeats 2000000 in
theorem split_010_022 {w : World} {l l1 l2 l3 l4 l5 l6 l7 wh pt ex : List UInt8} {sb s5 b sm z yb1 yb2 yb3 : Bool} (hM : l.length ≤ 9223372036854775807) (hb : (l.head? == some 45) = b) (c1 : cutC [43, 45] l = (sb, l1)) (d1 : digs l1 = wh) (r1 : rest l1 = l2) (c2 : cutC [47] l2 = (false, l2)) (c3 : cutC [46] l2 = (true, l3)) (d2 : digs l3 = pt) (r2 : rest l3 = l4) (c4 : cutC [101, 69] l4 = (false, l4)) (b1 : wh.isEmpty = true) (b2 : pt.isEmpty = yb2) (bz : l4.isEmpty = z) :
    Calls Tryd.prog 9 #[.string (St l)] w fun e w' => e = .returned (.tuple #[.agg #[.bool b, .bool false, .string (St wh), .string (St pt), .string (St []), .string (St [])], .int .i64 ((wh.length + pt.length : Nat) : Int), .bool (false)]) ∧ Below w.heap.size w w' := by
  have n0 := cut_le [43, 45] l
  rw [c1] at n0
  simp only at n0
  have n1 := digs_le l1
  rw [d1, r1] at n1
  have n2 := cut_le [46] l2
  rw [c3] at n2
  simp only at n2
  have n3 := digs_le l3
  rw [d2, r2] at n3
  have mb1 : (St wh).toList.isEmpty = true := by rw [st_nil, b1]
  have mb2 : (St pt).toList.isEmpty = yb2 := by rw [st_nil, b2]
  have mz : (St l4).toList.isEmpty = z := by rw [st_nil, bz]
  have HE := Lib.hid (And.intro hb (And.intro c1 (And.intro d1 (And.intro r1 (And.intro c2 (And.intro c3 (And.intro d2 (And.intro r2 (c4)))))))))
  obtain ⟨k1, hk1⟩ : ∃ k, wh.length = k := ⟨_, rfl⟩
  obtain ⟨k2, hk2⟩ : ∃ k, wh.length + pt.length = k := ⟨_, rfl⟩
  rw [hk2]
  have HK := Lib.hid (And.intro (show 0 + wh.length = k1 by omega) (And.intro (show 0 + l1.length ≤ 9223372036854775807 by omega) (And.intro (show k1 + pt.length = k2 by omega) ((show k1 + l3.length ≤ 9223372036854775807 by omega)))))
  clear hM hb c1 d1 r1 c2 c3 d2 r2 c4 b1 b2 bz n0 n1 n2 n3 hk1 hk2
  go_enter Tryd.func9, Tryd.ntmps9
  go_upto_region 2 with (fail)
  have hP := (B6.new 37 w (.bool false) (.bool false) (.string ⟨#[]⟩) (.string ⟨#[]⟩) (.string ⟨#[]⟩) (.string ⟨#[]⟩)).alloc (.cells #[.string (St l), .int .i64 0] 54)
  have hX := Bx.new1 54 w (.cells #[.bool false, .bool false, .string ⟨#[]⟩, .string ⟨#[]⟩, .string ⟨#[]⟩, .string ⟨#[]⟩] 37) (.string (St l)) (.int .i64 0)
  have hb := below_trans (below_al w (.cells #[.bool false, .bool false, .string ⟨#[]⟩, .string ⟨#[]⟩, .string ⟨#[]⟩, .string ⟨#[]⟩] 37)) (below_al _ (.cells #[.string (St l), .int .i64 0] 54))
  have S1 := Lib.hid (And.intro (hX) (And.intro (hP) (hb)))
  clear hX hP hb
  generalize (w.alloc _).alloc _ = W1 at S1 ⊢
  obtain ⟨x0, x1, x2, x3⟩ := S1.out.1.facts
  go_wp2_with fail
  refine (prefix_st l _).mono ?_; rintro e W1 ⟨rfl, rfl⟩
  rw [HE.out.1]
  clear x0 x1 x2 x3
  obtain ⟨p0, p1, p2, p3, p4, p5, q0, q1, q2, q3, q4, q5⟩ := S1.out.2.1.facts
  go_upto_region 3 with (fail)
  clear p0 p1 p2 p3 p4 p5 q0 q1 q2 q3 q4 q5
  have S2 := Lib.hid (And.intro (S1.out.1.other (p := ⟨w.heap.size, 0, none⟩) (by show w.heap.size ≠ w.heap.size + 1; omega) (.bool b)) (And.intro (S1.out.2.1.set0 (.bool b)) (S1.out.2.2.setCell (p := ⟨w.heap.size, 0, none⟩) (Nat.le_refl _) (.bool b))))
  clear S1
  generalize W1.setCell _ _ = W2 at S2 ⊢
  obtain ⟨x0, x1, x2, x3⟩ := S2.out.1.facts
  go_wp2_with fail
  refine (take_l HE.out.2.1 S2.out.1).mono ?_; rintro e w3 ⟨rfl, hX, hg⟩
  clear x0 x1 x2 x3
  have S3 := Lib.hid (And.intro (hX) (And.intro (S2.out.2.1.grown hg (by omega)) (below_one S2.out.2.2 hg (by omega))))
  clear hX hg S2
  go_wp2_with fail
  refine (run_l (m := k1) HE.out.2.2.1 HE.out.2.2.2.1 HK.out.1 HK.out.2.1 S3.out.1).mono ?_; rintro e w4 ⟨rfl, hX, Wm, hb, hg⟩
  have S4 := Lib.hid (And.intro (hX) (And.intro ((S3.out.2.1.keep hb).grown hg (by omega)) (below_one (below_trans S3.out.2.2 hb) hg (by omega))))
  clear hX hg hb S3
  obtain ⟨p0, p1, p2, p3, p4, p5, q0, q1, q2, q3, q4, q5⟩ := S4.out.2.1.facts
  go_upto_region 5 with (fail)
  clear p0 p1 p2 p3 p4 p5 q0 q1 q2 q3 q4 q5
  have S5 := Lib.hid (And.intro (S4.out.1.other (p := ⟨w.heap.size, 2, none⟩) (by show w.heap.size ≠ w.heap.size + 1; omega) (.string (St wh))) (And.intro (S4.out.2.1.set2 (.string (St wh))) (S4.out.2.2.setCell (p := ⟨w.heap.size, 2, none⟩) (Nat.le_refl _) (.string (St wh)))))
  clear S4
  generalize w4.setCell _ _ = W5 at S5 ⊢
  obtain ⟨p0, p1, p2, p3, p4, p5, q0, q1, q2, q3, q4, q5⟩ := S5.out.2.1.facts
  obtain ⟨x0, x1, x2, x3⟩ := S5.out.1.facts
  go_wp2_with fail
  refine (take_l HE.out.2.2.2.2.1 S5.out.1).mono ?_; rintro e w6 ⟨rfl, hX, hg⟩
  clear x0 x1 x2 x3
  have S6 := Lib.hid (And.intro (hX) (And.intro (S5.out.2.1.grown hg (by omega)) (below_one S5.out.2.2 hg (by omega))))
  clear hX hg S5
  clear p0 p1 p2 p3 p4 p5 q0 q1 q2 q3 q4 q5
  obtain ⟨x0, x1, x2, x3⟩ := S6.out.1.facts
  go_wp2_with fail
  refine (take_l HE.out.2.2.2.2.2.1 S6.out.1).mono ?_; rintro e w7 ⟨rfl, hX, hg⟩
  clear x0 x1 x2 x3
  have S7 := Lib.hid (And.intro (hX) (And.intro (S6.out.2.1.grown hg (by omega)) (below_one S6.out.2.2 hg (by omega))))
  clear hX hg S6
  go_wp2_with fail
  refine (run_l (m := k2) HE.out.2.2.2.2.2.2.1 HE.out.2.2.2.2.2.2.2.1 HK.out.2.2.1 HK.out.2.2.2 S7.out.1).mono ?_; rintro e w8 ⟨rfl, hX, Wm, hb, hg⟩
  have S8 := Lib.hid (And.intro (hX) (And.intro ((S7.out.2.1.keep hb).grown hg (by omega)) (below_one (below_trans S7.out.2.2 hb) hg (by omega))))
  clear hX hg hb S7
  obtain ⟨p0, p1, p2, p3, p4, p5, q0, q1, q2, q3, q4, q5⟩ := S8.out.2.1.facts
  go_upto_region 11 with (fail)
  clear p0 p1 p2 p3 p4 p5 q0 q1 q2 q3 q4 q5
  have S9 := Lib.hid (And.intro (S8.out.1.other (p := ⟨w.heap.size, 3, none⟩) (by show w.heap.size ≠ w.heap.size + 1; omega) (.string (St pt))) (And.intro (S8.out.2.1.set3 (.string (St pt))) (S8.out.2.2.setCell (p := ⟨w.heap.size, 3, none⟩) (Nat.le_refl _) (.string (St pt)))))
  clear S8
  generalize w8.setCell _ _ = W9 at S9 ⊢
  obtain ⟨p0, p1, p2, p3, p4, p5, q0, q1, q2, q3, q4, q5⟩ := S9.out.2.1.facts
  obtain ⟨x0, x1, x2, x3⟩ := S9.out.1.facts
  go_wp2_with fail
  refine (take_l HE.out.2.2.2.2.2.2.2.2 S9.out.1).mono ?_; rintro e w10 ⟨rfl, hX, hg⟩
  clear x0 x1 x2 x3
  have S10 := Lib.hid (And.intro (hX) (And.intro (S9.out.2.1.grown hg (by omega)) (below_one S9.out.2.2 hg (by omega))))
  clear hX hg S9
  clear p0 p1 p2 p3 p4 p5 q0 q1 q2 q3 q4 q5
  obtain ⟨p0, p1, p2, p3, p4, p5, q0, q1, q2, q3, q4, q5⟩ := S10.out.2.1.facts
  go_upto_region 17 with (fail)
  clear p0 p1 p2 p3 p4 p5 q0 q1 q2 q3 q4 q5
  have S11 := Lib.hid (And.intro (show Bx 54 w10.drew (w.heap.size + 1) (.string (St l4)) (.int .i64 (k2 : Int)) from S10.out.1.keep (below_dr _ 1)) (And.intro (show B6 37 w10.drew w.heap.size (.bool b) (.bool false) (.string (St wh)) (.string (St pt)) (.string ⟨#[]⟩) (.string ⟨#[]⟩) from S10.out.2.1.keep (below_dr _ 1)) (show Below w.heap.size w w10.drew from below_trans S10.out.2.2 (below_dr _ 1))))
  refine wp_region_held_drew (S := fun W => W.cell? ⟨(w.heap.size + 1), 0, none⟩ = some (.string (St l4)) ∧ W.cell? ⟨(w.heap.size + 1), 1, none⟩ = some (.int .i64 (k2 : Int)) ∧ W.cell? ⟨w.heap.size, 0, none⟩ = some (.bool b) ∧ W.cell? ⟨w.heap.size, 1, none⟩ = some (.bool false) ∧ W.cell? ⟨w.heap.size, 2, none⟩ = some (.string (St wh)) ∧ W.cell? ⟨w.heap.size, 3, none⟩ = some (.string (St pt)) ∧ W.cell? ⟨w.heap.size, 4, none⟩ = some (.string ⟨#[]⟩) ∧ W.cell? ⟨w.heap.size, 5, none⟩ = some (.string ⟨#[]⟩)) (by kernel_rfl) ⟨S11.out.1.facts.1, S11.out.1.facts.2.1, S11.out.2.1.facts.1, S11.out.2.1.facts.2.1, S11.out.2.1.facts.2.2.1, S11.out.2.1.facts.2.2.2.1, S11.out.2.1.facts.2.2.2.2.1, S11.out.2.1.facts.2.2.2.2.2.1⟩ (fun hHeld => ?_)
  clear S10
  generalize w10.drew = Wd at S11 hHeld ⊢
  refine rgTake 0 hHeld ?_; try simp only [Act.put, List.setIfInBounds_toArray, List.set_cons_zero, List.set_cons_succ]
  refine rgTake 1 hHeld ?_; try simp only [Act.put, List.setIfInBounds_toArray, List.set_cons_zero, List.set_cons_succ]
  refine rgTake 2 hHeld ?_; try simp only [Act.put, List.setIfInBounds_toArray, List.set_cons_zero, List.set_cons_succ]
  refine rgTake 3 hHeld ?_; try simp only [Act.put, List.setIfInBounds_toArray, List.set_cons_zero, List.set_cons_succ]
  refine rgTake 4 hHeld ?_; try simp only [Act.put, List.setIfInBounds_toArray, List.set_cons_zero, List.set_cons_succ]
  refine rgTake 5 hHeld ?_; try simp only [Act.put, List.setIfInBounds_toArray, List.set_cons_zero, List.set_cons_succ]
  refine rgTake 6 hHeld ?_; try simp only [Act.put, List.setIfInBounds_toArray, List.set_cons_zero, List.set_cons_succ]
  refine rgSkip 7 hHeld ?_; try simp only [Act.put, List.setIfInBounds_toArray, List.set_cons_zero, List.set_cons_succ]
  refine rgSkip 8 hHeld ?_; try simp only [Act.put, List.setIfInBounds_toArray, List.set_cons_zero, List.set_cons_succ]
  refine rgSkip 9 hHeld ?_; try simp only [Act.put, List.setIfInBounds_toArray, List.set_cons_zero, List.set_cons_succ]
  refine rgSkip 10 hHeld ?_; try simp only [Act.put, List.setIfInBounds_toArray, List.set_cons_zero, List.set_cons_succ]
  refine rgSkip 11 hHeld ?_; try simp only [Act.put, List.setIfInBounds_toArray, List.set_cons_zero, List.set_cons_succ]
  refine rgSkip 12 hHeld ?_; try simp only [Act.put, List.setIfInBounds_toArray, List.set_cons_zero, List.set_cons_succ]
  refine rgTake 13 hHeld ?_; try simp only [Act.put, List.setIfInBounds_toArray, List.set_cons_zero, List.set_cons_succ]
  obtain ⟨p0, p1, p2, p3, p4, p5, q0, q1, q2, q3, q4, q5⟩ := S11.out.2.1.facts
  refine rgReady [14] (rgOne (fun K hK => ?_) rgNil)
  go_simp; clear p0 p1 p2 p3 p4 p5 q0 q1 q2 q3 q4 q5
  refine hK.out _ _ ⟨(S11.out.1.other6 (by omega)).facts.1, (S11.out.1.other6 (by omega)).facts.2.1, S11.out.2.1.self.facts.1, S11.out.2.1.self.facts.2.1, S11.out.2.1.self.facts.2.2.1, S11.out.2.1.self.facts.2.2.2.1, S11.out.2.1.self.facts.2.2.2.2.1, S11.out.2.1.self.facts.2.2.2.2.2.1⟩ (fun hHeld => ?_); clear hK K; try simp only [Act.put, List.setIfInBounds_toArray, List.set_cons_zero, List.set_cons_succ]
  refine rgTake 15 hHeld ?_; try simp only [Act.put, List.setIfInBounds_toArray, List.set_cons_zero, List.set_cons_succ]
  refine rgTake 16 hHeld ?_; try simp only [Act.put, List.setIfInBounds_toArray, List.set_cons_zero, List.set_cons_succ]
  refine wpAnyH_done (by kernel_rfl) ?_ _
  clear hHeld
  go_wp2_with fail
  refine ret_b6 S11.out.2.1.self (fun W d0 d1 d2 d3 d4 d5 => by simp [results, Tryd.results9, go_sem, d0, d1, d2, d3, d4, d5]; try rfl) rfl ?_
  exact ⟨rfl, below6 S11.out.2.2 (Nat.le_refl _)⟩
set_option maxRecDepth 100000 in
set_option maxHeartbeats 2000000 in
theorem split_011_111 {w : World} {l l1 l2 l3 l4 l5 l6 l7 wh pt ex : List UInt8} {sb s5 b sm z yb1 yb2 yb3 : Bool} (hM : l.length ≤ 9223372036854775807) (hb : (l.head? == some 45) = b) (c1 : cutC [43, 45] l = (sb, l1)) (d1 : digs l1 = wh) (r1 : rest l1 = l2) (c2 : cutC [47] l2 = (false, l2)) (c3 : cutC [46] l2 = (true, l3)) (d2 : digs l3 = pt) (r2 : rest l3 = l4) (c4 : cutC [101, 69] l4 = (true, l5)) (hs : (l5.head? == some 45) = sm) (c5 : cutC [43, 45] l5 = (s5, l6)) (d5 : digs l6 = ex) (r5 : rest l6 = l7) (b1 : wh.isEmpty = false) (b2 : pt.isEmpty = false) (b3 : ex.isEmpty = false) (bz : l7.isEmpty = z) :
    Calls Tryd.prog 9 #[.string (St l)] w fun e w' => e = .returned (.tuple #[.agg #[.bool b, .bool sm, .string (St wh), .string (St pt), .string (St ex), .string (St [])], .int .i64 ((wh.length + pt.length + ex.length : Nat) : Int), .bool (z)]) ∧ Below w.heap.size w w' := by
  have n0 := cut_le [43, 45] l
  rw [c1] at n0
  simp only at n0
  have n1 := digs_le l1
  rw [d1, r1] at n1
  have n2 := cut_le [46] l2
  rw [c3] at n2
  simp only at n2
  have n3 := digs_le l3
  rw [d2, r2] at n3
  have n4 := cut_le [101, 69] l4
  rw [c4] at n4
  simp only at n4
  have n5 := cut_le [43, 45] l5
  rw [c5] at n5
  simp only at n5
  have n6 := digs_le l6
  rw [d5, r5] at n6
  have mb1 : (St wh).toList.isEmpty = false := by rw [st_nil, b1]
  have mb2 : (St pt).toList.isEmpty = false := by rw [st_nil, b2]
  have mb3 : (St ex).toList.isEmpty = false := by rw [st_nil, b3]
  have mz : (St l7).toList.isEmpty = z := by rw [st_nil, bz]
  have HE := Lib.hid (And.intro hb (And.intro c1 (And.intro d1 (And.intro r1 (And.intro c2 (And.intro c3 (And.intro d2 (And.intro r2 (And.intro c4 (And.intro hs (And.intro c5 (And.intro d5 (r5)))))))))))))
  obtain ⟨k1, hk1⟩ : ∃ k, wh.length = k := ⟨_, rfl⟩
  obtain ⟨k2, hk2⟩ : ∃ k, wh.length + pt.length = k := ⟨_, rfl⟩
  obtain ⟨k3, hk3⟩ : ∃ k, wh.length + pt.length + ex.length = k := ⟨_, rfl⟩
  rw [hk3]
  have HK := Lib.hid (And.intro (show 0 + wh.length = k1 by omega) (And.intro (show 0 + l1.length ≤ 9223372036854775807 by omega) (And.intro (show k1 + pt.length = k2 by omega) (And.intro (show k1 + l3.length ≤ 9223372036854775807 by omega) (And.intro (show k2 + ex.length = k3 by omega) ((show k2 + l6.length ≤ 9223372036854775807 by omega)))))))
  clear hM hb c1 d1 r1 c2 c3 d2 r2 c4 hs c5 d5 r5 b1 b2 b3 bz n0 n1 n2 n3 n4 n5 n6 hk1 hk2 hk3
  go_enter Tryd.func9, Tryd.ntmps9
  go_upto_region 2 with (fail)
  have hP := (B6.new 37 w (.bool false) (.bool false) (.string ⟨#[]⟩) (.string ⟨#[]⟩) (.string ⟨#[]⟩) (.string ⟨#[]⟩)).alloc (.cells #[.string (St l), .int .i64 0] 54)
  have hX := Bx.new1 54 w (.cells #[.bool false, .bool false, .string ⟨#[]⟩, .string ⟨#[]⟩, .string ⟨#[]⟩, .string ⟨#[]⟩] 37) (.string (St l)) (.int .i64 0)
  have hb := below_trans (below_al w (.cells #[.bool false, .bool false, .string ⟨#[]⟩, .string ⟨#[]⟩, .string ⟨#[]⟩, .string ⟨#[]⟩] 37)) (below_al _ (.cells #[.string (St l), .int .i64 0] 54))
  have S1 := Lib.hid (And.intro (hX) (And.intro (hP) (hb)))
  clear hX hP hb
  generalize (w.alloc _).alloc _ = W1 at S1 ⊢
  obtain ⟨x0, x1, x2, x3⟩ := S1.out.1.facts
  go_wp2_with fail
  refine (prefix_st l _).mono ?_; rintro e W1 ⟨rfl, rfl⟩
  rw [HE.out.1]
  clear x0 x1 x2 x3
  obtain ⟨p0, p1, p2, p3, p4, p5, q0, q1, q2, q3, q4, q5⟩ := S1.out.2.1.facts
  go_upto_region 3 with (fail)
  clear p0 p1 p2 p3 p4 p5 q0 q1 q2 q3 q4 q5
  have S2 := Lib.hid (And.intro (S1.out.1.other (p := ⟨w.heap.size, 0, none⟩) (by show w.heap.size ≠ w.heap.size + 1; omega) (.bool b)) (And.intro (S1.out.2.1.set0 (.bool b)) (S1.out.2.2.setCell (p := ⟨w.heap.size, 0, none⟩) (Nat.le_refl _) (.bool b))))
  clear S1
  generalize W1.setCell _ _ = W2 at S2 ⊢
  obtain ⟨x0, x1, x2, x3⟩ := S2.out.1.facts
  go_wp2_with fail
  refine (take_l HE.out.2.1 S2.out.1).mono ?_; rintro e w3 ⟨rfl, hX, hg⟩
  clear x0 x1 x2 x3
  have S3 := Lib.hid (And.intro (hX) (And.intro (S2.out.2.1.grown hg (by omega)) (below_one S2.out.2.2 hg (by omega))))
  clear hX hg S2
  go_wp2_with fail
  refine (run_l (m := k1) HE.out.2.2.1 HE.out.2.2.2.1 HK.out.1 HK.out.2.1 S3.out.1).mono ?_; rintro e w4 ⟨rfl, hX, Wm, hb, hg⟩
  have S4 := Lib.hid (And.intro (hX) (And.intro ((S3.out.2.1.keep hb).grown hg (by omega)) (below_one (below_trans S3.out.2.2 hb) hg (by omega))))
  clear hX hg hb S3
  obtain ⟨p0, p1, p2, p3, p4, p5, q0, q1, q2, q3, q4, q5⟩ := S4.out.2.1.facts
  go_upto_region 5 with (fail)
  clear p0 p1 p2 p3 p4 p5 q0 q1 q2 q3 q4 q5
  have S5 := Lib.hid (And.intro (S4.out.1.other (p := ⟨w.heap.size, 2, none⟩) (by show w.heap.size ≠ w.heap.size + 1; omega) (.string (St wh))) (And.intro (S4.out.2.1.set2 (.string (St wh))) (S4.out.2.2.setCell (p := ⟨w.heap.size, 2, none⟩) (Nat.le_refl _) (.string (St wh)))))
  clear S4
  generalize w4.setCell _ _ = W5 at S5 ⊢
  obtain ⟨p0, p1, p2, p3, p4, p5, q0, q1, q2, q3, q4, q5⟩ := S5.out.2.1.facts
  obtain ⟨x0, x1, x2, x3⟩ := S5.out.1.facts
  go_wp2_with fail
  refine (take_l HE.out.2.2.2.2.1 S5.out.1).mono ?_; rintro e w6 ⟨rfl, hX, hg⟩
  clear x0 x1 x2 x3
  have S6 := Lib.hid (And.intro (hX) (And.intro (S5.out.2.1.grown hg (by omega)) (below_one S5.out.2.2 hg (by omega))))
  clear hX hg S5
  clear p0 p1 p2 p3 p4 p5 q0 q1 q2 q3 q4 q5
  obtain ⟨x0, x1, x2, x3⟩ := S6.out.1.facts
  go_wp2_with fail
  refine (take_l HE.out.2.2.2.2.2.1 S6.out.1).mono ?_; rintro e w7 ⟨rfl, hX, hg⟩
  clear x0 x1 x2 x3
  have S7 := Lib.hid (And.intro (hX) (And.intro (S6.out.2.1.grown hg (by omega)) (below_one S6.out.2.2 hg (by omega))))
  clear hX hg S6
  go_wp2_with fail
  refine (run_l (m := k2) HE.out.2.2.2.2.2.2.1 HE.out.2.2.2.2.2.2.2.1 HK.out.2.2.1 HK.out.2.2.2.1 S7.out.1).mono ?_; rintro e w8 ⟨rfl, hX, Wm, hb, hg⟩
  have S8 := Lib.hid (And.intro (hX) (And.intro ((S7.out.2.1.keep hb).grown hg (by omega)) (below_one (below_trans S7.out.2.2 hb) hg (by omega))))
  clear hX hg hb S7
  obtain ⟨p0, p1, p2, p3, p4, p5, q0, q1, q2, q3, q4, q5⟩ := S8.out.2.1.facts
  go_upto_region 11 with (fail)
  clear p0 p1 p2 p3 p4 p5 q0 q1 q2 q3 q4 q5
  have S9 := Lib.hid (And.intro (S8.out.1.other (p := ⟨w.heap.size, 3, none⟩) (by show w.heap.size ≠ w.heap.size + 1; omega) (.string (St pt))) (And.intro (S8.out.2.1.set3 (.string (St pt))) (S8.out.2.2.setCell (p := ⟨w.heap.size, 3, none⟩) (Nat.le_refl _) (.string (St pt)))))
  clear S8
  generalize w8.setCell _ _ = W9 at S9 ⊢
  obtain ⟨p0, p1, p2, p3, p4, p5, q0, q1, q2, q3, q4, q5⟩ := S9.out.2.1.facts
  obtain ⟨x0, x1, x2, x3⟩ := S9.out.1.facts
  go_wp2_with fail
  refine (take_l HE.out.2.2.2.2.2.2.2.2.1 S9.out.1).mono ?_; rintro e w10 ⟨rfl, hX, hg⟩
  clear x0 x1 x2 x3
  have S10 := Lib.hid (And.intro (hX) (And.intro (S9.out.2.1.grown hg (by omega)) (below_one S9.out.2.2 hg (by omega))))
  clear hX hg S9
  clear p0 p1 p2 p3 p4 p5 q0 q1 q2 q3 q4 q5
  obtain ⟨x0, x1, x2, x3⟩ := S10.out.1.facts
  go_wp2_with fail
  refine (prefix_st l5 _).mono ?_; rintro e w10 ⟨rfl, rfl⟩
  rw [HE.out.2.2.2.2.2.2.2.2.2.1]
  clear x0 x1 x2 x3
  obtain ⟨p0, p1, p2, p3, p4, p5, q0, q1, q2, q3, q4, q5⟩ := S10.out.2.1.facts
  go_upto_region 14 with (fail)
  clear p0 p1 p2 p3 p4 p5 q0 q1 q2 q3 q4 q5
  have S11 := Lib.hid (And.intro (S10.out.1.other (p := ⟨w.heap.size, 1, none⟩) (by show w.heap.size ≠ w.heap.size + 1; omega) (.bool sm)) (And.intro (S10.out.2.1.set1 (.bool sm)) (S10.out.2.2.setCell (p := ⟨w.heap.size, 1, none⟩) (Nat.le_refl _) (.bool sm))))
  clear S10
  generalize w10.setCell _ _ = W11 at S11 ⊢
  obtain ⟨x0, x1, x2, x3⟩ := S11.out.1.facts
  go_wp2_with fail
  refine (take_l HE.out.2.2.2.2.2.2.2.2.2.2.1 S11.out.1).mono ?_; rintro e w12 ⟨rfl, hX, hg⟩
  clear x0 x1 x2 x3
  have S12 := Lib.hid (And.intro (hX) (And.intro (S11.out.2.1.grown hg (by omega)) (below_one S11.out.2.2 hg (by omega))))
  clear hX hg S11
  go_wp2_with fail
  refine (run_l (m := k3) HE.out.2.2.2.2.2.2.2.2.2.2.2.1 HE.out.2.2.2.2.2.2.2.2.2.2.2.2 HK.out.2.2.2.2.1 HK.out.2.2.2.2.2 S12.out.1).mono ?_; rintro e w13 ⟨rfl, hX, Wm, hb, hg⟩
  have S13 := Lib.hid (And.intro (hX) (And.intro ((S12.out.2.1.keep hb).grown hg (by omega)) (below_one (below_trans S12.out.2.2 hb) hg (by omega))))
  clear hX hg hb S12
  obtain ⟨p0, p1, p2, p3, p4, p5, q0, q1, q2, q3, q4, q5⟩ := S13.out.2.1.facts
  go_upto_region 16 with (fail)
  clear p0 p1 p2 p3 p4 p5 q0 q1 q2 q3 q4 q5
  have S14 := Lib.hid (And.intro (S13.out.1.other (p := ⟨w.heap.size, 4, none⟩) (by show w.heap.size ≠ w.heap.size + 1; omega) (.string (St ex))) (And.intro (S13.out.2.1.set4 (.string (St ex))) (S13.out.2.2.setCell (p := ⟨w.heap.size, 4, none⟩) (Nat.le_refl _) (.string (St ex)))))
  clear S13
  generalize w13.setCell _ _ = W14 at S14 ⊢
  obtain ⟨p0, p1, p2, p3, p4, p5, q0, q1, q2, q3, q4, q5⟩ := S14.out.2.1.facts
  go_upto_region 17 with (fail)
  clear p0 p1 p2 p3 p4 p5 q0 q1 q2 q3 q4 q5
  have S15 := Lib.hid (And.intro (show Bx 54 W14.drew (w.heap.size + 1) (.string (St l7)) (.int .i64 (k3 : Int)) from S14.out.1.keep (below_dr _ 1)) (And.intro (show B6 37 W14.drew w.heap.size (.bool b) (.bool sm) (.string (St wh)) (.string (St pt)) (.string (St ex)) (.string ⟨#[]⟩) from S14.out.2.1.keep (below_dr _ 1)) (show Below w.heap.size w W14.drew from below_trans S14.out.2.2 (below_dr _ 1))))
  refine wp_region_held_drew (S := fun W => W.cell? ⟨(w.heap.size + 1), 0, none⟩ = some (.string (St l7)) ∧ W.cell? ⟨(w.heap.size + 1), 1, none⟩ = some (.int .i64 (k3 : Int)) ∧ W.cell? ⟨w.heap.size, 0, none⟩ = some (.bool b) ∧ W.cell? ⟨w.heap.size, 1, none⟩ = some (.bool sm) ∧ W.cell? ⟨w.heap.size, 2, none⟩ = some (.string (St wh)) ∧ W.cell? ⟨w.heap.size, 3, none⟩ = some (.string (St pt)) ∧ W.cell? ⟨w.heap.size, 4, none⟩ = some (.string (St ex)) ∧ W.cell? ⟨w.heap.size, 5, none⟩ = some (.string ⟨#[]⟩)) (by kernel_rfl) ⟨S15.out.1.facts.1, S15.out.1.facts.2.1, S15.out.2.1.facts.1, S15.out.2.1.facts.2.1, S15.out.2.1.facts.2.2.1, S15.out.2.1.facts.2.2.2.1, S15.out.2.1.facts.2.2.2.2.1, S15.out.2.1.facts.2.2.2.2.2.1⟩ (fun hHeld => ?_)
  clear S14
  generalize W14.drew = Wd at S15 hHeld ⊢
  refine rgTake 0 hHeld ?_; try simp only [Act.put, List.setIfInBounds_toArray, List.set_cons_zero, List.set_cons_succ]
  refine rgTake 1 hHeld ?_; try simp only [Act.put, List.setIfInBounds_toArray, List.set_cons_zero, List.set_cons_succ]
  refine rgTake 2 hHeld ?_; try simp only [Act.put, List.setIfInBounds_toArray, List.set_cons_zero, List.set_cons_succ]
  refine rgTake 3 hHeld ?_; try simp only [Act.put, List.setIfInBounds_toArray, List.set_cons_zero, List.set_cons_succ]
  refine rgTake 4 hHeld ?_; try simp only [Act.put, List.setIfInBounds_toArray, List.set_cons_zero, List.set_cons_succ]
  refine rgTake 5 hHeld ?_; try simp only [Act.put, List.setIfInBounds_toArray, List.set_cons_zero, List.set_cons_succ]
  refine rgTake 6 hHeld ?_; try simp only [Act.put, List.setIfInBounds_toArray, List.set_cons_zero, List.set_cons_succ]
  refine rgTake 7 hHeld ?_; try simp only [Act.put, List.setIfInBounds_toArray, List.set_cons_zero, List.set_cons_succ]
  refine rgTake 8 hHeld ?_; try simp only [Act.put, List.setIfInBounds_toArray, List.set_cons_zero, List.set_cons_succ]
  refine rgTake 9 hHeld ?_; try simp only [Act.put, List.setIfInBounds_toArray, List.set_cons_zero, List.set_cons_succ]
  refine rgTake 10 hHeld ?_; try simp only [Act.put, List.setIfInBounds_toArray, List.set_cons_zero, List.set_cons_succ]
  refine rgTake 11 hHeld ?_; try simp only [Act.put, List.setIfInBounds_toArray, List.set_cons_zero, List.set_cons_succ]
  refine rgTake 12 hHeld ?_; try simp only [Act.put, List.setIfInBounds_toArray, List.set_cons_zero, List.set_cons_succ]
  refine rgTake 13 hHeld ?_; try simp only [Act.put, List.setIfInBounds_toArray, List.set_cons_zero, List.set_cons_succ]
  obtain ⟨p0, p1, p2, p3, p4, p5, q0, q1, q2, q3, q4, q5⟩ := S15.out.2.1.facts
  refine rgReady [14] (rgOne (fun K hK => ?_) rgNil)
  go_simp; clear p0 p1 p2 p3 p4 p5 q0 q1 q2 q3 q4 q5
  refine hK.out _ _ ⟨(S15.out.1.other6 (by omega)).facts.1, (S15.out.1.other6 (by omega)).facts.2.1, S15.out.2.1.self.facts.1, S15.out.2.1.self.facts.2.1, S15.out.2.1.self.facts.2.2.1, S15.out.2.1.self.facts.2.2.2.1, S15.out.2.1.self.facts.2.2.2.2.1, S15.out.2.1.self.facts.2.2.2.2.2.1⟩ (fun hHeld => ?_); clear hK K; try simp only [Act.put, List.setIfInBounds_toArray, List.set_cons_zero, List.set_cons_succ]
  refine rgTake 15 hHeld ?_; try simp only [Act.put, List.setIfInBounds_toArray, List.set_cons_zero, List.set_cons_succ]
  refine rgTake 16 hHeld ?_; try simp only [Act.put, List.setIfInBounds_toArray, List.set_cons_zero, List.set_cons_succ]
  refine wpAnyH_done (by kernel_rfl) ?_ _
  clear hHeld
  go_wp2_with fail
  refine ret_b6 S15.out.2.1.self (fun W d0 d1 d2 d3 d4 d5 => by simp [results, Tryd.results9, go_sem, d0, d1, d2, d3, d4, d5]; try rfl) rfl ?_
  exact ⟨rfl, below6 S15.out.2.2 (Nat.le_refl _)⟩
set_option maxRecDepth 100000 in
set_option maxHeartbeats 2000000 in
theorem split_011_110 {w : World} {l l1 l2 l3 l4 l5 l6 l7 wh pt ex : List UInt8} {sb s5 b sm z yb1 yb2 yb3 : Bool} (hM : l.length ≤ 9223372036854775807) (hb : (l.head? == some 45) = b) (c1 : cutC [43, 45] l = (sb, l1)) (d1 : digs l1 = wh) (r1 : rest l1 = l2) (c2 : cutC [47] l2 = (false, l2)) (c3 : cutC [46] l2 = (true, l3)) (d2 : digs l3 = pt) (r2 : rest l3 = l4) (c4 : cutC [101, 69] l4 = (true, l5)) (hs : (l5.head? == some 45) = sm) (c5 : cutC [43, 45] l5 = (s5, l6)) (d5 : digs l6 = ex) (r5 : rest l6 = l7) (b1 : wh.isEmpty = false) (b2 : pt.isEmpty = false) (b3 : ex.isEmpty = true) (bz : l7.isEmpty = z) :
    Calls Tryd.prog 9 #[.string (St l)] w fun e w' => e = .returned (.tuple #[.agg #[.bool b, .bool sm, .string (St wh), .string (St pt), .string (St ex), .string (St [])], .int .i64 ((wh.length + pt.length + ex.length : Nat) : Int), .bool (false)]) ∧ Below w.heap.size w w' := by
  have n0 := cut_le [43, 45] l
  rw [c1] at n0
  simp only at n0
  have n1 := digs_le l1
  rw [d1, r1] at n1
  have n2 := cut_le [46] l2
  rw [c3] at n2
  simp only at n2
  have n3 := digs_le l3
  rw [d2, r2] at n3
  have n4 := cut_le [101, 69] l4
  rw [c4] at n4
  simp only at n4
  have n5 := cut_le [43, 45] l5
  rw [c5] at n5
  simp only at n5
  have n6 := digs_le l6
  rw [d5, r5] at n6
  have mb1 : (St wh).toList.isEmpty = false := by rw [st_nil, b1]
  have mb2 : (St pt).toList.isEmpty = false := by rw [st_nil, b2]
  have mb3 : (St ex).toList.isEmpty = true := by rw [st_nil, b3]
  have mz : (St l7).toList.isEmpty = z := by rw [st_nil, bz]
  have HE := Lib.hid (And.intro hb (And.intro c1 (And.intro d1 (And.intro r1 (And.intro c2 (And.intro c3 (And.intro d2 (And.intro r2 (And.intro c4 (And.intro hs (And.intro c5 (And.intro d5 (r5)))))))))))))
  obtain ⟨k1, hk1⟩ : ∃ k, wh.length = k := ⟨_, rfl⟩
  obtain ⟨k2, hk2⟩ : ∃ k, wh.length + pt.length = k := ⟨_, rfl⟩
  obtain ⟨k3, hk3⟩ : ∃ k, wh.length + pt.length + ex.length = k := ⟨_, rfl⟩
  rw [hk3]
  have HK := Lib.hid (And.intro (show 0 + wh.length = k1 by omega) (And.intro (show 0 + l1.length ≤ 9223372036854775807 by omega) (And.intro (show k1 + pt.length = k2 by omega) (And.intro (show k1 + l3.length ≤ 9223372036854775807 by omega) (And.intro (show k2 + ex.length = k3 by omega) ((show k2 + l6.length ≤ 9223372036854775807 by omega)))))))
  clear hM hb c1 d1 r1 c2 c3 d2 r2 c4 hs c5 d5 r5 b1 b2 b3 bz n0 n1 n2 n3 n4 n5 n6 hk1 hk2 hk3
  go_enter Tryd.func9, Tryd.ntmps9
  go_upto_region 2 with (fail)
  have hP := (B6.new 37 w (.bool false) (.bool false) (.string ⟨#[]⟩) (.string ⟨#[]⟩) (.string ⟨#[]⟩) (.string ⟨#[]⟩)).alloc (.cells #[.string (St l), .int .i64 0] 54)
  have hX := Bx.new1 54 w (.cells #[.bool false, .bool false, .string ⟨#[]⟩, .string ⟨#[]⟩, .string ⟨#[]⟩, .string ⟨#[]⟩] 37) (.string (St l)) (.int .i64 0)
  have hb := below_trans (below_al w (.cells #[.bool false, .bool false, .string ⟨#[]⟩, .string ⟨#[]⟩, .string ⟨#[]⟩, .string ⟨#[]⟩] 37)) (below_al _ (.cells #[.string (St l), .int .i64 0] 54))
  have S1 := Lib.hid (And.intro (hX) (And.intro (hP) (hb)))
  clear hX hP hb
  generalize (w.alloc _).alloc _ = W1 at S1 ⊢
  obtain ⟨x0, x1, x2, x3⟩ := S1.out.1.facts
  go_wp2_with fail
  refine (prefix_st l _).mono ?_; rintro e W1 ⟨rfl, rfl⟩
  rw [HE.out.1]
  clear x0 x1 x2 x3
  obtain ⟨p0, p1, p2, p3, p4, p5, q0, q1, q2, q3, q4, q5⟩ := S1.out.2.1.facts
  go_upto_region 3 with (fail)
  clear p0 p1 p2 p3 p4 p5 q0 q1 q2 q3 q4 q5
  have S2 := Lib.hid (And.intro (S1.out.1.other (p := ⟨w.heap.size, 0, none⟩) (by show w.heap.size ≠ w.heap.size + 1; omega) (.bool b)) (And.intro (S1.out.2.1.set0 (.bool b)) (S1.out.2.2.setCell (p := ⟨w.heap.size, 0, none⟩) (Nat.le_refl _) (.bool b))))
  clear S1
  generalize W1.setCell _ _ = W2 at S2 ⊢
  obtain ⟨x0, x1, x2, x3⟩ := S2.out.1.facts
  go_wp2_with fail
  refine (take_l HE.out.2.1 S2.out.1).mono ?_; rintro e w3 ⟨rfl, hX, hg⟩
  clear x0 x1 x2 x3
  have S3 := Lib.hid (And.intro (hX) (And.intro (S2.out.2.1.grown hg (by omega)) (below_one S2.out.2.2 hg (by omega))))
  clear hX hg S2
  go_wp2_with fail
  refine (run_l (m := k1) HE.out.2.2.1 HE.out.2.2.2.1 HK.out.1 HK.out.2.1 S3.out.1).mono ?_; rintro e w4 ⟨rfl, hX, Wm, hb, hg⟩
  have S4 := Lib.hid (And.intro (hX) (And.intro ((S3.out.2.1.keep hb).grown hg (by omega)) (below_one (below_trans S3.out.2.2 hb) hg (by omega))))
  clear hX hg hb S3
  obtain ⟨p0, p1, p2, p3, p4, p5, q0, q1, q2, q3, q4, q5⟩ := S4.out.2.1.facts
  go_upto_region 5 with (fail)
  clear p0 p1 p2 p3 p4 p5 q0 q1 q2 q3 q4 q5
  have S5 := Lib.hid (And.intro (S4.out.1.other (p := ⟨w.heap.size, 2, none⟩) (by show w.heap.size ≠ w.heap.size + 1; omega) (.string (St wh))) (And.intro (S4.out.2.1.set2 (.string (St wh))) (S4.out.2.2.setCell (p := ⟨w.heap.size, 2, none⟩) (Nat.le_refl _) (.string (St wh)))))
  clear S4
  generalize w4.setCell _ _ = W5 at S5 ⊢
  obtain ⟨p0, p1, p2, p3, p4, p5, q0, q1, q2, q3, q4, q5⟩ := S5.out.2.1.facts
  obtain ⟨x0, x1, x2, x3⟩ := S5.out.1.facts
  go_wp2_with fail
  refine (take_l HE.out.2.2.2.2.1 S5.out.1).mono ?_; rintro e w6 ⟨rfl, hX, hg⟩
  clear x0 x1 x2 x3
  have S6 := Lib.hid (And.intro (hX) (And.intro (S5.out.2.1.grown hg (by omega)) (below_one S5.out.2.2 hg (by omega))))
  clear hX hg S5
  clear p0 p1 p2 p3 p4 p5 q0 q1 q2 q3 q4 q5
  obtain ⟨x0, x1, x2, x3⟩ := S6.out.1.facts
  go_wp2_with fail
  refine (take_l HE.out.2.2.2.2.2.1 S6.out.1).mono ?_; rintro e w7 ⟨rfl, hX, hg⟩
  clear x0 x1 x2 x3
  have S7 := Lib.hid (And.intro (hX) (And.intro (S6.out.2.1.grown hg (by omega)) (below_one S6.out.2.2 hg (by omega))))
  clear hX hg S6
  go_wp2_with fail
  refine (run_l (m := k2) HE.out.2.2.2.2.2.2.1 HE.out.2.2.2.2.2.2.2.1 HK.out.2.2.1 HK.out.2.2.2.1 S7.out.1).mono ?_; rintro e w8 ⟨rfl, hX, Wm, hb, hg⟩
  have S8 := Lib.hid (And.intro (hX) (And.intro ((S7.out.2.1.keep hb).grown hg (by omega)) (below_one (below_trans S7.out.2.2 hb) hg (by omega))))
  clear hX hg hb S7
  obtain ⟨p0, p1, p2, p3, p4, p5, q0, q1, q2, q3, q4, q5⟩ := S8.out.2.1.facts
  go_upto_region 11 with (fail)
  clear p0 p1 p2 p3 p4 p5 q0 q1 q2 q3 q4 q5
  have S9 := Lib.hid (And.intro (S8.out.1.other (p := ⟨w.heap.size, 3, none⟩) (by show w.heap.size ≠ w.heap.size + 1; omega) (.string (St pt))) (And.intro (S8.out.2.1.set3 (.string (St pt))) (S8.out.2.2.setCell (p := ⟨w.heap.size, 3, none⟩) (Nat.le_refl _) (.string (St pt)))))
  clear S8
  generalize w8.setCell _ _ = W9 at S9 ⊢
  obtain ⟨p0, p1, p2, p3, p4, p5, q0, q1, q2, q3, q4, q5⟩ := S9.out.2.1.facts
  obtain ⟨x0, x1, x2, x3⟩ := S9.out.1.facts
  go_wp2_with fail
  refine (take_l HE.out.2.2.2.2.2.2.2.2.1 S9.out.1).mono ?_; rintro e w10 ⟨rfl, hX, hg⟩
  clear x0 x1 x2 x3
  have S10 := Lib.hid (And.intro (hX) (And.intro (S9.out.2.1.grown hg (by omega)) (below_one S9.out.2.2 hg (by omega))))
  clear hX hg S9
  clear p0 p1 p2 p3 p4 p5 q0 q1 q2 q3 q4 q5
  obtain ⟨x0, x1, x2, x3⟩ := S10.out.1.facts
  go_wp2_with fail
  refine (prefix_st l5 _).mono ?_; rintro e w10 ⟨rfl, rfl⟩
  rw [HE.out.2.2.2.2.2.2.2.2.2.1]
  clear x0 x1 x2 x3
  obtain ⟨p0, p1, p2, p3, p4, p5, q0, q1, q2, q3, q4, q5⟩ := S10.out.2.1.facts
  go_upto_region 14 with (fail)
  clear p0 p1 p2 p3 p4 p5 q0 q1 q2 q3 q4 q5
  have S11 := Lib.hid (And.intro (S10.out.1.other (p := ⟨w.heap.size, 1, none⟩) (by show w.heap.size ≠ w.heap.size + 1; omega) (.bool sm)) (And.intro (S10.out.2.1.set1 (.bool sm)) (S10.out.2.2.setCell (p := ⟨w.heap.size, 1, none⟩) (Nat.le_refl _) (.bool sm))))
  clear S10
  generalize w10.setCell _ _ = W11 at S11 ⊢
  obtain ⟨x0, x1, x2, x3⟩ := S11.out.1.facts
  go_wp2_with fail
  refine (take_l HE.out.2.2.2.2.2.2.2.2.2.2.1 S11.out.1).mono ?_; rintro e w12 ⟨rfl, hX, hg⟩
  clear x0 x1 x2 x3
  have S12 := Lib.hid (And.intro (hX) (And.intro (S11.out.2.1.grown hg (by omega)) (below_one S11.out.2.2 hg (by omega))))
  clear hX hg S11
  go_wp2_with fail
  refine (run_l (m := k3) HE.out.2.2.2.2.2.2.2.2.2.2.2.1 HE.out.2.2.2.2.2.2.2.2.2.2.2.2 HK.out.2.2.2.2.1 HK.out.2.2.2.2.2 S12.out.1).mono ?_; rintro e w13 ⟨rfl, hX, Wm, hb, hg⟩
  have S13 := Lib.hid (And.intro (hX) (And.intro ((S12.out.2.1.keep hb).grown hg (by omega)) (below_one (below_trans S12.out.2.2 hb) hg (by omega))))
  clear hX hg hb S12
  obtain ⟨p0, p1, p2, p3, p4, p5, q0, q1, q2, q3, q4, q5⟩ := S13.out.2.1.facts
  go_upto_region 16 with (fail)
  clear p0 p1 p2 p3 p4 p5 q0 q1 q2 q3 q4 q5
  have S14 := Lib.hid (And.intro (S13.out.1.other (p := ⟨w.heap.size, 4, none⟩) (by show w.heap.size ≠ w.heap.size + 1; omega) (.string (St ex))) (And.intro (S13.out.2.1.set4 (.string (St ex))) (S13.out.2.2.setCell (p := ⟨w.heap.size, 4, none⟩) (Nat.le_refl _) (.string (St ex)))))
  clear S13
  generalize w13.setCell _ _ = W14 at S14 ⊢
  obtain ⟨p0, p1, p2, p3, p4, p5, q0, q1, q2, q3, q4, q5⟩ := S14.out.2.1.facts
  go_upto_region 17 with (fail)
  clear p0 p1 p2 p3 p4 p5 q0 q1 q2 q3 q4 q5
  have S15 := Lib.hid (And.intro (show Bx 54 W14.drew (w.heap.size + 1) (.string (St l7)) (.int .i64 (k3 : Int)) from S14.out.1.keep (below_dr _ 1)) (And.intro (show B6 37 W14.drew w.heap.size (.bool b) (.bool sm) (.string (St wh)) (.string (St pt)) (.string (St ex)) (.string ⟨#[]⟩) from S14.out.2.1.keep (below_dr _ 1)) (show Below w.heap.size w W14.drew from below_trans S14.out.2.2 (below_dr _ 1))))
  refine wp_region_held_drew (S := fun W => W.cell? ⟨(w.heap.size + 1), 0, none⟩ = some (.string (St l7)) ∧ W.cell? ⟨(w.heap.size + 1), 1, none⟩ = some (.int .i64 (k3 : Int)) ∧ W.cell? ⟨w.heap.size, 0, none⟩ = some (.bool b) ∧ W.cell? ⟨w.heap.size, 1, none⟩ = some (.bool sm) ∧ W.cell? ⟨w.heap.size, 2, none⟩ = some (.string (St wh)) ∧ W.cell? ⟨w.heap.size, 3, none⟩ = some (.string (St pt)) ∧ W.cell? ⟨w.heap.size, 4, none⟩ = some (.string (St ex)) ∧ W.cell? ⟨w.heap.size, 5, none⟩ = some (.string ⟨#[]⟩)) (by kernel_rfl) ⟨S15.out.1.facts.1, S15.out.1.facts.2.1, S15.out.2.1.facts.1, S15.out.2.1.facts.2.1, S15.out.2.1.facts.2.2.1, S15.out.2.1.facts.2.2.2.1, S15.out.2.1.facts.2.2.2.2.1, S15.out.2.1.facts.2.2.2.2.2.1⟩ (fun hHeld => ?_)
  clear S14
  generalize W14.drew = Wd at S15 hHeld ⊢
  refine rgTake 0 hHeld ?_; try simp only [Act.put, List.setIfInBounds_toArray, List.set_cons_zero, List.set_cons_succ]
  refine rgTake 1 hHeld ?_; try simp only [Act.put, List.setIfInBounds_toArray, List.set_cons_zero, List.set_cons_succ]
  refine rgTake 2 hHeld ?_; try simp only [Act.put, List.setIfInBounds_toArray, List.set_cons_zero, List.set_cons_succ]
  refine rgTake 3 hHeld ?_; try simp only [Act.put, List.setIfInBounds_toArray, List.set_cons_zero, List.set_cons_succ]
  refine rgTake 4 hHeld ?_; try simp only [Act.put, List.setIfInBounds_toArray, List.set_cons_zero, List.set_cons_succ]
  refine rgTake 5 hHeld ?_; try simp only [Act.put, List.setIfInBounds_toArray, List.set_cons_zero, List.set_cons_succ]
  refine rgTake 6 hHeld ?_; try simp only [Act.put, List.setIfInBounds_toArray, List.set_cons_zero, List.set_cons_succ]
  refine rgSkip 7 hHeld ?_; try simp only [Act.put, List.setIfInBounds_toArray, List.set_cons_zero, List.set_cons_succ]
  refine rgSkip 8 hHeld ?_; try simp only [Act.put, List.setIfInBounds_toArray, List.set_cons_zero, List.set_cons_succ]
  refine rgSkip 9 hHeld ?_; try simp only [Act.put, List.setIfInBounds_toArray, List.set_cons_zero, List.set_cons_succ]
  refine rgSkip 10 hHeld ?_; try simp only [Act.put, List.setIfInBounds_toArray, List.set_cons_zero, List.set_cons_succ]
  refine rgSkip 11 hHeld ?_; try simp only [Act.put, List.setIfInBounds_toArray, List.set_cons_zero, List.set_cons_succ]
  refine rgSkip 12 hHeld ?_; try simp only [Act.put, List.setIfInBounds_toArray, List.set_cons_zero, List.set_cons_succ]
  refine rgTake 13 hHeld ?_; try simp only [Act.put, List.setIfInBounds_toArray, List.set_cons_zero, List.set_cons_succ]
  obtain ⟨p0, p1, p2, p3, p4, p5, q0, q1, q2, q3, q4, q5⟩ := S15.out.2.1.facts
  refine rgReady [14] (rgOne (fun K hK => ?_) rgNil)
  go_simp; clear p0 p1 p2 p3 p4 p5 q0 q1 q2 q3 q4 q5
  refine hK.out _ _ ⟨(S15.out.1.other6 (by omega)).facts.1, (S15.out.1.other6 (by omega)).facts.2.1, S15.out.2.1.self.facts.1, S15.out.2.1.self.facts.2.1, S15.out.2.1.self.facts.2.2.1, S15.out.2.1.self.facts.2.2.2.1, S15.out.2.1.self.facts.2.2.2.2.1, S15.out.2.1.self.facts.2.2.2.2.2.1⟩ (fun hHeld => ?_); clear hK K; try simp only [Act.put, List.setIfInBounds_toArray, List.set_cons_zero, List.set_cons_succ]
  refine rgTake 15 hHeld ?_; try simp only [Act.put, List.setIfInBounds_toArray, List.set_cons_zero, List.set_cons_succ]
  refine rgTake 16 hHeld ?_; try simp only [Act.put, List.setIfInBounds_toArray, List.set_cons_zero, List.set_cons_succ]
  refine wpAnyH_done (by kernel_rfl) ?_ _
  clear hHeld
  go_wp2_with fail
  refine ret_b6 S15.out.2.1.self (fun W d0 d1 d2 d3 d4 d5 => by simp [results, Tryd.results9, go_sem, d0, d1, d2, d3, d4, d5]; try rfl) rfl ?_
  exact ⟨rfl, below6 S15.out.2.2 (Nat.le_refl _)⟩
set_option maxRecDepth 100000 in
set_option maxHeartbeats 2000000 in
theorem split_011_102 {w : World} {l l1 l2 l3 l4 l5 l6 l7 wh pt ex : List UInt8} {sb s5 b sm z yb1 yb2 yb3 : Bool} (hM : l.length ≤ 9223372036854775807) (hb : (l.head? == some 45) = b) (c1 : cutC [43, 45] l = (sb, l1)) (d1 : digs l1 = wh) (r1 : rest l1 = l2) (c2 : cutC [47] l2 = (false, l2)) (c3 : cutC [46] l2 = (true, l3)) (d2 : digs l3 = pt) (r2 : rest l3 = l4) (c4 : cutC [101, 69] l4 = (true, l5)) (hs : (l5.head? == some 45) = sm) (c5 : cutC [43, 45] l5 = (s5, l6)) (d5 : digs l6 = ex) (r5 : rest l6 = l7) (b1 : wh.isEmpty = false) (b2 : pt.isEmpty = true) (b3 : ex.isEmpty = yb3) (bz : l7.isEmpty = z) :
    Calls Tryd.prog 9 #[.string (St l)] w fun e w' => e = .returned (.tuple #[.agg #[.bool b, .bool sm, .string (St wh), .string (St pt), .string (St ex), .string (St [])], .int .i64 ((wh.length + pt.length + ex.length : Nat) : Int), .bool (false)]) ∧ Below w.heap.size w w' := by
  have n0 := cut_le [43, 45] l
  rw [c1] at n0
  simp only at n0
  have n1 := digs_le l1
  rw [d1, r1] at n1
  have n2 := cut_le [46] l2
  rw [c3] at n2
  simp only at n2
  have n3 := digs_le l3
  rw [d2, r2] at n3
  have n4 := cut_le [101, 69] l4
  rw [c4] at n4
  simp only at n4
  have n5 := cut_le [43, 45] l5
  rw [c5] at n5
  simp only at n5
  have n6 := digs_le l6
  rw [d5, r5] at n6
  have mb1 : (St wh).toList.isEmpty = false := by rw [st_nil, b1]
  have mb2 : (St pt).toList.isEmpty = true := by rw [st_nil, b2]
  have mb3 : (St ex).toList.isEmpty = yb3 := by rw [st_nil, b3]
  have mz : (St l7).toList.isEmpty = z := by rw [st_nil, bz]
  have HE := Lib.hid (And.intro hb (And.intro c1 (And.intro d1 (And.intro r1 (And.intro c2 (And.intro c3 (And.intro d2 (And.intro r2 (And.intro c4 (And.intro hs (And.intro c5 (And.intro d5 (r5)))))))))))))
  obtain ⟨k1, hk1⟩ : ∃ k, wh.length = k := ⟨_, rfl⟩
  obtain ⟨k2, hk2⟩ : ∃ k, wh.length + pt.length = k := ⟨_, rfl⟩
  obtain ⟨k3, hk3⟩ : ∃ k, wh.length + pt.length + ex.length = k := ⟨_, rfl⟩
  rw [hk3]
  have HK := Lib.hid (And.intro (show 0 + wh.length = k1 by omega) (And.intro (show 0 + l1.length ≤ 9223372036854775807 by omega) (And.intro (show k1 + pt.length = k2 by omega) (And.intro (show k1 + l3.length ≤ 9223372036854775807 by omega) (And.intro (show k2 + ex.length = k3 by omega) ((show k2 + l6.length ≤ 9223372036854775807 by omega)))))))
  clear hM hb c1 d1 r1 c2 c3 d2 r2 c4 hs c5 d5 r5 b1 b2 b3 bz n0 n1 n2 n3 n4 n5 n6 hk1 hk2 hk3
  go_enter Tryd.func9, Tryd.ntmps9
  go_upto_region 2 with (fail)
  have hP := (B6.new 37 w (.bool false) (.bool false) (.string ⟨#[]⟩) (.string ⟨#[]⟩) (.string ⟨#[]⟩) (.string ⟨#[]⟩)).alloc (.cells #[.string (St l), .int .i64 0] 54)
  have hX := Bx.new1 54 w (.cells #[.bool false, .bool false, .string ⟨#[]⟩, .string ⟨#[]⟩, .string ⟨#[]⟩, .string ⟨#[]⟩] 37) (.string (St l)) (.int .i64 0)
  have hb := below_trans (below_al w (.cells #[.bool false, .bool false, .string ⟨#[]⟩, .string ⟨#[]⟩, .string ⟨#[]⟩, .string ⟨#[]⟩] 37)) (below_al _ (.cells #[.string (St l), .int .i64 0] 54))
  have S1 := Lib.hid (And.intro (hX) (And.intro (hP) (hb)))
  clear hX hP hb
  generalize (w.alloc _).alloc _ = W1 at S1 ⊢
  obtain ⟨x0, x1, x2, x3⟩ := S1.out.1.facts
  go_wp2_with fail
  refine (prefix_st l _).mono ?_; rintro e W1 ⟨rfl, rfl⟩
  rw [HE.out.1]
  clear x0 x1 x2 x3
  obtain ⟨p0, p1, p2, p3, p4, p5, q0, q1, q2, q3, q4, q5⟩ := S1.out.2.1.facts
  go_upto_region 3 with (fail)
  clear p0 p1 p2 p3 p4 p5 q0 q1 q2 q3 q4 q5
  have S2 := Lib.hid (And.intro (S1.out.1.other (p := ⟨w.heap.size, 0, none⟩) (by show w.heap.size ≠ w.heap.size + 1; omega) (.bool b)) (And.intro (S1.out.2.1.set0 (.bool b)) (S1.out.2.2.setCell (p := ⟨w.heap.size, 0, none⟩) (Nat.le_refl _) (.bool b))))
  clear S1
  generalize W1.setCell _ _ = W2 at S2 ⊢
  obtain ⟨x0, x1, x2, x3⟩ := S2.out.1.facts
  go_wp2_with fail
  refine (take_l HE.out.2.1 S2.out.1).mono ?_; rintro e w3 ⟨rfl, hX, hg⟩
  clear x0 x1 x2 x3
  have S3 := Lib.hid (And.intro (hX) (And.intro (S2.out.2.1.grown hg (by omega)) (below_one S2.out.2.2 hg (by omega))))
  clear hX hg S2
  go_wp2_with fail
  refine (run_l (m := k1) HE.out.2.2.1 HE.out.2.2.2.1 HK.out.1 HK.out.2.1 S3.out.1).mono ?_; rintro e w4 ⟨rfl, hX, Wm, hb, hg⟩
  have S4 := Lib.hid (And.intro (hX) (And.intro ((S3.out.2.1.keep hb).grown hg (by omega)) (below_one (below_trans S3.out.2.2 hb) hg (by omega))))
  clear hX hg hb S3
  obtain ⟨p0, p1, p2, p3, p4, p5, q0, q1, q2, q3, q4, q5⟩ := S4.out.2.1.facts
  go_upto_region 5 with (fail)
  clear p0 p1 p2 p3 p4 p5 q0 q1 q2 q3 q4 q5
  have S5 := Lib.hid (And.intro (S4.out.1.other (p := ⟨w.heap.size, 2, none⟩) (by show w.heap.size ≠ w.heap.size + 1; omega) (.string (St wh))) (And.intro (S4.out.2.1.set2 (.string (St wh))) (S4.out.2.2.setCell (p := ⟨w.heap.size, 2, none⟩) (Nat.le_refl _) (.string (St wh)))))
  clear S4
  generalize w4.setCell _ _ = W5 at S5 ⊢
  obtain ⟨p0, p1, p2, p3, p4, p5, q0, q1, q2, q3, q4, q5⟩ := S5.out.2.1.facts
  obtain ⟨x0, x1, x2, x3⟩ := S5.out.1.facts
  go_wp2_with fail
  refine (take_l HE.out.2.2.2.2.1 S5.out.1).mono ?_; rintro e w6 ⟨rfl, hX, hg⟩
  clear x0 x1 x2 x3
  have S6 := Lib.hid (And.intro (hX) (And.intro (S5.out.2.1.grown hg (by omega)) (below_one S5.out.2.2 hg (by omega))))
  clear hX hg S5
  clear p0 p1 p2 p3 p4 p5 q0 q1 q2 q3 q4 q5
  obtain ⟨x0, x1, x2, x3⟩ := S6.out.1.facts
  go_wp2_with fail
  refine (take_l HE.out.2.2.2.2.2.1 S6.out.1).mono ?_; rintro e w7 ⟨rfl, hX, hg⟩
  clear x0 x1 x2 x3
  have S7 := Lib.hid (And.intro (hX) (And.intro (S6.out.2.1.grown hg (by omega)) (below_one S6.out.2.2 hg (by omega))))
  clear hX hg S6
  go_wp2_with fail
  refine (run_l (m := k2) HE.out.2.2.2.2.2.2.1 HE.out.2.2.2.2.2.2.2.1 HK.out.2.2.1 HK.out.2.2.2.1 S7.out.1).mono ?_; rintro e w8 ⟨rfl, hX, Wm, hb, hg⟩
  have S8 := Lib.hid (And.intro (hX) (And.intro ((S7.out.2.1.keep hb).grown hg (by omega)) (below_one (below_trans S7.out.2.2 hb) hg (by omega))))
  clear hX hg hb S7
  obtain ⟨p0, p1, p2, p3, p4, p5, q0, q1, q2, q3, q4, q5⟩ := S8.out.2.1.facts
  go_upto_region 11 with (fail)
  clear p0 p1 p2 p3 p4 p5 q0 q1 q2 q3 q4 q5
  have S9 := Lib.hid (And.intro (S8.out.1.other (p := ⟨w.heap.size, 3, none⟩) (by show w.heap.size ≠ w.heap.size + 1; omega) (.string (St pt))) (And.intro (S8.out.2.1.set3 (.string (St pt))) (S8.out.2.2.setCell (p := ⟨w.heap.size, 3, none⟩) (Nat.le_refl _) (.string (St pt)))))
  clear S8
  generalize w8.setCell _ _ = W9 at S9 ⊢
  obtain ⟨p0, p1, p2, p3, p4, p5, q0, q1, q2, q3, q4, q5⟩ := S9.out.2.1.facts
  obtain ⟨x0, x1, x2, x3⟩ := S9.out.1.facts
  go_wp2_with fail
  refine (take_l HE.out.2.2.2.2.2.2.2.2.1 S9.out.1).mono ?_; rintro e w10 ⟨rfl, hX, hg⟩
  clear x0 x1 x2 x3
  have S10 := Lib.hid (And.intro (hX) (And.intro (S9.out.2.1.grown hg (by omega)) (below_one S9.out.2.2 hg (by omega))))
  clear hX hg S9
  clear p0 p1 p2 p3 p4 p5 q0 q1 q2 q3 q4 q5
  obtain ⟨x0, x1, x2, x3⟩ := S10.out.1.facts
  go_wp2_with fail
  refine (prefix_st l5 _).mono ?_; rintro e w10 ⟨rfl, rfl⟩
  rw [HE.out.2.2.2.2.2.2.2.2.2.1]
  clear x0 x1 x2 x3
  obtain ⟨p0, p1, p2, p3, p4, p5, q0, q1, q2, q3, q4, q5⟩ := S10.out.2.1.facts
  go_upto_region 14 with (fail)
  clear p0 p1 p2 p3 p4 p5 q0 q1 q2 q3 q4 q5
  have S11 := Lib.hid (And.intro (S10.out.1.other (p := ⟨w.heap.size, 1, none⟩) (by show w.heap.size ≠ w.heap.size + 1; omega) (.bool sm)) (And.intro (S10.out.2.1.set1 (.bool sm)) (S10.out.2.2.setCell (p := ⟨w.heap.size, 1, none⟩) (Nat.le_refl _) (.bool sm))))
  clear S10
  generalize w10.setCell _ _ = W11 at S11 ⊢
  obtain ⟨x0, x1, x2, x3⟩ := S11.out.1.facts
  go_wp2_with fail
  refine (take_l HE.out.2.2.2.2.2.2.2.2.2.2.1 S11.out.1).mono ?_; rintro e w12 ⟨rfl, hX, hg⟩
  clear x0 x1 x2 x3
  have S12 := Lib.hid (And.intro (hX) (And.intro (S11.out.2.1.grown hg (by omega)) (below_one S11.out.2.2 hg (by omega))))
  clear hX hg S11
  go_wp2_with fail
  refine (run_l (m := k3) HE.out.2.2.2.2.2.2.2.2.2.2.2.1 HE.out.2.2.2.2.2.2.2.2.2.2.2.2 HK.out.2.2.2.2.1 HK.out.2.2.2.2.2 S12.out.1).mono ?_; rintro e w13 ⟨rfl, hX, Wm, hb, hg⟩
  have S13 := Lib.hid (And.intro (hX) (And.intro ((S12.out.2.1.keep hb).grown hg (by omega)) (below_one (below_trans S12.out.2.2 hb) hg (by omega))))
  clear hX hg hb S12
  obtain ⟨p0, p1, p2, p3, p4, p5, q0, q1, q2, q3, q4, q5⟩ := S13.out.2.1.facts
  go_upto_region 16 with (fail)
  clear p0 p1 p2 p3 p4 p5 q0 q1 q2 q3 q4 q5
  have S14 := Lib.hid (And.intro (S13.out.1.other (p := ⟨w.heap.size, 4, none⟩) (by show w.heap.size ≠ w.heap.size + 1; omega) (.string (St ex))) (And.intro (S13.out.2.1.set4 (.string (St ex))) (S13.out.2.2.setCell (p := ⟨w.heap.size, 4, none⟩) (Nat.le_refl _) (.string (St ex)))))
  clear S13
  generalize w13.setCell _ _ = W14 at S14 ⊢
  obtain ⟨p0, p1, p2, p3, p4, p5, q0, q1, q2, q3, q4, q5⟩ := S14.out.2.1.facts
  go_upto_region 17 with (fail)
  clear p0 p1 p2 p3 p4 p5 q0 q1 q2 q3 q4 q5
  have S15 := Lib.hid (And.intro (show Bx 54 W14.drew (w.heap.size + 1) (.string (St l7)) (.int .i64 (k3 : Int)) from S14.out.1.keep (below_dr _ 1)) (And.intro (show B6 37 W14.drew w.heap.size (.bool b) (.bool sm) (.string (St wh)) (.string (St pt)) (.string (St ex)) (.string ⟨#[]⟩) from S14.out.2.1.keep (below_dr _ 1)) (show Below w.heap.size w W14.drew from below_trans S14.out.2.2 (below_dr _ 1))))
  refine wp_region_held_drew (S := fun W => W.cell? ⟨(w.heap.size + 1), 0, none⟩ = some (.string (St l7)) ∧ W.cell? ⟨(w.heap.size + 1), 1, none⟩ = some (.int .i64 (k3 : Int)) ∧ W.cell? ⟨w.heap.size, 0, none⟩ = some (.bool b) ∧ W.cell? ⟨w.heap.size, 1, none⟩ = some (.bool sm) ∧ W.cell? ⟨w.heap.size, 2, none⟩ = some (.string (St wh)) ∧ W.cell? ⟨w.heap.size, 3, none⟩ = some (.string (St pt)) ∧ W.cell? ⟨w.heap.size, 4, none⟩ = some (.string (St ex)) ∧ W.cell? ⟨w.heap.size, 5, none⟩ = some (.string ⟨#[]⟩)) (by kernel_rfl) ⟨S15.out.1.facts.1, S15.out.1.facts.2.1, S15.out.2.1.facts.1, S15.out.2.1.facts.2.1, S15.out.2.1.facts.2.2.1, S15.out.2.1.facts.2.2.2.1, S15.out.2.1.facts.2.2.2.2.1, S15.out.2.1.facts.2.2.2.2.2.1⟩ (fun hHeld => ?_)
  clear S14
  generalize W14.drew = Wd at S15 hHeld ⊢
  refine rgTake 0 hHeld ?_; try simp only [Act.put, List.setIfInBounds_toArray, List.set_cons_zero, List.set_cons_succ]
  refine rgTake 1 hHeld ?_; try simp only [Act.put, List.setIfInBounds_toArray, List.set_cons_zero, List.set_cons_succ]
  refine rgTake 2 hHeld ?_; try simp only [Act.put, List.setIfInBounds_toArray, List.set_cons_zero, List.set_cons_succ]
  refine rgTake 3 hHeld ?_; try simp only [Act.put, List.setIfInBounds_toArray, List.set_cons_zero, List.set_cons_succ]
  refine rgTake 4 hHeld ?_; try simp only [Act.put, List.setIfInBounds_toArray, List.set_cons_zero, List.set_cons_succ]
  refine rgTake 5 hHeld ?_; try simp only [Act.put, List.setIfInBounds_toArray, List.set_cons_zero, List.set_cons_succ]
  refine rgTake 6 hHeld ?_; try simp only [Act.put, List.setIfInBounds_toArray, List.set_cons_zero, List.set_cons_succ]
  refine rgSkip 7 hHeld ?_; try simp only [Act.put, List.setIfInBounds_toArray, List.set_cons_zero, List.set_cons_succ]
  refine rgSkip 8 hHeld ?_; try simp only [Act.put, List.setIfInBounds_toArray, List.set_cons_zero, List.set_cons_succ]
  refine rgSkip 9 hHeld ?_; try simp only [Act.put, List.setIfInBounds_toArray, List.set_cons_zero, List.set_cons_succ]
  refine rgSkip 10 hHeld ?_; try simp only [Act.put, List.setIfInBounds_toArray, List.set_cons_zero, List.set_cons_succ]
  refine rgSkip 11 hHeld ?_; try simp only [Act.put, List.setIfInBounds_toArray, List.set_cons_zero, List.set_cons_succ]
  refine rgSkip 12 hHeld ?_; try simp only [Act.put, List.setIfInBounds_toArray, List.set_cons_zero, List.set_cons_succ]
  refine rgTake 13 hHeld ?_; try simp only [Act.put, List.setIfInBounds_toArray, List.set_cons_zero, List.set_cons_succ]
  obtain ⟨p0, p1, p2, p3, p4, p5, q0, q1, q2, q3, q4, q5⟩ := S15.out.2.1.facts
  refine rgReady [14] (rgOne (fun K hK => ?_) rgNil)
  go_simp; clear p0 p1 p2 p3 p4 p5 q0 q1 q2 q3 q4 q5
  refine hK.out _ _ ⟨(S15.out.1.other6 (by omega)).facts.1, (S15.out.1.other6 (by omega)).facts.2.1, S15.out.2.1.self.facts.1, S15.out.2.1.self.facts.2.1, S15.out.2.1.self.facts.2.2.1, S15.out.2.1.self.facts.2.2.2.1, S15.out.2.1.self.facts.2.2.2.2.1, S15.out.2.1.self.facts.2.2.2.2.2.1⟩ (fun hHeld => ?_); clear hK K; try simp only [Act.put, List.setIfInBounds_toArray, List.set_cons_zero, List.set_cons_succ]
  refine rgTake 15 hHeld ?_; try simp only [Act.put, List.setIfInBounds_toArray, List.set_cons_zero, List.set_cons_succ]
  refine rgTake 16 hHeld ?_; try simp only [Act.put, List.setIfInBounds_toArray, List.set_cons_zero, List.set_cons_succ]
  refine wpAnyH_done (by kernel_rfl) ?_ _
  clear hHeld
  go_wp2_with fail
  refine ret_b6 S15.out.2.1.self (fun W d0 d1 d2 d3 d4 d5 => by simp [results, Tryd.results9, go_sem, d0, d1, d2, d3, d4, d5]; try rfl) rfl ?_
  exact ⟨rfl, below6 S15.out.2.2 (Nat.le_refl _)⟩
set_option maxRecDepth 100000 in
set_option maxHeartbeats 2000000 in
theorem split_011_022 {w : World} {l l1 l2 l3 l4 l5 l6 l7 wh pt ex : List UInt8} {sb s5 b sm z yb1 yb2 yb3 : Bool} (hM : l.length ≤ 9223372036854775807) (hb : (l.head? == some 45) = b) (c1 : cutC [43, 45] l = (sb, l1)) (d1 : digs l1 = wh) (r1 : rest l1 = l2) (c2 : cutC [47] l2 = (false, l2)) (c3 : cutC [46] l2 = (true, l3)) (d2 : digs l3 = pt) (r2 : rest l3 = l4) (c4 : cutC [101, 69] l4 = (true, l5)) (hs : (l5.head? == some 45) = sm) (c5 : cutC [43, 45] l5 = (s5, l6)) (d5 : digs l6 = ex) (r5 : rest l6 = l7) (b1 : wh.isEmpty = true) (b2 : pt.isEmpty = yb2) (b3 : ex.isEmpty = yb3) (bz : l7.isEmpty = z) :
    Calls Tryd.prog 9 #[.string (St l)] w fun e w' => e = .returned (.tuple #[.agg #[.bool b, .bool sm, .string (St wh), .string (St pt), .string (St ex), .string (St [])], .int .i64 ((wh.length + pt.length + ex.length : Nat) : Int), .bool (false)]) ∧ Below w.heap.size w w' := by
  have n0 := cut_le [43, 45] l
  rw [c1] at n0
  simp only at n0
  have n1 := digs_le l1
  rw [d1, r1] at n1
  have n2 := cut_le [46] l2
  rw [c3] at n2
  simp only at n2
  have n3 := digs_le l3
  rw [d2, r2] at n3
  have n4 := cut_le [101, 69] l4
  rw [c4] at n4
  simp only at n4
  have n5 := cut_le [43, 45] l5
  rw [c5] at n5
  simp only at n5
  have n6 := digs_le l6
  rw [d5, r5] at n6
  have mb1 : (St wh).toList.isEmpty = true := by rw [st_nil, b1]
  have mb2 : (St pt).toList.isEmpty = yb2 := by rw [st_nil, b2]
  have mb3 : (St ex).toList.isEmpty = yb3 := by rw [st_nil, b3]
  have mz : (St l7).toList.isEmpty = z := by rw [st_nil, bz]
  have HE := Lib.hid (And.intro hb (And.intro c1 (And.intro d1 (And.intro r1 (And.intro c2 (And.intro c3 (And.intro d2 (And.intro r2 (And.intro c4 (And.intro hs (And.intro c5 (And.intro d5 (r5)))))))))))))
  obtain ⟨k1, hk1⟩ : ∃ k, wh.length = k := ⟨_, rfl⟩
  obtain ⟨k2, hk2⟩ : ∃ k, wh.length + pt.length = k := ⟨_, rfl⟩
  obtain ⟨k3, hk3⟩ : ∃ k, wh.length + pt.length + ex.length = k := ⟨_, rfl⟩
  rw [hk3]
  have HK := Lib.hid (And.intro (show 0 + wh.length = k1 by omega) (And.intro (show 0 + l1.length ≤ 9223372036854775807 by omega) (And.intro (show k1 + pt.length = k2 by omega) (And.intro (show k1 + l3.length ≤ 9223372036854775807 by omega) (And.intro (show k2 + ex.length = k3 by omega) ((show k2 + l6.length ≤ 9223372036854775807 by omega)))))))
  clear hM hb c1 d1 r1 c2 c3 d2 r2 c4 hs c5 d5 r5 b1 b2 b3 bz n0 n1 n2 n3 n4 n5 n6 hk1 hk2 hk3
  go_enter Tryd.func9, Tryd.ntmps9
  go_upto_region 2 with (fail)
  have hP := (B6.new 37 w (.bool false) (.bool false) (.string ⟨#[]⟩) (.string ⟨#[]⟩) (.string ⟨#[]⟩) (.string ⟨#[]⟩)).alloc (.cells #[.string (St l), .int .i64 0] 54)
  have hX := Bx.new1 54 w (.cells #[.bool false, .bool false, .string ⟨#[]⟩, .string ⟨#[]⟩, .string ⟨#[]⟩, .string ⟨#[]⟩] 37) (.string (St l)) (.int .i64 0)
  have hb := below_trans (below_al w (.cells #[.bool false, .bool false, .string ⟨#[]⟩, .string ⟨#[]⟩, .string ⟨#[]⟩, .string ⟨#[]⟩] 37)) (below_al _ (.cells #[.string (St l), .int .i64 0] 54))
  have S1 := Lib.hid (And.intro (hX) (And.intro (hP) (hb)))
  clear hX hP hb
  generalize (w.alloc _).alloc _ = W1 at S1 ⊢
  obtain ⟨x0, x1, x2, x3⟩ := S1.out.1.facts
  go_wp2_with fail
  refine (prefix_st l _).mono ?_; rintro e W1 ⟨rfl, rfl⟩
  rw [HE.out.1]
  clear x0 x1 x2 x3
  obtain ⟨p0, p1, p2, p3, p4, p5, q0, q1, q2, q3, q4, q5⟩ := S1.out.2.1.facts
  go_upto_region 3 with (fail)
  clear p0 p1 p2 p3 p4 p5 q0 q1 q2 q3 q4 q5
  have S2 := Lib.hid (And.intro (S1.out.1.other (p := ⟨w.heap.size, 0, none⟩) (by show w.heap.size ≠ w.heap.size + 1; omega) (.bool b)) (And.intro (S1.out.2.1.set0 (.bool b)) (S1.out.2.2.setCell (p := ⟨w.heap.size, 0, none⟩) (Nat.le_refl _) (.bool b))))
  clear S1
  generalize W1.setCell _ _ = W2 at S2 ⊢
  obtain ⟨x0, x1, x2, x3⟩ := S2.out.1.facts
  go_wp2_with fail
  refine (take_l HE.out.2.1 S2.out.1).mono ?_; rintro e w3 ⟨rfl, hX, hg⟩
  clear x0 x1 x2 x3
  have S3 := Lib.hid (And.intro (hX) (And.intro (S2.out.2.1.grown hg (by omega)) (below_one S2.out.2.2 hg (by omega))))
  clear hX hg S2
  go_wp2_with fail
  refine (run_l (m := k1) HE.out.2.2.1 HE.out.2.2.2.1 HK.out.1 HK.out.2.1 S3.out.1).mono ?_; rintro e w4 ⟨rfl, hX, Wm, hb, hg⟩
  have S4 := Lib.hid (And.intro (hX) (And.intro ((S3.out.2.1.keep hb).grown hg (by omega)) (below_one (below_trans S3.out.2.2 hb) hg (by omega))))
  clear hX hg hb S3
  obtain ⟨p0, p1, p2, p3, p4, p5, q0, q1, q2, q3, q4, q5⟩ := S4.out.2.1.facts
  go_upto_region 5 with (fail)
  clear p0 p1 p2 p3 p4 p5 q0 q1 q2 q3 q4 q5
  have S5 := Lib.hid (And.intro (S4.out.1.other (p := ⟨w.heap.size, 2, none⟩) (by show w.heap.size ≠ w.heap.size + 1; omega) (.string (St wh))) (And.intro (S4.out.2.1.set2 (.string (St wh))) (S4.out.2.2.setCell (p := ⟨w.heap.size, 2, none⟩) (Nat.le_refl _) (.string (St wh)))))
  clear S4
  generalize w4.setCell _ _ = W5 at S5 ⊢
  obtain ⟨p0, p1, p2, p3, p4, p5, q0, q1, q2, q3, q4, q5⟩ := S5.out.2.1.facts
  obtain ⟨x0, x1, x2, x3⟩ := S5.out.1.facts
  go_wp2_with fail
  refine (take_l HE.out.2.2.2.2.1 S5.out.1).mono ?_; rintro e w6 ⟨rfl, hX, hg⟩
  clear x0 x1 x2 x3
  have S6 := Lib.hid (And.intro (hX) (And.intro (S5.out.2.1.grown hg (by omega)) (below_one S5.out.2.2 hg (by omega))))
  clear hX hg S5
  clear p0 p1 p2 p3 p4 p5 q0 q1 q2 q3 q4 q5
  obtain ⟨x0, x1, x2, x3⟩ := S6.out.1.facts
  go_wp2_with fail
  refine (take_l HE.out.2.2.2.2.2.1 S6.out.1).mono ?_; rintro e w7 ⟨rfl, hX, hg⟩
  clear x0 x1 x2 x3
  have S7 := Lib.hid (And.intro (hX) (And.intro (S6.out.2.1.grown hg (by omega)) (below_one S6.out.2.2 hg (by omega))))
  clear hX hg S6
  go_wp2_with fail
  refine (run_l (m := k2) HE.out.2.2.2.2.2.2.1 HE.out.2.2.2.2.2.2.2.1 HK.out.2.2.1 HK.out.2.2.2.1 S7.out.1).mono ?_; rintro e w8 ⟨rfl, hX, Wm, hb, hg⟩
  have S8 := Lib.hid (And.intro (hX) (And.intro ((S7.out.2.1.keep hb).grown hg (by omega)) (below_one (below_trans S7.out.2.2 hb) hg (by omega))))
  clear hX hg hb S7
  obtain ⟨p0, p1, p2, p3, p4, p5, q0, q1, q2, q3, q4, q5⟩ := S8.out.2.1.facts
  go_upto_region 11 with (fail)
  clear p0 p1 p2 p3 p4 p5 q0 q1 q2 q3 q4 q5
  have S9 := Lib.hid (And.intro (S8.out.1.other (p := ⟨w.heap.size, 3, none⟩) (by show w.heap.size ≠ w.heap.size + 1; omega) (.string (St pt))) (And.intro (S8.out.2.1.set3 (.string (St pt))) (S8.out.2.2.setCell (p := ⟨w.heap.size, 3, none⟩) (Nat.le_refl _) (.string (St pt)))))
  clear S8
  generalize w8.setCell _ _ = W9 at S9 ⊢
  obtain ⟨p0, p1, p2, p3, p4, p5, q0, q1, q2, q3, q4, q5⟩ := S9.out.2.1.facts
  obtain ⟨x0, x1, x2, x3⟩ := S9.out.1.facts
  go_wp2_with fail
  refine (take_l HE.out.2.2.2.2.2.2.2.2.1 S9.out.1).mono ?_; rintro e w10 ⟨rfl, hX, hg⟩
  clear x0 x1 x2 x3
  have S10 := Lib.hid (And.intro (hX) (And.intro (S9.out.2.1.grown hg (by omega)) (below_one S9.out.2.2 hg (by omega))))
  clear hX hg S9
  clear p0 p1 p2 p3 p4 p5 q0 q1 q2 q3 q4 q5
  obtain ⟨x0, x1, x2, x3⟩ := S10.out.1.facts
  go_wp2_with fail
  refine (prefix_st l5 _).mono ?_; rintro e w10 ⟨rfl, rfl⟩
  rw [HE.out.2.2.2.2.2.2.2.2.2.1]
  clear x0 x1 x2 x3
  obtain ⟨p0, p1, p2, p3, p4, p5, q0, q1, q2, q3, q4, q5⟩ := S10.out.2.1.facts
  go_upto_region 14 with (fail)
  clear p0 p1 p2 p3 p4 p5 q0 q1 q2 q3 q4 q5
  have S11 := Lib.hid (And.intro (S10.out.1.other (p := ⟨w.heap.size, 1, none⟩) (by show w.heap.size ≠ w.heap.size + 1; omega) (.bool sm)) (And.intro (S10.out.2.1.set1 (.bool sm)) (S10.out.2.2.setCell (p := ⟨w.heap.size, 1, none⟩) (Nat.le_refl _) (.bool sm))))
  clear S10
  generalize w10.setCell _ _ = W11 at S11 ⊢
  obtain ⟨x0, x1, x2, x3⟩ := S11.out.1.facts
  go_wp2_with fail
  refine (take_l HE.out.2.2.2.2.2.2.2.2.2.2.1 S11.out.1).mono ?_; rintro e w12 ⟨rfl, hX, hg⟩
  clear x0 x1 x2 x3
  have S12 := Lib.hid (And.intro (hX) (And.intro (S11.out.2.1.grown hg (by omega)) (below_one S11.out.2.2 hg (by omega))))
  clear hX hg S11
  go_wp2_with fail
  refine (run_l (m := k3) HE.out.2.2.2.2.2.2.2.2.2.2.2.1 HE.out.2.2.2.2.2.2.2.2.2.2.2.2 HK.out.2.2.2.2.1 HK.out.2.2.2.2.2 S12.out.1).mono ?_; rintro e w13 ⟨rfl, hX, Wm, hb, hg⟩
  have S13 := Lib.hid (And.intro (hX) (And.intro ((S12.out.2.1.keep hb).grown hg (by omega)) (below_one (below_trans S12.out.2.2 hb) hg (by omega))))
  clear hX hg hb S12
  obtain ⟨p0, p1, p2, p3, p4, p5, q0, q1, q2, q3, q4, q5⟩ := S13.out.2.1.facts
  go_upto_region 16 with (fail)
  clear p0 p1 p2 p3 p4 p5 q0 q1 q2 q3 q4 q5
  have S14 := Lib.hid (And.intro (S13.out.1.other (p := ⟨w.heap.size, 4, none⟩) (by show w.heap.size ≠ w.heap.size + 1; omega) (.string (St ex))) (And.intro (S13.out.2.1.set4 (.string (St ex))) (S13.out.2.2.setCell (p := ⟨w.heap.size, 4, none⟩) (Nat.le_refl _) (.string (St ex)))))
  clear S13
  generalize w13.setCell _ _ = W14 at S14 ⊢
  obtain ⟨p0, p1, p2, p3, p4, p5, q0, q1, q2, q3, q4, q5⟩ := S14.out.2.1.facts
  go_upto_region 17 with (fail)
  clear p0 p1 p2 p3 p4 p5 q0 q1 q2 q3 q4 q5
  have S15 := Lib.hid (And.intro (show Bx 54 W14.drew (w.heap.size + 1) (.string (St l7)) (.int .i64 (k3 : Int)) from S14.out.1.keep (below_dr _ 1)) (And.intro (show B6 37 W14.drew w.heap.size (.bool b) (.bool sm) (.string (St wh)) (.string (St pt)) (.string (St ex)) (.string ⟨#[]⟩) from S14.out.2.1.keep (below_dr _ 1)) (show Below w.heap.size w W14.drew from below_trans S14.out.2.2 (below_dr _ 1))))
  refine wp_region_held_drew (S := fun W => W.cell? ⟨(w.heap.size + 1), 0, none⟩ = some (.string (St l7)) ∧ W.cell? ⟨(w.heap.size + 1), 1, none⟩ = some (.int .i64 (k3 : Int)) ∧ W.cell? ⟨w.heap.size, 0, none⟩ = some (.bool b) ∧ W.cell? ⟨w.heap.size, 1, none⟩ = some (.bool sm) ∧ W.cell? ⟨w.heap.size, 2, none⟩ = some (.string (St wh)) ∧ W.cell? ⟨w.heap.size, 3, none⟩ = some (.string (St pt)) ∧ W.cell? ⟨w.heap.size, 4, none⟩ = some (.string (St ex)) ∧ W.cell? ⟨w.heap.size, 5, none⟩ = some (.string ⟨#[]⟩)) (by kernel_rfl) ⟨S15.out.1.facts.1, S15.out.1.facts.2.1, S15.out.2.1.facts.1, S15.out.2.1.facts.2.1, S15.out.2.1.facts.2.2.1, S15.out.2.1.facts.2.2.2.1, S15.out.2.1.facts.2.2.2.2.1, S15.out.2.1.facts.2.2.2.2.2.1⟩ (fun hHeld => ?_)
  clear S14
  generalize W14.drew = Wd at S15 hHeld ⊢
  refine rgTake 0 hHeld ?_; try simp only [Act.put, List.setIfInBounds_toArray, List.set_cons_zero, List.set_cons_succ]
  refine rgTake 1 hHeld ?_; try simp only [Act.put, List.setIfInBounds_toArray, List.set_cons_zero, List.set_cons_succ]
  refine rgTake 2 hHeld ?_; try simp only [Act.put, List.setIfInBounds_toArray, List.set_cons_zero, List.set_cons_succ]
  refine rgTake 3 hHeld ?_; try simp only [Act.put, List.setIfInBounds_toArray, List.set_cons_zero, List.set_cons_succ]
  refine rgTake 4 hHeld ?_; try simp only [Act.put, List.setIfInBounds_toArray, List.set_cons_zero, List.set_cons_succ]
  refine rgTake 5 hHeld ?_; try simp only [Act.put, List.setIfInBounds_toArray, List.set_cons_zero, List.set_cons_succ]
  refine rgTake 6 hHeld ?_; try simp only [Act.put, List.setIfInBounds_toArray, List.set_cons_zero, List.set_cons_succ]
  refine rgSkip 7 hHeld ?_; try simp only [Act.put, List.setIfInBounds_toArray, List.set_cons_zero, List.set_cons_succ]
  refine rgSkip 8 hHeld ?_; try simp only [Act.put, List.setIfInBounds_toArray, List.set_cons_zero, List.set_cons_succ]
  refine rgSkip 9 hHeld ?_; try simp only [Act.put, List.setIfInBounds_toArray, List.set_cons_zero, List.set_cons_succ]
  refine rgSkip 10 hHeld ?_; try simp only [Act.put, List.setIfInBounds_toArray, List.set_cons_zero, List.set_cons_succ]
  refine rgSkip 11 hHeld ?_; try simp only [Act.put, List.setIfInBounds_toArray, List.set_cons_zero, List.set_cons_succ]
  refine rgSkip 12 hHeld ?_; try simp only [Act.put, List.setIfInBounds_toArray, List.set_cons_zero, List.set_cons_succ]
  refine rgTake 13 hHeld ?_; try simp only [Act.put, List.setIfInBounds_toArray, List.set_cons_zero, List.set_cons_succ]
  obtain ⟨p0, p1, p2, p3, p4, p5, q0, q1, q2, q3, q4, q5⟩ := S15.out.2.1.facts
  refine rgReady [14] (rgOne (fun K hK => ?_) rgNil)
  go_simp; clear p0 p1 p2 p3 p4 p5 q0 q1 q2 q3 q4 q5
  refine hK.out _ _ ⟨(S15.out.1.other6 (by omega)).facts.1, (S15.out.1.other6 (by omega)).facts.2.1, S15.out.2.1.self.facts.1, S15.out.2.1.self.facts.2.1, S15.out.2.1.self.facts.2.2.1, S15.out.2.1.self.facts.2.2.2.1, S15.out.2.1.self.facts.2.2.2.2.1, S15.out.2.1.self.facts.2.2.2.2.2.1⟩ (fun hHeld => ?_); clear hK K; try simp only [Act.put, List.setIfInBounds_toArray, List.set_cons_zero, List.set_cons_succ]
  refine rgTake 15 hHeld ?_; try simp only [Act.put, List.setIfInBounds_toArray, List.set_cons_zero, List.set_cons_succ]
  refine rgTake 16 hHeld ?_; try simp only [Act.put, List.setIfInBounds_toArray, List.set_cons_zero, List.set_cons_succ]
  refine wpAnyH_done (by kernel_rfl) ?_ _
  clear hHeld
  go_wp2_with fail
  refine ret_b6 S15.out.2.1.self (fun W d0 d1 d2 d3 d4 d5 => by simp [results, Tryd.results9, go_sem, d0, d1, d2, d3, d4, d5]; try rfl) rfl ?_
  exact ⟨rfl, below6 S15.out.2.2 (Nat.le_refl _)⟩
end Go.Proofs.YtclaiidoomdklaaDoor
