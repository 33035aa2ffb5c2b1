/-
  ratext.Parse, from what split says; the examples of the document; the law RatextShows, walked.
-/
import Derived.Test.YtclaiidoomdklaaDoorRC
namespace Go.Proofs.YtclaiidoomdklaaDoor
section
open Go Go.RowKit Go.Proofs Pl
set_option linter.unusedVariables false
set_option linter.unusedSimpArgs false
/-- What split says of a text. -/
def SplitSays (s : ByteArray) (b sm : Bool) (wh pt ex ov : List UInt8) (d : Nat) (ok : Bool) : Prop :=
  ∀ W, Calls Tryd.prog 9 #[.string s] W fun e w' => e = .returned (.tuple #[.agg #[.bool b, .bool sm, .string (St wh), .string (St pt), .string (St ex), .string (St ov)], .int .i64 (d : Int), .bool ok]) ∧ Below W.heap.size W w'
theorem value_l {w : World} (l : List UInt8) (hl : l.length ≤ 1000) : Calls Tryd.prog 10 #[.string (St l)] w fun e w' => ∃ v, e = .returned v ∧ Rs w w' v (valT l) := by
  have h := value_s (w := w) (St l) (by rw [st_size]; omega)
  rwa [st_list] at h
theorem st_app (a b : List UInt8) : St a ++ St b = St (a ++ b) := bytes_ext (by rw [Go.Joins.data_append, st_list, st_list, st_list])
/-- A word's cell. -/
def Cw (w : World) (g o n : Nat) : Prop := w.cell? ⟨g, o, none⟩ = some (.int .u64 (n : Int)) ∧ g < w.heap.size
theorem Cw.keep {w w' : World} {g o n : Nat} (h : Cw w g o n) (hb : Below w.heap.size w w') : Cw w' g o n := ⟨(hb.cell h.2).trans h.1, Nat.lt_of_lt_of_le h.2 hb.size⟩
theorem one_cell {w : World} {v : Value} {n : Nat} (h : Nl w v [n]) : ∃ g o c, v = .slice (some ⟨g, o, none⟩) 1 c ∧ Cw w g o n := by
  obtain ⟨A, c, rfl, ⟨-, h2⟩, -⟩ := h
  rcases h2 with h2 | ⟨b, o, rfl, h4⟩
  · cases h2
  · have := h4 0 n rfl
    exact ⟨b, o, c, rfl, this, World.block_lt_of_cell? w _ this⟩
theorem nine_nm (w : World) : Nm (w.alloc (.cells #[.int .u64 990] 42)) 1 (.slice (some ⟨w.heap.size, 0, none⟩) 1 1) 990 := nm_one w 990 (by rw [WB_eq]; decide)
set_option maxRecDepth 100000 in
set_option maxHeartbeats 2000000 in
theorem rparse_bad {w : World} {s : ByteArray} {b sm : Bool} {wh pt ex ov : List UInt8} {d : Nat} (hs : SplitSays s b sm wh pt ex ov d false) :
    Calls Tryd.prog 5 #[.string s] w fun e w' => e = .returned (.tuple #[.agg #[.bool false, .slice none 0 0, .slice none 0 0], .int .i64 5]) ∧ Below w.heap.size w w' := by
  have HS := Lib.hid hs
  clear hs
  go_enter Tryd.func5, Tryd.ntmps5
  go_upto_region 1 with (fail)
  have hX := B3.new 27 w (.bool false) (.slice none 0 0) (.slice none 0 0)
  have S0 := Lib.hid (And.intro (hX) (below_al w (.cells #[.bool false, .slice none 0 0, .slice none 0 0] 27)))
  clear hX
  generalize w.alloc _ = W0 at S0 ⊢
  go_wp2_with fail
  refine (HS.out _).mono ?_; rintro e w1 ⟨rfl, hb⟩
  have S1 := Lib.hid (And.intro (S0.out.1.keep (hb)) (below_trans (S0.out.2) (hb)))
  clear hb  S0
  go_upto_region 2 with (fail)
  have hP := B6.new 37 w1 (.bool b) (.bool sm) (.string (St wh)) (.string (St pt)) (.string (St ex)) (.string (St ov))
  obtain ⟨gp, hgp⟩ : ∃ g, g = w1.heap.size := ⟨_, rfl⟩
  have S2 := Lib.hid (And.intro (S1.out.1.keep ((below_al w1 (.cells #[.bool b, .bool sm, .string (St wh), .string (St pt), .string (St ex), .string (St ov)] 37)))) (And.intro (hP) (And.intro ((show w.heap.size < w1.heap.size from S1.out.1.lt)) (below_trans (S1.out.2) ((below_al w1 (.cells #[.bool b, .bool sm, .string (St wh), .string (St pt), .string (St ex), .string (St ov)] 37)))))))
  clear hP S1
  generalize w1.alloc _ = W1 at S2 ⊢
  rw [← hgp] at S2 ⊢
  clear hgp
  have hgz := S2.out.2.2.1
  have S3 := Lib.hid (And.intro (S2.out.1) (And.intro (S2.out.2.1) (S2.out.2.2.2)))
  clear S2
  obtain ⟨f0, f1, f2, f3, f4, f5⟩ := S3.out.1.facts
  go_wp2_with fail
  refine ret_b3 S3.out.1 (fun W d0 d1 d2 => by simp [results, Tryd.results5, go_sem, d0, d1, d2]; try rfl) rfl ?_
  exact ⟨rfl, S3.out.1.below S3.out.2.2 (Nat.le_refl _) _ _ _⟩
set_option maxRecDepth 100000 in
set_option maxHeartbeats 2000000 in
theorem rparse_zero {w : World} {s : ByteArray} {b sm : Bool} {wh pt ex ov : List UInt8} {d E : Nat} (hs : SplitSays s b sm wh pt ex ov d true) (hd : d ≤ 200) (hl : wh.length + pt.length + ex.length + ov.length ≤ 200) (hw : 0 < wh.length) (hE : valT (ex ++ [48]) = E) (hE9 : E ≤ 990) (ho : ov.isEmpty = false) (h0 : valT ov = 0) :
    Calls Tryd.prog 5 #[.string s] w fun e w' => e = .returned (.tuple #[.agg #[.bool false, .slice none 0 0, .slice none 0 0], .int .i64 3]) ∧ Below w.heap.size w w' := by
  have HS := Lib.hid hs
  have e1 : decide ((200 : Int) < (d : Int)) = false := decide_eq_false (by omega)
  have z1 : (St ex).size ≤ 1000 := by rw [st_size]; omega
  have z2 : (St wh).size ≤ 1000 := by rw [st_size]; omega
  have z3 : (St pt).size ≤ 199 := by rw [st_size]; omega
  have hv := fun W => value_s (w := W) (St ex ++ ByteArray.mk #[48]) (by rw [app_size]; show _ + 1 ≤ _; omega)
  rw [show (St ex ++ ByteArray.mk #[48]).data.toList = ex ++ [48] by rw [Go.Joins.data_append, st_list], hE] at hv
  obtain ⟨c, hc⟩ : ∃ c, cmpN E 990 = c := ⟨_, rfl⟩
  have e2 : decide ((0 : Int) < c) = false := decide_eq_false (by rw [← hc, cmpN]; split <;> (try split) <;> omega)
  have e3 : (St ov).toList.isEmpty = false := by rw [st_nil, ho]
  have HV := Lib.hid (And.intro hv (And.intro hc (show E < WB ^ 200 by rw [← hE]; exact valT_lt _)))
  have ey : (sg false (valT ov)).natAbs = valT ov := sg_abs _ _
  have eu : upz (sg b (valT wh)) (sg false (valT ov)) = sg b (valT wh) := by unfold upz; rw [if_neg (by simp [sg])]
  obtain ⟨x, hx⟩ : ∃ x, sg b (valT wh) = x := ⟨_, rfl⟩
  obtain ⟨y, hy⟩ : ∃ y, sg false (valT ov) = y := ⟨_, rfl⟩
  have hy0 : y = 0 := by rw [← hy]; rw [h0]; rfl
  rw [hx, hy] at eu
  rw [hy] at ey
  have bx : x.natAbs < WB ^ 200 := by rw [← hx, sg_abs]; exact valT_lt _
  have b_y : y.natAbs < WB ^ 200 := by rw [ey]; exact valT_lt _
  have HL := Lib.hid (And.intro hx (And.intro hy (And.intro hy0 (And.intro bx (And.intro b_y (And.intro (show wh.length ≤ 1000 by omega) (show ov.length ≤ 1000 by omega)))))))
  clear hs hd hl hw hE hE9 ho h0 hv hc ey eu hx hy hy0 bx b_y
  go_enter Tryd.func5, Tryd.ntmps5
  go_upto_region 1 with (fail)
  have hX := B3.new 27 w (.bool false) (.slice none 0 0) (.slice none 0 0)
  have S0 := Lib.hid (And.intro (hX) (below_al w (.cells #[.bool false, .slice none 0 0, .slice none 0 0] 27)))
  clear hX
  generalize w.alloc _ = W0 at S0 ⊢
  go_wp2_with fail
  refine (HS.out _).mono ?_; rintro e w1 ⟨rfl, hb⟩
  have S1 := Lib.hid (And.intro (S0.out.1.keep (hb)) (below_trans (S0.out.2) (hb)))
  clear hb  S0
  go_upto_region 2 with (fail)
  have hP := B6.new 37 w1 (.bool b) (.bool sm) (.string (St wh)) (.string (St pt)) (.string (St ex)) (.string (St ov))
  obtain ⟨gp, hgp⟩ : ∃ g, g = w1.heap.size := ⟨_, rfl⟩
  have S2 := Lib.hid (And.intro (S1.out.1.keep ((below_al w1 (.cells #[.bool b, .bool sm, .string (St wh), .string (St pt), .string (St ex), .string (St ov)] 37)))) (And.intro (hP) (And.intro ((show w.heap.size < w1.heap.size from S1.out.1.lt)) (below_trans (S1.out.2) ((below_al w1 (.cells #[.bool b, .bool sm, .string (St wh), .string (St pt), .string (St ex), .string (St ov)] 37)))))))
  clear hP S1
  generalize w1.alloc _ = W1 at S2 ⊢
  rw [← hgp] at S2 ⊢
  clear hgp
  have hgz := S2.out.2.2.1
  have S3 := Lib.hid (And.intro (S2.out.1) (And.intro (S2.out.2.1) (S2.out.2.2.2)))
  clear S2
  obtain ⟨Pa, Pb, Pc, Pd, Pe, Pf, -, -, -, -, -, -⟩ := S3.out.2.1.facts
  go_wp2_with fail
  refine (HV.out.1 _).mono ?_; rintro e wv ⟨v, rfl, h⟩
  clear Pa Pb Pc Pd Pe Pf
  obtain ⟨Ax, lx, cx, rfl⟩ := h.form
  have S4 := Lib.hid (And.intro (S3.out.1.keep (h.2)) (And.intro (S3.out.2.1.keep (h.2)) (And.intro (h.nm HV.out.2.2) (And.intro (h.nl) (below_trans (S3.out.2.2) (h.2))))))
  clear h S3
  go_wp2_with fail
  refine (cmp_nm (S4.out.2.2.1.keep (below_al _ _)) (nine_nm _)).mono ?_; rintro e wc ⟨rfl, hb⟩
  rw [HV.out.2.1]
  have S5 := Lib.hid (And.intro (S4.out.1.keep ((below_trans (below_al _ _) hb))) (And.intro (S4.out.2.1.keep ((below_trans (below_al _ _) hb))) (And.intro (S4.out.2.2.1.keep ((below_trans (below_al _ _) hb))) (And.intro (S4.out.2.2.2.1.keep ((below_trans (below_al _ _) hb))) (below_trans (S4.out.2.2.2.2) ((below_trans (below_al _ _) hb)))))))
  clear hb S4
  obtain ⟨Pa, Pb, Pc, Pd, Pe, Pf, -, -, -, -, -, -⟩ := S5.out.2.1.facts
  go_upto_region 8 with (fail)
  clear Pa Pb Pc Pd Pe Pf
  go_upto_region 8 with (fail)
  have S6 := Lib.hid (And.intro (S5.out.1.keep (below_dr _ 1)) (And.intro (S5.out.2.1.keep (below_dr _ 1)) (And.intro (S5.out.2.2.1.keep (below_dr _ 1)) (And.intro (S5.out.2.2.2.1.keep (below_dr _ 1)) (below_trans (S5.out.2.2.2.2) (below_dr _ 1))))))
  refine wp_region_held_drew (S := fun W => W.cell? ⟨gp, 0, none⟩ = some (.bool b) ∧ W.cell? ⟨gp, 1, none⟩ = some (.bool sm) ∧ W.cell? ⟨gp, 2, none⟩ = some (.string (St wh)) ∧ W.cell? ⟨gp, 3, none⟩ = some (.string (St pt)) ∧ W.cell? ⟨gp, 4, none⟩ = some (.string (St ex)) ∧ W.cell? ⟨gp, 5, none⟩ = some (.string (St ov))) (by kernel_rfl) ⟨S6.out.2.1.facts.1, S6.out.2.1.facts.2.1, S6.out.2.1.facts.2.2.1, S6.out.2.1.facts.2.2.2.1, S6.out.2.1.facts.2.2.2.2.1, S6.out.2.1.facts.2.2.2.2.2.1⟩ (fun hHeld => ?_)
  refine rgTake 0 hHeld ?_; try simp only [Act.put, List.setIfInBounds_toArray, List.set_cons_zero, List.set_cons_succ]
  refine rgTake 1 hHeld ?_; try simp only [Act.put, List.setIfInBounds_toArray, List.set_cons_zero, List.set_cons_succ]
  refine rgTake 2 hHeld ?_; try simp only [Act.put, List.setIfInBounds_toArray, List.set_cons_zero, List.set_cons_succ]
  refine rgTake 3 hHeld ?_; try simp only [Act.put, List.setIfInBounds_toArray, List.set_cons_zero, List.set_cons_succ]
  refine rgTake 6 hHeld ?_; try simp only [Act.put, List.setIfInBounds_toArray, List.set_cons_zero, List.set_cons_succ]
  refine rgTake 7 hHeld ?_; try simp only [Act.put, List.setIfInBounds_toArray, List.set_cons_zero, List.set_cons_succ]
  refine rgReady [4] (rgOne (fun K hK => ?_) rgNil)
  go_simp
  go_at_call 10; refine (value_l wh HL.out.2.2.2.2.2.1).mono ?_; rintro e w7 ⟨v, rfl, h⟩
  have S7 := Lib.hid (And.intro (S6.out.1.keep (h.2)) (And.intro (S6.out.2.1.keep (h.2)) (And.intro (S6.out.2.2.1.keep (h.2)) (And.intro (S6.out.2.2.2.1.keep (h.2)) (And.intro (h.nm (valT_lt _)) (below_trans (S6.out.2.2.2.2) (h.2)))))))
  clear h hHeld
  go_wp2_with fail
  refine hK.out _ _ ⟨S7.out.2.1.facts.1, S7.out.2.1.facts.2.1, S7.out.2.1.facts.2.2.1, S7.out.2.1.facts.2.2.2.1, S7.out.2.1.facts.2.2.2.2.1, S7.out.2.1.facts.2.2.2.2.2.1⟩ (fun hHeld => ?_); clear hK K; try simp only [Act.put, List.setIfInBounds_toArray, List.set_cons_zero, List.set_cons_succ]
  refine rgReady [5] (rgOne (fun K hK => ?_) rgNil)
  go_simp
  go_at_call 13; refine (make_z b S7.out.2.2.2.2.1 (by decide)).mono ?_; rintro e w8 ⟨v, rfl, h⟩
  have S8 := Lib.hid (And.intro (S7.out.1.keep (h.below)) (And.intro (S7.out.2.1.keep (h.below)) (And.intro (S7.out.2.2.1.keep (h.below)) (And.intro (S7.out.2.2.2.1.keep (h.below)) (And.intro (S7.out.2.2.2.2.1.keep (h.below)) (And.intro ((show Zn _ 200 _ x from by have h := h; rw [HL.out.1] at h; exact h.zn HL.out.2.2.2.1)) (below_trans (S7.out.2.2.2.2.2) (h.below))))))))
  clear h hHeld
  go_wp2_with fail
  refine hK.out _ _ ⟨S8.out.2.1.facts.1, S8.out.2.1.facts.2.1, S8.out.2.1.facts.2.2.1, S8.out.2.1.facts.2.2.2.1, S8.out.2.1.facts.2.2.2.2.1, S8.out.2.1.facts.2.2.2.2.2.1⟩ (fun hHeld => ?_); clear hK K; try simp only [Act.put, List.setIfInBounds_toArray, List.set_cons_zero, List.set_cons_succ]
  refine rgReady [8] (rgOne (fun K hK => ?_) rgNil)
  go_simp
  go_at_call 10; refine (value_l ov HL.out.2.2.2.2.2.2).mono ?_; rintro e w9 ⟨v, rfl, h⟩
  have S9 := Lib.hid (And.intro (S8.out.1.keep (h.2)) (And.intro (S8.out.2.1.keep (h.2)) (And.intro (S8.out.2.2.1.keep (h.2)) (And.intro (S8.out.2.2.2.1.keep (h.2)) (And.intro (S8.out.2.2.2.2.1.keep (h.2)) (And.intro (S8.out.2.2.2.2.2.1.keep (h.2)) (And.intro (h.nm (valT_lt _)) (below_trans (S8.out.2.2.2.2.2.2) (h.2)))))))))
  clear h hHeld
  go_wp2_with fail
  refine hK.out _ _ ⟨S9.out.2.1.facts.1, S9.out.2.1.facts.2.1, S9.out.2.1.facts.2.2.1, S9.out.2.1.facts.2.2.2.1, S9.out.2.1.facts.2.2.2.2.1, S9.out.2.1.facts.2.2.2.2.2.1⟩ (fun hHeld => ?_); clear hK K; try simp only [Act.put, List.setIfInBounds_toArray, List.set_cons_zero, List.set_cons_succ]
  refine rgReady [9] (rgOne (fun K hK => ?_) rgNil)
  go_simp
  go_at_call 13; refine (make_z false S9.out.2.2.2.2.2.2.1 (by decide)).mono ?_; rintro e w10 ⟨v, rfl, h⟩
  have S10 := Lib.hid (And.intro (S9.out.1.keep (h.below)) (And.intro (S9.out.2.1.keep (h.below)) (And.intro (S9.out.2.2.1.keep (h.below)) (And.intro (S9.out.2.2.2.1.keep (h.below)) (And.intro (S9.out.2.2.2.2.1.keep (h.below)) (And.intro (S9.out.2.2.2.2.2.1.keep (h.below)) (And.intro (S9.out.2.2.2.2.2.2.1.keep (h.below)) (And.intro ((show Zn _ 200 _ y from by have h := h; rw [HL.out.2.1] at h; exact h.zn HL.out.2.2.2.2.1)) (below_trans (S9.out.2.2.2.2.2.2.2) (h.below))))))))))
  clear h hHeld
  go_wp2_with fail
  refine hK.out _ _ ⟨S10.out.2.1.facts.1, S10.out.2.1.facts.2.1, S10.out.2.1.facts.2.2.1, S10.out.2.1.facts.2.2.2.1, S10.out.2.1.facts.2.2.2.2.1, S10.out.2.1.facts.2.2.2.2.2.1⟩ (fun hHeld => ?_); clear hK K; try simp only [Act.put, List.setIfInBounds_toArray, List.set_cons_zero, List.set_cons_succ]
  refine rgReady [10] (rgOne (fun K hK => ?_) rgNil)
  go_simp
  go_at_call 12; refine (make_q0 S10.out.2.2.2.2.2.1 S10.out.2.2.2.2.2.2.2.1 (by decide) HL.out.2.2.1).mono ?_; rintro e w11 ⟨rfl, hb⟩
  have S11 := Lib.hid (And.intro (S10.out.1.keep (hb)) (And.intro (S10.out.2.1.keep (hb)) (And.intro (S10.out.2.2.1.keep (hb)) (And.intro (S10.out.2.2.2.1.keep (hb)) (And.intro (S10.out.2.2.2.2.1.keep (hb)) (And.intro (S10.out.2.2.2.2.2.1.keep (hb)) (And.intro (S10.out.2.2.2.2.2.2.1.keep (hb)) (And.intro (S10.out.2.2.2.2.2.2.2.1.keep (hb)) (below_trans (S10.out.2.2.2.2.2.2.2.2) (hb))))))))))
  clear hb hHeld
  go_wp2_with fail
  refine hK.out _ _ ⟨S11.out.2.1.facts.1, S11.out.2.1.facts.2.1, S11.out.2.1.facts.2.2.1, S11.out.2.1.facts.2.2.2.1, S11.out.2.1.facts.2.2.2.2.1, S11.out.2.1.facts.2.2.2.2.2.1⟩ (fun hHeld => ?_); clear hK K; try simp only [Act.put, List.setIfInBounds_toArray, List.set_cons_zero, List.set_cons_succ]
  refine rgTake 11 hHeld ?_; try simp only [Act.put, List.setIfInBounds_toArray, List.set_cons_zero, List.set_cons_succ]
  refine rgTake 12 hHeld ?_; try simp only [Act.put, List.setIfInBounds_toArray, List.set_cons_zero, List.set_cons_succ]
  obtain ⟨f0, f1, f2, f3, f4, f5⟩ := S11.out.1.facts
  refine rgReady [13] (rgOne (fun K hK => ?_) rgNil)
  go_simp; clear f0 f1 f2 f3 f4 f5
  refine hK.out _ _ ⟨cell_st3 _ S11.out.2.1.facts.1 (by omega), cell_st3 _ S11.out.2.1.facts.2.1 (by omega), cell_st3 _ S11.out.2.1.facts.2.2.1 (by omega), cell_st3 _ S11.out.2.1.facts.2.2.2.1 (by omega), cell_st3 _ S11.out.2.1.facts.2.2.2.2.1 (by omega), cell_st3 _ S11.out.2.1.facts.2.2.2.2.2.1 (by omega)⟩ (fun hHeld => ?_); clear hK K; try simp only [Act.put, List.setIfInBounds_toArray, List.set_cons_zero, List.set_cons_succ]
  refine rgTake 14 hHeld ?_; try simp only [Act.put, List.setIfInBounds_toArray, List.set_cons_zero, List.set_cons_succ]
  refine wpAnyH_done (by kernel_rfl) ?_ _
  clear hHeld
  go_wp2_with fail
  refine ret_b3 S11.out.1 (fun W d0 d1 d2 => by simp [results, Tryd.results5, go_sem, d0, d1, d2]; try rfl) rfl ?_
  exact ⟨rfl, S11.out.1.below S11.out.2.2.2.2.2.2.2.2 (Nat.le_refl _) _ _ _⟩
set_option maxRecDepth 100000 in
set_option maxHeartbeats 2000000 in
theorem rparse_over {w : World} {s : ByteArray} {b sm : Bool} {wh pt ex ov : List UInt8} {d E : Nat} (hs : SplitSays s b sm wh pt ex ov d true) (hd : d ≤ 200) (hl : wh.length + pt.length + ex.length + ov.length ≤ 200) (hw : 0 < wh.length) (hE : valT (ex ++ [48]) = E) (hE9 : E ≤ 990) (ho : ov.isEmpty = false) (h0 : valT ov ≠ 0) :
    Calls Tryd.prog 5 #[.string s] w fun e w' => ∃ v, e = .returned (.tuple #[v, .int .i64 0]) ∧ Qs w w' v (qn (sg b (valT wh)) (valT ov)) (qd (sg b (valT wh)) (valT ov)) := by
  have HS := Lib.hid hs
  have e1 : decide ((200 : Int) < (d : Int)) = false := decide_eq_false (by omega)
  have z1 : (St ex).size ≤ 1000 := by rw [st_size]; omega
  have z2 : (St wh).size ≤ 1000 := by rw [st_size]; omega
  have z3 : (St pt).size ≤ 199 := by rw [st_size]; omega
  have hv := fun W => value_s (w := W) (St ex ++ ByteArray.mk #[48]) (by rw [app_size]; show _ + 1 ≤ _; omega)
  rw [show (St ex ++ ByteArray.mk #[48]).data.toList = ex ++ [48] by rw [Go.Joins.data_append, st_list], hE] at hv
  obtain ⟨c, hc⟩ : ∃ c, cmpN E 990 = c := ⟨_, rfl⟩
  have e2 : decide ((0 : Int) < c) = false := decide_eq_false (by rw [← hc, cmpN]; split <;> (try split) <;> omega)
  have e3 : (St ov).toList.isEmpty = false := by rw [st_nil, ho]
  have HV := Lib.hid (And.intro hv (And.intro hc (show E < WB ^ 200 by rw [← hE]; exact valT_lt _)))
  have ey : (sg false (valT ov)).natAbs = valT ov := sg_abs _ _
  have eu : upz (sg b (valT wh)) (sg false (valT ov)) = sg b (valT wh) := by unfold upz; rw [if_neg (by simp [sg])]
  obtain ⟨x, hx⟩ : ∃ x, sg b (valT wh) = x := ⟨_, rfl⟩
  obtain ⟨y, hy⟩ : ∃ y, sg false (valT ov) = y := ⟨_, rfl⟩
  have hy0 : y ≠ 0 := by rw [← hy]; exact fun h => h0 (by have := congrArg Int.natAbs h; rwa [sg_abs] at this)
  rw [hx, hy] at eu
  rw [hy] at ey
  have bx : x.natAbs < WB ^ 200 := by rw [← hx, sg_abs]; exact valT_lt _
  have b_y : y.natAbs < WB ^ 200 := by rw [ey]; exact valT_lt _
  rw [hx, ← ey]
  rw [← eu]
  have HL := Lib.hid (And.intro hx (And.intro hy (And.intro hy0 (And.intro bx (And.intro b_y (And.intro (show wh.length ≤ 1000 by omega) (show ov.length ≤ 1000 by omega)))))))
  clear hs hd hl hw hE hE9 ho h0 hv hc ey eu hx hy hy0 bx b_y
  go_enter Tryd.func5, Tryd.ntmps5
  go_upto_region 1 with (fail)
  have hX := B3.new 27 w (.bool false) (.slice none 0 0) (.slice none 0 0)
  have S0 := Lib.hid (And.intro (hX) (below_al w (.cells #[.bool false, .slice none 0 0, .slice none 0 0] 27)))
  clear hX
  generalize w.alloc _ = W0 at S0 ⊢
  go_wp2_with fail
  refine (HS.out _).mono ?_; rintro e w1 ⟨rfl, hb⟩
  have S1 := Lib.hid (And.intro (S0.out.1.keep (hb)) (below_trans (S0.out.2) (hb)))
  clear hb  S0
  go_upto_region 2 with (fail)
  have hP := B6.new 37 w1 (.bool b) (.bool sm) (.string (St wh)) (.string (St pt)) (.string (St ex)) (.string (St ov))
  obtain ⟨gp, hgp⟩ : ∃ g, g = w1.heap.size := ⟨_, rfl⟩
  have S2 := Lib.hid (And.intro (S1.out.1.keep ((below_al w1 (.cells #[.bool b, .bool sm, .string (St wh), .string (St pt), .string (St ex), .string (St ov)] 37)))) (And.intro (hP) (And.intro ((show w.heap.size < w1.heap.size from S1.out.1.lt)) (below_trans (S1.out.2) ((below_al w1 (.cells #[.bool b, .bool sm, .string (St wh), .string (St pt), .string (St ex), .string (St ov)] 37)))))))
  clear hP S1
  generalize w1.alloc _ = W1 at S2 ⊢
  rw [← hgp] at S2 ⊢
  clear hgp
  have hgz := S2.out.2.2.1
  have S3 := Lib.hid (And.intro (S2.out.1) (And.intro (S2.out.2.1) (S2.out.2.2.2)))
  clear S2
  obtain ⟨Pa, Pb, Pc, Pd, Pe, Pf, -, -, -, -, -, -⟩ := S3.out.2.1.facts
  go_wp2_with fail
  refine (HV.out.1 _).mono ?_; rintro e wv ⟨v, rfl, h⟩
  clear Pa Pb Pc Pd Pe Pf
  obtain ⟨Ax, lx, cx, rfl⟩ := h.form
  have S4 := Lib.hid (And.intro (S3.out.1.keep (h.2)) (And.intro (S3.out.2.1.keep (h.2)) (And.intro (h.nm HV.out.2.2) (And.intro (h.nl) (below_trans (S3.out.2.2) (h.2))))))
  clear h S3
  go_wp2_with fail
  refine (cmp_nm (S4.out.2.2.1.keep (below_al _ _)) (nine_nm _)).mono ?_; rintro e wc ⟨rfl, hb⟩
  rw [HV.out.2.1]
  have S5 := Lib.hid (And.intro (S4.out.1.keep ((below_trans (below_al _ _) hb))) (And.intro (S4.out.2.1.keep ((below_trans (below_al _ _) hb))) (And.intro (S4.out.2.2.1.keep ((below_trans (below_al _ _) hb))) (And.intro (S4.out.2.2.2.1.keep ((below_trans (below_al _ _) hb))) (below_trans (S4.out.2.2.2.2) ((below_trans (below_al _ _) hb)))))))
  clear hb S4
  obtain ⟨Pa, Pb, Pc, Pd, Pe, Pf, -, -, -, -, -, -⟩ := S5.out.2.1.facts
  go_upto_region 8 with (fail)
  clear Pa Pb Pc Pd Pe Pf
  go_upto_region 8 with (fail)
  have S6 := Lib.hid (And.intro (S5.out.1.keep (below_dr _ 1)) (And.intro (S5.out.2.1.keep (below_dr _ 1)) (And.intro (S5.out.2.2.1.keep (below_dr _ 1)) (And.intro (S5.out.2.2.2.1.keep (below_dr _ 1)) (below_trans (S5.out.2.2.2.2) (below_dr _ 1))))))
  refine wp_region_held_drew (S := fun W => W.cell? ⟨gp, 0, none⟩ = some (.bool b) ∧ W.cell? ⟨gp, 1, none⟩ = some (.bool sm) ∧ W.cell? ⟨gp, 2, none⟩ = some (.string (St wh)) ∧ W.cell? ⟨gp, 3, none⟩ = some (.string (St pt)) ∧ W.cell? ⟨gp, 4, none⟩ = some (.string (St ex)) ∧ W.cell? ⟨gp, 5, none⟩ = some (.string (St ov))) (by kernel_rfl) ⟨S6.out.2.1.facts.1, S6.out.2.1.facts.2.1, S6.out.2.1.facts.2.2.1, S6.out.2.1.facts.2.2.2.1, S6.out.2.1.facts.2.2.2.2.1, S6.out.2.1.facts.2.2.2.2.2.1⟩ (fun hHeld => ?_)
  refine rgTake 0 hHeld ?_; try simp only [Act.put, List.setIfInBounds_toArray, List.set_cons_zero, List.set_cons_succ]
  refine rgTake 1 hHeld ?_; try simp only [Act.put, List.setIfInBounds_toArray, List.set_cons_zero, List.set_cons_succ]
  refine rgTake 2 hHeld ?_; try simp only [Act.put, List.setIfInBounds_toArray, List.set_cons_zero, List.set_cons_succ]
  refine rgTake 3 hHeld ?_; try simp only [Act.put, List.setIfInBounds_toArray, List.set_cons_zero, List.set_cons_succ]
  refine rgTake 6 hHeld ?_; try simp only [Act.put, List.setIfInBounds_toArray, List.set_cons_zero, List.set_cons_succ]
  refine rgTake 7 hHeld ?_; try simp only [Act.put, List.setIfInBounds_toArray, List.set_cons_zero, List.set_cons_succ]
  refine rgReady [4] (rgOne (fun K hK => ?_) rgNil)
  go_simp
  go_at_call 10; refine (value_l wh HL.out.2.2.2.2.2.1).mono ?_; rintro e w7 ⟨v, rfl, h⟩
  have S7 := Lib.hid (And.intro (S6.out.1.keep (h.2)) (And.intro (S6.out.2.1.keep (h.2)) (And.intro (S6.out.2.2.1.keep (h.2)) (And.intro (S6.out.2.2.2.1.keep (h.2)) (And.intro (h.nm (valT_lt _)) (below_trans (S6.out.2.2.2.2) (h.2)))))))
  clear h hHeld
  go_wp2_with fail
  refine hK.out _ _ ⟨S7.out.2.1.facts.1, S7.out.2.1.facts.2.1, S7.out.2.1.facts.2.2.1, S7.out.2.1.facts.2.2.2.1, S7.out.2.1.facts.2.2.2.2.1, S7.out.2.1.facts.2.2.2.2.2.1⟩ (fun hHeld => ?_); clear hK K; try simp only [Act.put, List.setIfInBounds_toArray, List.set_cons_zero, List.set_cons_succ]
  refine rgReady [5] (rgOne (fun K hK => ?_) rgNil)
  go_simp
  go_at_call 13; refine (make_z b S7.out.2.2.2.2.1 (by decide)).mono ?_; rintro e w8 ⟨v, rfl, h⟩
  have S8 := Lib.hid (And.intro (S7.out.1.keep (h.below)) (And.intro (S7.out.2.1.keep (h.below)) (And.intro (S7.out.2.2.1.keep (h.below)) (And.intro (S7.out.2.2.2.1.keep (h.below)) (And.intro (S7.out.2.2.2.2.1.keep (h.below)) (And.intro ((show Zn _ 200 _ x from by have h := h; rw [HL.out.1] at h; exact h.zn HL.out.2.2.2.1)) (below_trans (S7.out.2.2.2.2.2) (h.below))))))))
  clear h hHeld
  go_wp2_with fail
  refine hK.out _ _ ⟨S8.out.2.1.facts.1, S8.out.2.1.facts.2.1, S8.out.2.1.facts.2.2.1, S8.out.2.1.facts.2.2.2.1, S8.out.2.1.facts.2.2.2.2.1, S8.out.2.1.facts.2.2.2.2.2.1⟩ (fun hHeld => ?_); clear hK K; try simp only [Act.put, List.setIfInBounds_toArray, List.set_cons_zero, List.set_cons_succ]
  refine rgReady [8] (rgOne (fun K hK => ?_) rgNil)
  go_simp
  go_at_call 10; refine (value_l ov HL.out.2.2.2.2.2.2).mono ?_; rintro e w9 ⟨v, rfl, h⟩
  have S9 := Lib.hid (And.intro (S8.out.1.keep (h.2)) (And.intro (S8.out.2.1.keep (h.2)) (And.intro (S8.out.2.2.1.keep (h.2)) (And.intro (S8.out.2.2.2.1.keep (h.2)) (And.intro (S8.out.2.2.2.2.1.keep (h.2)) (And.intro (S8.out.2.2.2.2.2.1.keep (h.2)) (And.intro (h.nm (valT_lt _)) (below_trans (S8.out.2.2.2.2.2.2) (h.2)))))))))
  clear h hHeld
  go_wp2_with fail
  refine hK.out _ _ ⟨S9.out.2.1.facts.1, S9.out.2.1.facts.2.1, S9.out.2.1.facts.2.2.1, S9.out.2.1.facts.2.2.2.1, S9.out.2.1.facts.2.2.2.2.1, S9.out.2.1.facts.2.2.2.2.2.1⟩ (fun hHeld => ?_); clear hK K; try simp only [Act.put, List.setIfInBounds_toArray, List.set_cons_zero, List.set_cons_succ]
  refine rgReady [9] (rgOne (fun K hK => ?_) rgNil)
  go_simp
  go_at_call 13; refine (make_z false S9.out.2.2.2.2.2.2.1 (by decide)).mono ?_; rintro e w10 ⟨v, rfl, h⟩
  have S10 := Lib.hid (And.intro (S9.out.1.keep (h.below)) (And.intro (S9.out.2.1.keep (h.below)) (And.intro (S9.out.2.2.1.keep (h.below)) (And.intro (S9.out.2.2.2.1.keep (h.below)) (And.intro (S9.out.2.2.2.2.1.keep (h.below)) (And.intro (S9.out.2.2.2.2.2.1.keep (h.below)) (And.intro (S9.out.2.2.2.2.2.2.1.keep (h.below)) (And.intro ((show Zn _ 200 _ y from by have h := h; rw [HL.out.2.1] at h; exact h.zn HL.out.2.2.2.2.1)) (below_trans (S9.out.2.2.2.2.2.2.2) (h.below))))))))))
  clear h hHeld
  go_wp2_with fail
  refine hK.out _ _ ⟨S10.out.2.1.facts.1, S10.out.2.1.facts.2.1, S10.out.2.1.facts.2.2.1, S10.out.2.1.facts.2.2.2.1, S10.out.2.1.facts.2.2.2.2.1, S10.out.2.1.facts.2.2.2.2.2.1⟩ (fun hHeld => ?_); clear hK K; try simp only [Act.put, List.setIfInBounds_toArray, List.set_cons_zero, List.set_cons_succ]
  refine rgReady [10] (rgOne (fun K hK => ?_) rgNil)
  go_simp
  go_at_call 12; refine (make_q S10.out.2.2.2.2.2.1 S10.out.2.2.2.2.2.2.2.1 (by decide) HL.out.2.2.1).mono ?_; rintro e w11 ⟨v, rfl, h⟩
  obtain ⟨pq, Aq, lq, cq, Ae, le, ce, rfl⟩ := h.parts
  have S11 := Lib.hid (And.intro (S10.out.1.keep (h.below)) (And.intro (S10.out.2.1.keep (h.below)) (And.intro (S10.out.2.2.1.keep (h.below)) (And.intro (S10.out.2.2.2.1.keep (h.below)) (And.intro (S10.out.2.2.2.2.1.keep (h.below)) (And.intro (S10.out.2.2.2.2.2.1.keep (h.below)) (And.intro (S10.out.2.2.2.2.2.2.1.keep (h.below)) (And.intro (S10.out.2.2.2.2.2.2.2.1.keep (h.below)) (And.intro (h.from S10.out.2.2.2.2.2.2.2.2) (below_trans (S10.out.2.2.2.2.2.2.2.2) (h.below)))))))))))
  clear h hHeld
  go_wp2_with fail
  refine hK.out _ _ ⟨S11.out.2.1.facts.1, S11.out.2.1.facts.2.1, S11.out.2.1.facts.2.2.1, S11.out.2.1.facts.2.2.2.1, S11.out.2.1.facts.2.2.2.2.1, S11.out.2.1.facts.2.2.2.2.2.1⟩ (fun hHeld => ?_); clear hK K; try simp only [Act.put, List.setIfInBounds_toArray, List.set_cons_zero, List.set_cons_succ]
  refine rgTake 11 hHeld ?_; try simp only [Act.put, List.setIfInBounds_toArray, List.set_cons_zero, List.set_cons_succ]
  refine rgTake 12 hHeld ?_; try simp only [Act.put, List.setIfInBounds_toArray, List.set_cons_zero, List.set_cons_succ]
  obtain ⟨f0, f1, f2, f3, f4, f5⟩ := S11.out.1.facts
  refine rgReady [13] (rgOne (fun K hK => ?_) rgNil)
  go_simp; clear f0 f1 f2 f3 f4 f5
  refine hK.out _ _ ⟨cell_st3 _ S11.out.2.1.facts.1 (by omega), cell_st3 _ S11.out.2.1.facts.2.1 (by omega), cell_st3 _ S11.out.2.1.facts.2.2.1 (by omega), cell_st3 _ S11.out.2.1.facts.2.2.2.1 (by omega), cell_st3 _ S11.out.2.1.facts.2.2.2.2.1 (by omega), cell_st3 _ S11.out.2.1.facts.2.2.2.2.2.1 (by omega)⟩ (fun hHeld => ?_); clear hK K; try simp only [Act.put, List.setIfInBounds_toArray, List.set_cons_zero, List.set_cons_succ]
  refine rgTake 14 hHeld ?_; try simp only [Act.put, List.setIfInBounds_toArray, List.set_cons_zero, List.set_cons_succ]
  refine wpAnyH_done (by kernel_rfl) ?_ _
  clear hHeld
  go_wp2_with fail
  refine ret_b3 S11.out.1 (fun W d0 d1 d2 => by simp [results, Tryd.results5, go_sem, d0, d1, d2]; try rfl) rfl ?_
  exact ⟨_, rfl, S11.out.2.2.2.2.2.2.2.2.1.put3 rat_word S11.out.1 (Nat.le_refl _) _ _ _⟩
set_option maxRecDepth 100000 in
set_option maxHeartbeats 2000000 in
theorem rparse_none {w : World} {s : ByteArray} {b sm : Bool} {wh pt ex ov : List UInt8} {d E : Nat} (hs : SplitSays s b sm wh pt ex ov d true) (hd : d ≤ 200) (hl : wh.length + pt.length + ex.length + ov.length ≤ 200) (hw : 0 < wh.length) (hE : valT (ex ++ [48]) = E) (hE9 : E ≤ 990) (ho : ov.isEmpty = true) (hx : ex.isEmpty = true) :
    Calls Tryd.prog 5 #[.string s] w fun e w' => ∃ v, e = .returned (.tuple #[v, .int .i64 0]) ∧ Qs w w' v (qn (sg b (valT (wh ++ pt))) (10 ^ pt.length)) (qd (sg b (valT (wh ++ pt))) (10 ^ pt.length)) := by
  have HS := Lib.hid hs
  have e1 : decide ((200 : Int) < (d : Int)) = false := decide_eq_false (by omega)
  have z1 : (St ex).size ≤ 1000 := by rw [st_size]; omega
  have z2 : (St wh).size ≤ 1000 := by rw [st_size]; omega
  have z3 : (St pt).size ≤ 199 := by rw [st_size]; omega
  have hv := fun W => value_s (w := W) (St ex ++ ByteArray.mk #[48]) (by rw [app_size]; show _ + 1 ≤ _; omega)
  rw [show (St ex ++ ByteArray.mk #[48]).data.toList = ex ++ [48] by rw [Go.Joins.data_append, st_list], hE] at hv
  obtain ⟨c, hc⟩ : ∃ c, cmpN E 990 = c := ⟨_, rfl⟩
  have e2 : decide ((0 : Int) < c) = false := decide_eq_false (by rw [← hc, cmpN]; split <;> (try split) <;> omega)
  have e3 : (St ov).toList.isEmpty = true := by rw [st_nil, ho]
  have HV := Lib.hid (And.intro hv (And.intro hc (show E < WB ^ 200 by rw [← hE]; exact valT_lt _)))
  obtain ⟨Z, hZ⟩ : ∃ Z, Z = 400 := ⟨_, rfl⟩
  have HZ := Lib.hid hZ
  obtain ⟨AA, hAA⟩ : ∃ A, A = 200 := ⟨_, rfl⟩
  have hZA : Z = AA + AA := by omega
  have e4 : (St ex).toList.isEmpty = true := by rw [st_nil, hx]
  have hq : 10 ^ (E / 10) < WB ^ 200 := Nat.lt_of_lt_of_le (Nat.pow_lt_pow_right (by decide) (show E / 10 < 200 by omega)) (Nat.pow_le_pow_left (by rw [WB_eq]; decide) 200)
  have hp : 10 ^ pt.length < WB ^ 200 := Nat.lt_of_lt_of_le (Nat.pow_lt_pow_right (by decide) (show pt.length < 200 by omega)) (Nat.pow_le_pow_left (by rw [WB_eq]; decide) 200)
  have hwp := valT_lt (wh ++ pt)
  have hp0 : 10 ^ pt.length ≠ 0 := by have := Nat.pow_pos (n := pt.length) (show 0 < 10 by decide); omega
  have hq0 : 10 ^ (E / 10) ≠ 0 := by have := Nat.pow_pos (n := E / 10) (show 0 < 10 by decide); omega
  obtain ⟨q, eq⟩ : ∃ q, 10 ^ (E / 10) = q := ⟨_, rfl⟩
  obtain ⟨t, et⟩ : ∃ t, 10 ^ pt.length = t := ⟨_, rfl⟩
  obtain ⟨m, em⟩ : ∃ m, valT (wh ++ pt) = m := ⟨_, rfl⟩
  rw [eq] at hq hq0
  rw [et] at hp hp0
  rw [em] at hwp
  rw [em, et]
  obtain ⟨nn, enn⟩ : ∃ nn, m = nn := ⟨_, rfl⟩
  obtain ⟨dd, edd⟩ : ∃ dd, t = dd := ⟨_, rfl⟩
  rw [enn, edd]
  have bnn : nn < WB ^ Z := by rw [← enn]; exact Nat.lt_of_lt_of_le hwp (Nat.pow_le_pow_right WB_pos (by omega))
  have bdd : dd < WB ^ Z := by rw [← edd]; exact Nat.lt_of_lt_of_le hp (Nat.pow_le_pow_right WB_pos (by omega))
  have hdd0 : dd ≠ 0 := by rw [← edd]; exact hp0
  have ey : (sg false dd).natAbs = dd := sg_abs _ _
  have eu : upz (sg b nn) (sg false dd) = sg b nn := by unfold upz; rw [if_neg (by simp [sg])]
  obtain ⟨x, hx_⟩ : ∃ x, sg b nn = x := ⟨_, rfl⟩
  obtain ⟨y, hy⟩ : ∃ y, sg false dd = y := ⟨_, rfl⟩
  rw [hx_, hy] at eu
  rw [hy] at ey
  have hy0 : y ≠ 0 := fun h => hdd0 (by rw [← ey, h]; rfl)
  have bx : x.natAbs < WB ^ Z := by rw [← hx_, sg_abs]; exact bnn
  have b_y : y.natAbs < WB ^ Z := by rw [ey]; exact bdd
  rw [hx_, ← ey]
  rw [← eu]
  have HL := Lib.hid (And.intro hx_ (And.intro hy (And.intro hy0 (And.intro bx (And.intro b_y (And.intro em (And.intro et (And.intro enn (And.intro edd (And.intro hwp (And.intro hp (And.intro bnn (And.intro bdd (And.intro hq hq))))))))))))))
  have hpt : (St pt).size = pt.length := st_size pt
  have hwt := fun W => value_s (w := W) (St wh ++ St pt) (by rw [app_size]; omega)
  rw [st_app, st_list, em] at hwt
  have hpw := fun W => power_s (w := W) (n := (St pt).size) (by omega)
  rw [hpt, et] at hpw
  have HW2 := Lib.hid (And.intro hwt (And.intro hpw hpt))
  clear hZ hZA hAA hs hd hl hw hE hE9 ho hv hc ey eu hx_ hy hy0 bx b_y hx hq hp hwp hp0 hq0 eq et em enn edd bnn bdd hdd0 hpt hwt hpw
  go_enter Tryd.func5, Tryd.ntmps5
  go_upto_region 1 with (fail)
  have hX := B3.new 27 w (.bool false) (.slice none 0 0) (.slice none 0 0)
  have S0 := Lib.hid (And.intro (hX) (below_al w (.cells #[.bool false, .slice none 0 0, .slice none 0 0] 27)))
  clear hX
  generalize w.alloc _ = W0 at S0 ⊢
  go_wp2_with fail
  refine (HS.out _).mono ?_; rintro e w1 ⟨rfl, hb⟩
  have S1 := Lib.hid (And.intro (S0.out.1.keep (hb)) (below_trans (S0.out.2) (hb)))
  clear hb  S0
  go_upto_region 2 with (fail)
  have hP := B6.new 37 w1 (.bool b) (.bool sm) (.string (St wh)) (.string (St pt)) (.string (St ex)) (.string (St ov))
  obtain ⟨gp, hgp⟩ : ∃ g, g = w1.heap.size := ⟨_, rfl⟩
  have S2 := Lib.hid (And.intro (S1.out.1.keep ((below_al w1 (.cells #[.bool b, .bool sm, .string (St wh), .string (St pt), .string (St ex), .string (St ov)] 37)))) (And.intro (hP) (And.intro ((show w.heap.size < w1.heap.size from S1.out.1.lt)) (below_trans (S1.out.2) ((below_al w1 (.cells #[.bool b, .bool sm, .string (St wh), .string (St pt), .string (St ex), .string (St ov)] 37)))))))
  clear hP S1
  generalize w1.alloc _ = W1 at S2 ⊢
  rw [← hgp] at S2 ⊢
  clear hgp
  have hgz := S2.out.2.2.1
  have S3 := Lib.hid (And.intro (S2.out.1) (And.intro (S2.out.2.1) (S2.out.2.2.2)))
  clear S2
  obtain ⟨Pa, Pb, Pc, Pd, Pe, Pf, -, -, -, -, -, -⟩ := S3.out.2.1.facts
  go_wp2_with fail
  refine (HV.out.1 _).mono ?_; rintro e wv ⟨v, rfl, h⟩
  clear Pa Pb Pc Pd Pe Pf
  obtain ⟨Ax, lx, cx, rfl⟩ := h.form
  have S4 := Lib.hid (And.intro (S3.out.1.keep (h.2)) (And.intro (S3.out.2.1.keep (h.2)) (And.intro (h.nm HV.out.2.2) (below_trans (S3.out.2.2) (h.2)))))
  clear h S3
  go_wp2_with fail
  refine (cmp_nm (S4.out.2.2.1.keep (below_al _ _)) (nine_nm _)).mono ?_; rintro e wc ⟨rfl, hb⟩
  rw [HV.out.2.1]
  have S5 := Lib.hid (And.intro (S4.out.1.keep ((below_trans (below_al _ _) hb))) (And.intro (S4.out.2.1.keep ((below_trans (below_al _ _) hb))) (And.intro (S4.out.2.2.1.keep ((below_trans (below_al _ _) hb))) (below_trans (S4.out.2.2.2) ((below_trans (below_al _ _) hb))))))
  clear hb S4
  obtain ⟨Pa, Pb, Pc, Pd, Pe, Pf, -, -, -, -, -, -⟩ := S5.out.2.1.facts
  go_upto_region 9 with (fail)
  clear Pa Pb Pc Pd Pe Pf
  go_upto_region 9 with (fail)
  have S6 := Lib.hid (And.intro (S5.out.1.keep (below_dr _ 1)) (And.intro (S5.out.2.1.keep (below_dr _ 1)) (And.intro (S5.out.2.2.1.keep (below_dr _ 1)) (below_trans (S5.out.2.2.2) (below_dr _ 1)))))
  refine wp_region_held_drew (S := fun W => W.cell? ⟨gp, 0, none⟩ = some (.bool b) ∧ W.cell? ⟨gp, 1, none⟩ = some (.bool sm) ∧ W.cell? ⟨gp, 2, none⟩ = some (.string (St wh)) ∧ W.cell? ⟨gp, 3, none⟩ = some (.string (St pt)) ∧ W.cell? ⟨gp, 4, none⟩ = some (.string (St ex)) ∧ W.cell? ⟨gp, 5, none⟩ = some (.string (St ov))) (by kernel_rfl) ⟨S6.out.2.1.facts.1, S6.out.2.1.facts.2.1, S6.out.2.1.facts.2.2.1, S6.out.2.1.facts.2.2.2.1, S6.out.2.1.facts.2.2.2.2.1, S6.out.2.1.facts.2.2.2.2.2.1⟩ (fun hHeld => ?_)
  refine rgTake 0 hHeld ?_; try simp only [Act.put, List.setIfInBounds_toArray, List.set_cons_zero, List.set_cons_succ]
  refine rgTake 1 hHeld ?_; try simp only [Act.put, List.setIfInBounds_toArray, List.set_cons_zero, List.set_cons_succ]
  refine rgTake 2 hHeld ?_; try simp only [Act.put, List.setIfInBounds_toArray, List.set_cons_zero, List.set_cons_succ]
  refine rgTake 3 hHeld ?_; try simp only [Act.put, List.setIfInBounds_toArray, List.set_cons_zero, List.set_cons_succ]
  refine rgTake 4 hHeld ?_; try simp only [Act.put, List.setIfInBounds_toArray, List.set_cons_zero, List.set_cons_succ]
  refine rgTake 6 hHeld ?_; try simp only [Act.put, List.setIfInBounds_toArray, List.set_cons_zero, List.set_cons_succ]
  refine rgTake 7 hHeld ?_; try simp only [Act.put, List.setIfInBounds_toArray, List.set_cons_zero, List.set_cons_succ]
  refine rgTake 8 hHeld ?_; try simp only [Act.put, List.setIfInBounds_toArray, List.set_cons_zero, List.set_cons_succ]
  refine rgReady [5] (rgOne (fun K hK => ?_) rgNil)
  go_simp
  go_at_call 10; refine (HW2.out.1 _).mono ?_; rintro e w7 ⟨v, rfl, h⟩
  have S7 := Lib.hid (And.intro (S6.out.1.keep (h.2)) (And.intro (S6.out.2.1.keep (h.2)) (And.intro (S6.out.2.2.1.keep (h.2)) (And.intro (h.nm HL.out.2.2.2.2.2.2.2.2.2.1) (below_trans (S6.out.2.2.2) (h.2))))))
  clear h hHeld
  go_wp2_with fail
  refine hK.out _ _ ⟨S7.out.2.1.facts.1, S7.out.2.1.facts.2.1, S7.out.2.1.facts.2.2.1, S7.out.2.1.facts.2.2.2.1, S7.out.2.1.facts.2.2.2.2.1, S7.out.2.1.facts.2.2.2.2.2.1⟩ (fun hHeld => ?_); clear hK K; try simp only [Act.put, List.setIfInBounds_toArray, List.set_cons_zero, List.set_cons_succ]
  refine rgReady [9] (rgOne (fun K hK => ?_) rgNil)
  go_simp
  go_at_call 14; refine (HW2.out.2.1 _).mono ?_; rintro e w8 ⟨v, rfl, h⟩
  have S8 := Lib.hid (And.intro (S7.out.1.keep (h.2)) (And.intro (S7.out.2.1.keep (h.2)) (And.intro (S7.out.2.2.1.keep (h.2)) (And.intro (S7.out.2.2.2.1.keep (h.2)) (And.intro (h.nm HL.out.2.2.2.2.2.2.2.2.2.2.1) (below_trans (S7.out.2.2.2.2) (h.2)))))))
  clear h hHeld
  go_wp2_with fail
  refine hK.out _ _ ⟨S8.out.2.1.facts.1, S8.out.2.1.facts.2.1, S8.out.2.1.facts.2.2.1, S8.out.2.1.facts.2.2.2.1, S8.out.2.1.facts.2.2.2.2.1, S8.out.2.1.facts.2.2.2.2.2.1⟩ (fun hHeld => ?_); clear hK K; try simp only [Act.put, List.setIfInBounds_toArray, List.set_cons_zero, List.set_cons_succ]
  refine rgTake 10 hHeld ?_; try simp only [Act.put, List.setIfInBounds_toArray, List.set_cons_zero, List.set_cons_succ]
  refine rgTake 11 hHeld ?_; try simp only [Act.put, List.setIfInBounds_toArray, List.set_cons_zero, List.set_cons_succ]
  refine wpAnyH_done (by kernel_rfl) ?_ _
  clear hHeld
  obtain ⟨Pa, Pb, Pc, Pd, Pe, Pf, -, -, -, -, -, -⟩ := S8.out.2.1.facts
  go_wp2_with fail
  refine (make_z b (S8.out.2.2.2.1.mono (L' := Z) (by have := HZ.out; omega)) (by have := HZ.out; omega)).mono ?_; rintro e wx ⟨v, rfl, h⟩
  clear Pa Pb Pc Pd Pe Pf
  rw [HL.out.2.2.2.2.2.2.2.1, HL.out.1] at h
  have S9 := Lib.hid (And.intro (S8.out.1.keep (h.below)) (And.intro (S8.out.2.1.keep (h.below)) (And.intro (S8.out.2.2.1.keep (h.below)) (And.intro (S8.out.2.2.2.1.keep (h.below)) (And.intro (S8.out.2.2.2.2.1.keep (h.below)) (And.intro (h.zn HL.out.2.2.2.1) (below_trans (S8.out.2.2.2.2.2) (h.below))))))))
  clear h S8
  go_wp2_with fail
  refine (make_z false (S9.out.2.2.2.2.1.mono (L' := Z) (by have := HZ.out; omega)) (by have := HZ.out; omega)).mono ?_; rintro e wy ⟨v, rfl, h⟩
  rw [HL.out.2.2.2.2.2.2.2.2.1, HL.out.2.1] at h
  have S10 := Lib.hid (And.intro (S9.out.1.keep (h.below)) (And.intro (S9.out.2.1.keep (h.below)) (And.intro (S9.out.2.2.1.keep (h.below)) (And.intro (S9.out.2.2.2.1.keep (h.below)) (And.intro (S9.out.2.2.2.2.1.keep (h.below)) (And.intro (S9.out.2.2.2.2.2.1.keep (h.below)) (And.intro (h.zn HL.out.2.2.2.2.1) (below_trans (S9.out.2.2.2.2.2.2) (h.below)))))))))
  clear h S9
  go_wp2_with fail
  refine (make_q S10.out.2.2.2.2.2.1 S10.out.2.2.2.2.2.2.1 (by have := HZ.out; omega) HL.out.2.2.1).mono ?_; rintro e wz ⟨v, rfl, h⟩
  obtain ⟨pq, Aq, lq, cq, Ae, le, ce, rfl⟩ := h.parts
  have S11 := Lib.hid (And.intro (S10.out.1.keep (h.below)) (And.intro (S10.out.2.1.keep (h.below)) (And.intro (S10.out.2.2.1.keep (h.below)) (And.intro (S10.out.2.2.2.1.keep (h.below)) (And.intro (S10.out.2.2.2.2.1.keep (h.below)) (And.intro (S10.out.2.2.2.2.2.1.keep (h.below)) (And.intro (S10.out.2.2.2.2.2.2.1.keep (h.below)) (And.intro (h.from S10.out.2.2.2.2.2.2.2) (below_trans (S10.out.2.2.2.2.2.2.2) (h.below))))))))))
  clear h S10
  obtain ⟨f0, f1, f2, f3, f4, f5⟩ := S11.out.1.facts
  go_wp2_with fail
  refine ret_b3 S11.out.1 (fun W d0 d1 d2 => by simp [results, Tryd.results5, go_sem, d0, d1, d2]; try rfl) rfl ?_
  exact ⟨_, rfl, S11.out.2.2.2.2.2.2.2.1.put3 rat_word S11.out.1 (Nat.le_refl _) _ _ _⟩
set_option maxRecDepth 100000 in
set_option maxHeartbeats 2000000 in
theorem rparse_nil {w : World} {s : ByteArray} {b sm : Bool} {wh pt ex ov : List UInt8} {d E : Nat} (hs : SplitSays s b sm wh pt ex ov d true) (hd : d ≤ 200) (hl : wh.length + pt.length + ex.length + ov.length ≤ 200) (hw : 0 < wh.length) (hE : valT (ex ++ [48]) = E) (hE9 : E ≤ 990) (ho : ov.isEmpty = true) (hx : ex.isEmpty = false) (h0 : E = 0) :
    Calls Tryd.prog 5 #[.string s] w fun e w' => ∃ v, e = .returned (.tuple #[v, .int .i64 0]) ∧ Qs w w' v (qn (sg b (valT (wh ++ pt))) (10 ^ pt.length)) (qd (sg b (valT (wh ++ pt))) (10 ^ pt.length)) := by
  have HS := Lib.hid hs
  have e1 : decide ((200 : Int) < (d : Int)) = false := decide_eq_false (by omega)
  have z1 : (St ex).size ≤ 1000 := by rw [st_size]; omega
  have z2 : (St wh).size ≤ 1000 := by rw [st_size]; omega
  have z3 : (St pt).size ≤ 199 := by rw [st_size]; omega
  have hv := fun W => value_s (w := W) (St ex ++ ByteArray.mk #[48]) (by rw [app_size]; show _ + 1 ≤ _; omega)
  rw [show (St ex ++ ByteArray.mk #[48]).data.toList = ex ++ [48] by rw [Go.Joins.data_append, st_list], hE] at hv
  obtain ⟨c, hc⟩ : ∃ c, cmpN E 990 = c := ⟨_, rfl⟩
  have e2 : decide ((0 : Int) < c) = false := decide_eq_false (by rw [← hc, cmpN]; split <;> (try split) <;> omega)
  have e3 : (St ov).toList.isEmpty = true := by rw [st_nil, ho]
  have HV := Lib.hid (And.intro hv (And.intro hc (show E < WB ^ 200 by rw [← hE]; exact valT_lt _)))
  obtain ⟨Z, hZ⟩ : ∃ Z, Z = 400 := ⟨_, rfl⟩
  have HZ := Lib.hid hZ
  obtain ⟨AA, hAA⟩ : ∃ A, A = 200 := ⟨_, rfl⟩
  have hZA : Z = AA + AA := by omega
  have e4 : (St ex).toList.isEmpty = false := by rw [st_nil, hx]
  have hq : 10 ^ (E / 10) < WB ^ 200 := Nat.lt_of_lt_of_le (Nat.pow_lt_pow_right (by decide) (show E / 10 < 200 by omega)) (Nat.pow_le_pow_left (by rw [WB_eq]; decide) 200)
  have hp : 10 ^ pt.length < WB ^ 200 := Nat.lt_of_lt_of_le (Nat.pow_lt_pow_right (by decide) (show pt.length < 200 by omega)) (Nat.pow_le_pow_left (by rw [WB_eq]; decide) 200)
  have hwp := valT_lt (wh ++ pt)
  have hp0 : 10 ^ pt.length ≠ 0 := by have := Nat.pow_pos (n := pt.length) (show 0 < 10 by decide); omega
  have hq0 : 10 ^ (E / 10) ≠ 0 := by have := Nat.pow_pos (n := E / 10) (show 0 < 10 by decide); omega
  obtain ⟨q, eq⟩ : ∃ q, 10 ^ (E / 10) = q := ⟨_, rfl⟩
  obtain ⟨t, et⟩ : ∃ t, 10 ^ pt.length = t := ⟨_, rfl⟩
  obtain ⟨m, em⟩ : ∃ m, valT (wh ++ pt) = m := ⟨_, rfl⟩
  rw [eq] at hq hq0
  rw [et] at hp hp0
  rw [em] at hwp
  rw [em, et]
  obtain ⟨nn, enn⟩ : ∃ nn, m = nn := ⟨_, rfl⟩
  obtain ⟨dd, edd⟩ : ∃ dd, t = dd := ⟨_, rfl⟩
  rw [enn, edd]
  have bnn : nn < WB ^ Z := by rw [← enn]; exact Nat.lt_of_lt_of_le hwp (Nat.pow_le_pow_right WB_pos (by omega))
  have bdd : dd < WB ^ Z := by rw [← edd]; exact Nat.lt_of_lt_of_le hp (Nat.pow_le_pow_right WB_pos (by omega))
  have hdd0 : dd ≠ 0 := by rw [← edd]; exact hp0
  have ey : (sg false dd).natAbs = dd := sg_abs _ _
  have eu : upz (sg b nn) (sg false dd) = sg b nn := by unfold upz; rw [if_neg (by simp [sg])]
  obtain ⟨x, hx_⟩ : ∃ x, sg b nn = x := ⟨_, rfl⟩
  obtain ⟨y, hy⟩ : ∃ y, sg false dd = y := ⟨_, rfl⟩
  rw [hx_, hy] at eu
  rw [hy] at ey
  have hy0 : y ≠ 0 := fun h => hdd0 (by rw [← ey, h]; rfl)
  have bx : x.natAbs < WB ^ Z := by rw [← hx_, sg_abs]; exact bnn
  have b_y : y.natAbs < WB ^ Z := by rw [ey]; exact bdd
  rw [hx_, ← ey]
  rw [← eu]
  have HL := Lib.hid (And.intro hx_ (And.intro hy (And.intro hy0 (And.intro bx (And.intro b_y (And.intro em (And.intro et (And.intro enn (And.intro edd (And.intro hwp (And.intro hp (And.intro bnn (And.intro bdd (And.intro hq hq))))))))))))))
  have hpt : (St pt).size = pt.length := st_size pt
  have hwt := fun W => value_s (w := W) (St wh ++ St pt) (by rw [app_size]; omega)
  rw [st_app, st_list, em] at hwt
  have hpw := fun W => power_s (w := W) (n := (St pt).size) (by omega)
  rw [hpt, et] at hpw
  have HW2 := Lib.hid (And.intro hwt (And.intro hpw hpt))
  have HN := Lib.hid h0
  clear hZ hZA hAA hs hd hl hw hE hE9 ho hv hc ey eu hx_ hy hy0 bx b_y hx hq hp hwp hp0 hq0 eq et em enn edd bnn bdd hdd0 hpt hwt hpw h0
  go_enter Tryd.func5, Tryd.ntmps5
  go_upto_region 1 with (fail)
  have hX := B3.new 27 w (.bool false) (.slice none 0 0) (.slice none 0 0)
  have S0 := Lib.hid (And.intro (hX) (below_al w (.cells #[.bool false, .slice none 0 0, .slice none 0 0] 27)))
  clear hX
  generalize w.alloc _ = W0 at S0 ⊢
  go_wp2_with fail
  refine (HS.out _).mono ?_; rintro e w1 ⟨rfl, hb⟩
  have S1 := Lib.hid (And.intro (S0.out.1.keep (hb)) (below_trans (S0.out.2) (hb)))
  clear hb  S0
  go_upto_region 2 with (fail)
  have hP := B6.new 37 w1 (.bool b) (.bool sm) (.string (St wh)) (.string (St pt)) (.string (St ex)) (.string (St ov))
  obtain ⟨gp, hgp⟩ : ∃ g, g = w1.heap.size := ⟨_, rfl⟩
  have S2 := Lib.hid (And.intro (S1.out.1.keep ((below_al w1 (.cells #[.bool b, .bool sm, .string (St wh), .string (St pt), .string (St ex), .string (St ov)] 37)))) (And.intro (hP) (And.intro ((show w.heap.size < w1.heap.size from S1.out.1.lt)) (below_trans (S1.out.2) ((below_al w1 (.cells #[.bool b, .bool sm, .string (St wh), .string (St pt), .string (St ex), .string (St ov)] 37)))))))
  clear hP S1
  generalize w1.alloc _ = W1 at S2 ⊢
  rw [← hgp] at S2 ⊢
  clear hgp
  have hgz := S2.out.2.2.1
  have S3 := Lib.hid (And.intro (S2.out.1) (And.intro (S2.out.2.1) (S2.out.2.2.2)))
  clear S2
  obtain ⟨Pa, Pb, Pc, Pd, Pe, Pf, -, -, -, -, -, -⟩ := S3.out.2.1.facts
  go_wp2_with fail
  refine (HV.out.1 _).mono ?_; rintro e wv ⟨v, rfl, h⟩
  clear Pa Pb Pc Pd Pe Pf
  have hnl := h.nl
  rw [HN.out, dg_zero] at hnl
  obtain ⟨Ax, cx, rfl, -⟩ := hnl
  rw [List.length_nil]
  have S4 := Lib.hid (And.intro (S3.out.1.keep (h.2)) (And.intro (S3.out.2.1.keep (h.2)) (And.intro (h.nm HV.out.2.2) (below_trans (S3.out.2.2) (h.2)))))
  clear h S3
  go_wp2_with fail
  refine (cmp_nm (S4.out.2.2.1.keep (below_al _ _)) (nine_nm _)).mono ?_; rintro e wc ⟨rfl, hb⟩
  rw [HV.out.2.1]
  have S5 := Lib.hid (And.intro (S4.out.1.keep ((below_trans (below_al _ _) hb))) (And.intro (S4.out.2.1.keep ((below_trans (below_al _ _) hb))) (And.intro (S4.out.2.2.1.keep ((below_trans (below_al _ _) hb))) (below_trans (S4.out.2.2.2) ((below_trans (below_al _ _) hb))))))
  clear hb S4
  obtain ⟨Pa, Pb, Pc, Pd, Pe, Pf, -, -, -, -, -, -⟩ := S5.out.2.1.facts
  go_upto_region 9 with (fail)
  clear Pa Pb Pc Pd Pe Pf
  go_upto_region 9 with (fail)
  have S6 := Lib.hid (And.intro (S5.out.1.keep (below_dr _ 1)) (And.intro (S5.out.2.1.keep (below_dr _ 1)) (And.intro (S5.out.2.2.1.keep (below_dr _ 1)) (below_trans (S5.out.2.2.2) (below_dr _ 1)))))
  refine wp_region_held_drew (S := fun W => W.cell? ⟨gp, 0, none⟩ = some (.bool b) ∧ W.cell? ⟨gp, 1, none⟩ = some (.bool sm) ∧ W.cell? ⟨gp, 2, none⟩ = some (.string (St wh)) ∧ W.cell? ⟨gp, 3, none⟩ = some (.string (St pt)) ∧ W.cell? ⟨gp, 4, none⟩ = some (.string (St ex)) ∧ W.cell? ⟨gp, 5, none⟩ = some (.string (St ov))) (by kernel_rfl) ⟨S6.out.2.1.facts.1, S6.out.2.1.facts.2.1, S6.out.2.1.facts.2.2.1, S6.out.2.1.facts.2.2.2.1, S6.out.2.1.facts.2.2.2.2.1, S6.out.2.1.facts.2.2.2.2.2.1⟩ (fun hHeld => ?_)
  refine rgTake 0 hHeld ?_; try simp only [Act.put, List.setIfInBounds_toArray, List.set_cons_zero, List.set_cons_succ]
  refine rgTake 1 hHeld ?_; try simp only [Act.put, List.setIfInBounds_toArray, List.set_cons_zero, List.set_cons_succ]
  refine rgTake 2 hHeld ?_; try simp only [Act.put, List.setIfInBounds_toArray, List.set_cons_zero, List.set_cons_succ]
  refine rgTake 3 hHeld ?_; try simp only [Act.put, List.setIfInBounds_toArray, List.set_cons_zero, List.set_cons_succ]
  refine rgTake 4 hHeld ?_; try simp only [Act.put, List.setIfInBounds_toArray, List.set_cons_zero, List.set_cons_succ]
  refine rgTake 6 hHeld ?_; try simp only [Act.put, List.setIfInBounds_toArray, List.set_cons_zero, List.set_cons_succ]
  refine rgTake 7 hHeld ?_; try simp only [Act.put, List.setIfInBounds_toArray, List.set_cons_zero, List.set_cons_succ]
  refine rgTake 8 hHeld ?_; try simp only [Act.put, List.setIfInBounds_toArray, List.set_cons_zero, List.set_cons_succ]
  refine rgReady [5] (rgOne (fun K hK => ?_) rgNil)
  go_simp
  go_at_call 10; refine (HW2.out.1 _).mono ?_; rintro e w7 ⟨v, rfl, h⟩
  have S7 := Lib.hid (And.intro (S6.out.1.keep (h.2)) (And.intro (S6.out.2.1.keep (h.2)) (And.intro (S6.out.2.2.1.keep (h.2)) (And.intro (h.nm HL.out.2.2.2.2.2.2.2.2.2.1) (below_trans (S6.out.2.2.2) (h.2))))))
  clear h hHeld
  go_wp2_with fail
  refine hK.out _ _ ⟨S7.out.2.1.facts.1, S7.out.2.1.facts.2.1, S7.out.2.1.facts.2.2.1, S7.out.2.1.facts.2.2.2.1, S7.out.2.1.facts.2.2.2.2.1, S7.out.2.1.facts.2.2.2.2.2.1⟩ (fun hHeld => ?_); clear hK K; try simp only [Act.put, List.setIfInBounds_toArray, List.set_cons_zero, List.set_cons_succ]
  refine rgReady [9] (rgOne (fun K hK => ?_) rgNil)
  go_simp
  go_at_call 14; refine (HW2.out.2.1 _).mono ?_; rintro e w8 ⟨v, rfl, h⟩
  have S8 := Lib.hid (And.intro (S7.out.1.keep (h.2)) (And.intro (S7.out.2.1.keep (h.2)) (And.intro (S7.out.2.2.1.keep (h.2)) (And.intro (S7.out.2.2.2.1.keep (h.2)) (And.intro (h.nm HL.out.2.2.2.2.2.2.2.2.2.2.1) (below_trans (S7.out.2.2.2.2) (h.2)))))))
  clear h hHeld
  go_wp2_with fail
  refine hK.out _ _ ⟨S8.out.2.1.facts.1, S8.out.2.1.facts.2.1, S8.out.2.1.facts.2.2.1, S8.out.2.1.facts.2.2.2.1, S8.out.2.1.facts.2.2.2.2.1, S8.out.2.1.facts.2.2.2.2.2.1⟩ (fun hHeld => ?_); clear hK K; try simp only [Act.put, List.setIfInBounds_toArray, List.set_cons_zero, List.set_cons_succ]
  refine rgTake 10 hHeld ?_; try simp only [Act.put, List.setIfInBounds_toArray, List.set_cons_zero, List.set_cons_succ]
  refine rgTake 11 hHeld ?_; try simp only [Act.put, List.setIfInBounds_toArray, List.set_cons_zero, List.set_cons_succ]
  refine wpAnyH_done (by kernel_rfl) ?_ _
  clear hHeld
  obtain ⟨Pa, Pb, Pc, Pd, Pe, Pf, -, -, -, -, -, -⟩ := S8.out.2.1.facts
  go_wp2_with fail
  refine (make_z b (S8.out.2.2.2.1.mono (L' := Z) (by have := HZ.out; omega)) (by have := HZ.out; omega)).mono ?_; rintro e wx ⟨v, rfl, h⟩
  clear Pa Pb Pc Pd Pe Pf
  rw [HL.out.2.2.2.2.2.2.2.1, HL.out.1] at h
  have S9 := Lib.hid (And.intro (S8.out.1.keep (h.below)) (And.intro (S8.out.2.1.keep (h.below)) (And.intro (S8.out.2.2.1.keep (h.below)) (And.intro (S8.out.2.2.2.1.keep (h.below)) (And.intro (S8.out.2.2.2.2.1.keep (h.below)) (And.intro (h.zn HL.out.2.2.2.1) (below_trans (S8.out.2.2.2.2.2) (h.below))))))))
  clear h S8
  go_wp2_with fail
  refine (make_z false (S9.out.2.2.2.2.1.mono (L' := Z) (by have := HZ.out; omega)) (by have := HZ.out; omega)).mono ?_; rintro e wy ⟨v, rfl, h⟩
  rw [HL.out.2.2.2.2.2.2.2.2.1, HL.out.2.1] at h
  have S10 := Lib.hid (And.intro (S9.out.1.keep (h.below)) (And.intro (S9.out.2.1.keep (h.below)) (And.intro (S9.out.2.2.1.keep (h.below)) (And.intro (S9.out.2.2.2.1.keep (h.below)) (And.intro (S9.out.2.2.2.2.1.keep (h.below)) (And.intro (S9.out.2.2.2.2.2.1.keep (h.below)) (And.intro (h.zn HL.out.2.2.2.2.1) (below_trans (S9.out.2.2.2.2.2.2) (h.below)))))))))
  clear h S9
  go_wp2_with fail
  refine (make_q S10.out.2.2.2.2.2.1 S10.out.2.2.2.2.2.2.1 (by have := HZ.out; omega) HL.out.2.2.1).mono ?_; rintro e wz ⟨v, rfl, h⟩
  obtain ⟨pq, Aq, lq, cq, Ae, le, ce, rfl⟩ := h.parts
  have S11 := Lib.hid (And.intro (S10.out.1.keep (h.below)) (And.intro (S10.out.2.1.keep (h.below)) (And.intro (S10.out.2.2.1.keep (h.below)) (And.intro (S10.out.2.2.2.1.keep (h.below)) (And.intro (S10.out.2.2.2.2.1.keep (h.below)) (And.intro (S10.out.2.2.2.2.2.1.keep (h.below)) (And.intro (S10.out.2.2.2.2.2.2.1.keep (h.below)) (And.intro (h.from S10.out.2.2.2.2.2.2.2) (below_trans (S10.out.2.2.2.2.2.2.2) (h.below))))))))))
  clear h S10
  obtain ⟨f0, f1, f2, f3, f4, f5⟩ := S11.out.1.facts
  go_wp2_with fail
  refine ret_b3 S11.out.1 (fun W d0 d1 d2 => by simp [results, Tryd.results5, go_sem, d0, d1, d2]; try rfl) rfl ?_
  exact ⟨_, rfl, S11.out.2.2.2.2.2.2.2.1.put3 rat_word S11.out.1 (Nat.le_refl _) _ _ _⟩
set_option maxRecDepth 100000 in
set_option maxHeartbeats 2000000 in
theorem rparse_small {w : World} {s : ByteArray} {b sm : Bool} {wh pt ex ov : List UInt8} {d E : Nat} (hs : SplitSays s b sm wh pt ex ov d true) (hd : d ≤ 200) (hl : wh.length + pt.length + ex.length + ov.length ≤ 200) (hw : 0 < wh.length) (hE : valT (ex ++ [48]) = E) (hE9 : E ≤ 990) (ho : ov.isEmpty = true) (hx : ex.isEmpty = false) (h0 : E ≠ 0) (hsm : sm = true) :
    Calls Tryd.prog 5 #[.string s] w fun e w' => ∃ v, e = .returned (.tuple #[v, .int .i64 0]) ∧ Qs w w' v (qn (sg b (valT (wh ++ pt))) (10 ^ pt.length * 10 ^ (E / 10))) (qd (sg b (valT (wh ++ pt))) (10 ^ pt.length * 10 ^ (E / 10))) := by
  have HS := Lib.hid hs
  have e1 : decide ((200 : Int) < (d : Int)) = false := decide_eq_false (by omega)
  have z1 : (St ex).size ≤ 1000 := by rw [st_size]; omega
  have z2 : (St wh).size ≤ 1000 := by rw [st_size]; omega
  have z3 : (St pt).size ≤ 199 := by rw [st_size]; omega
  have hv := fun W => value_s (w := W) (St ex ++ ByteArray.mk #[48]) (by rw [app_size]; show _ + 1 ≤ _; omega)
  rw [show (St ex ++ ByteArray.mk #[48]).data.toList = ex ++ [48] by rw [Go.Joins.data_append, st_list], hE] at hv
  obtain ⟨c, hc⟩ : ∃ c, cmpN E 990 = c := ⟨_, rfl⟩
  have e2 : decide ((0 : Int) < c) = false := decide_eq_false (by rw [← hc, cmpN]; split <;> (try split) <;> omega)
  have e3 : (St ov).toList.isEmpty = true := by rw [st_nil, ho]
  have HV := Lib.hid (And.intro hv (And.intro hc (show E < WB ^ 200 by rw [← hE]; exact valT_lt _)))
  obtain ⟨Z, hZ⟩ : ∃ Z, Z = 400 := ⟨_, rfl⟩
  have HZ := Lib.hid hZ
  obtain ⟨AA, hAA⟩ : ∃ A, A = 200 := ⟨_, rfl⟩
  have hZA : Z = AA + AA := by omega
  have e4 : (St ex).toList.isEmpty = false := by rw [st_nil, hx]
  have hq : 10 ^ (E / 10) < WB ^ 200 := Nat.lt_of_lt_of_le (Nat.pow_lt_pow_right (by decide) (show E / 10 < 200 by omega)) (Nat.pow_le_pow_left (by rw [WB_eq]; decide) 200)
  have hp : 10 ^ pt.length < WB ^ 200 := Nat.lt_of_lt_of_le (Nat.pow_lt_pow_right (by decide) (show pt.length < 200 by omega)) (Nat.pow_le_pow_left (by rw [WB_eq]; decide) 200)
  have hwp := valT_lt (wh ++ pt)
  have hp0 : 10 ^ pt.length ≠ 0 := by have := Nat.pow_pos (n := pt.length) (show 0 < 10 by decide); omega
  have hq0 : 10 ^ (E / 10) ≠ 0 := by have := Nat.pow_pos (n := E / 10) (show 0 < 10 by decide); omega
  obtain ⟨q, eq⟩ : ∃ q, 10 ^ (E / 10) = q := ⟨_, rfl⟩
  obtain ⟨t, et⟩ : ∃ t, 10 ^ pt.length = t := ⟨_, rfl⟩
  obtain ⟨m, em⟩ : ∃ m, valT (wh ++ pt) = m := ⟨_, rfl⟩
  rw [eq] at hq hq0
  rw [et] at hp hp0
  rw [em] at hwp
  rw [em, et, eq]
  obtain ⟨nn, enn⟩ : ∃ nn, m = nn := ⟨_, rfl⟩
  obtain ⟨dd, edd⟩ : ∃ dd, t * q = dd := ⟨_, rfl⟩
  rw [enn, edd]
  have bnn : nn < WB ^ Z := by rw [← enn]; exact Nat.lt_of_lt_of_le hwp (Nat.pow_le_pow_right WB_pos (by omega))
  have bdd : dd < WB ^ Z := by rw [← edd]; rw [hZA]; exact pow_mul (by rw [hAA]; exact hp) (by rw [hAA]; exact hq)
  have hdd0 : dd ≠ 0 := by rw [← edd]; exact Nat.mul_ne_zero hp0 hq0
  have ey : (sg false dd).natAbs = dd := sg_abs _ _
  have eu : upz (sg b nn) (sg false dd) = sg b nn := by unfold upz; rw [if_neg (by simp [sg])]
  obtain ⟨x, hx_⟩ : ∃ x, sg b nn = x := ⟨_, rfl⟩
  obtain ⟨y, hy⟩ : ∃ y, sg false dd = y := ⟨_, rfl⟩
  rw [hx_, hy] at eu
  rw [hy] at ey
  have hy0 : y ≠ 0 := fun h => hdd0 (by rw [← ey, h]; rfl)
  have bx : x.natAbs < WB ^ Z := by rw [← hx_, sg_abs]; exact bnn
  have b_y : y.natAbs < WB ^ Z := by rw [ey]; exact bdd
  rw [hx_, ← ey]
  rw [← eu]
  obtain ⟨k, hk⟩ : ∃ k, k = E / 10 := ⟨_, rfl⟩
  have hkI : (E : Int).tdiv 10 = (k : Int) := by rw [hk]; exact (Int.ofNat_tdiv E 10).symm ▸ rfl
  rw [← hk] at eq
  have hEw : dg WB E = [E] := dg_one (by omega) (by rw [WB_eq]; omega)
  have k1 : IntKind.i64.wrap (k : Int) = (k : Int) := IntWalk.i64_in _ (by omega)
  have k2 : IntKind.u64.wrap (k : Int) = (k : Int) := IntWalk.u64_in _ (by omega)
  subst hsm
  have HL := Lib.hid (And.intro hx_ (And.intro hy (And.intro hy0 (And.intro bx (And.intro b_y (And.intro em (And.intro et (And.intro enn (And.intro edd (And.intro hwp (And.intro hp (And.intro bnn (And.intro bdd (And.intro hq (And.intro eq (And.intro hEw (show k ≤ 199 by omega)))))))))))))))))
  have hpt : (St pt).size = pt.length := st_size pt
  have hwt := fun W => value_s (w := W) (St wh ++ St pt) (by rw [app_size]; omega)
  rw [st_app, st_list, em] at hwt
  have hpw := fun W => power_s (w := W) (n := (St pt).size) (by omega)
  rw [hpt, et] at hpw
  have HW2 := Lib.hid (And.intro hwt (And.intro hpw hpt))
  clear hZ hZA hAA hs hd hl hw hE hE9 ho hv hc ey eu hx_ hy hy0 bx b_y hx hq hp hwp hp0 hq0 eq et em enn edd bnn bdd hdd0 hpt hwt hpw hk hEw h0
  go_enter Tryd.func5, Tryd.ntmps5
  go_upto_region 1 with (fail)
  have hX := B3.new 27 w (.bool false) (.slice none 0 0) (.slice none 0 0)
  have S0 := Lib.hid (And.intro (hX) (below_al w (.cells #[.bool false, .slice none 0 0, .slice none 0 0] 27)))
  clear hX
  generalize w.alloc _ = W0 at S0 ⊢
  go_wp2_with fail
  refine (HS.out _).mono ?_; rintro e w1 ⟨rfl, hb⟩
  have S1 := Lib.hid (And.intro (S0.out.1.keep (hb)) (below_trans (S0.out.2) (hb)))
  clear hb  S0
  go_upto_region 2 with (fail)
  have hP := B6.new 37 w1 (.bool b) (.bool true) (.string (St wh)) (.string (St pt)) (.string (St ex)) (.string (St ov))
  obtain ⟨gp, hgp⟩ : ∃ g, g = w1.heap.size := ⟨_, rfl⟩
  have S2 := Lib.hid (And.intro (S1.out.1.keep ((below_al w1 (.cells #[.bool b, .bool true, .string (St wh), .string (St pt), .string (St ex), .string (St ov)] 37)))) (And.intro (hP) (And.intro ((show w.heap.size < w1.heap.size from S1.out.1.lt)) (below_trans (S1.out.2) ((below_al w1 (.cells #[.bool b, .bool true, .string (St wh), .string (St pt), .string (St ex), .string (St ov)] 37)))))))
  clear hP S1
  generalize w1.alloc _ = W1 at S2 ⊢
  rw [← hgp] at S2 ⊢
  clear hgp
  have hgz := S2.out.2.2.1
  have S3 := Lib.hid (And.intro (S2.out.1) (And.intro (S2.out.2.1) (S2.out.2.2.2)))
  clear S2
  obtain ⟨Pa, Pb, Pc, Pd, Pe, Pf, -, -, -, -, -, -⟩ := S3.out.2.1.facts
  go_wp2_with fail
  refine (HV.out.1 _).mono ?_; rintro e wv ⟨v, rfl, h⟩
  clear Pa Pb Pc Pd Pe Pf
  have hnl := h.nl
  rw [HL.out.2.2.2.2.2.2.2.2.2.2.2.2.2.2.2.1] at hnl
  obtain ⟨gx, ox, cx, rfl, hcx⟩ := one_cell hnl
  have S4 := Lib.hid (And.intro (S3.out.1.keep (h.2)) (And.intro (S3.out.2.1.keep (h.2)) (And.intro (h.nm HV.out.2.2) (And.intro (hcx) (below_trans (S3.out.2.2) (h.2))))))
  clear h hnl hcx S3
  go_wp2_with fail
  refine (cmp_nm (S4.out.2.2.1.keep (below_al _ _)) (nine_nm _)).mono ?_; rintro e wc ⟨rfl, hb⟩
  rw [HV.out.2.1]
  have S5 := Lib.hid (And.intro (S4.out.1.keep ((below_trans (below_al _ _) hb))) (And.intro (S4.out.2.1.keep ((below_trans (below_al _ _) hb))) (And.intro (S4.out.2.2.1.keep ((below_trans (below_al _ _) hb))) (And.intro (S4.out.2.2.2.1.keep ((below_trans (below_al _ _) hb))) (below_trans (S4.out.2.2.2.2) ((below_trans (below_al _ _) hb)))))))
  clear hb S4
  obtain ⟨Pa, Pb, Pc, Pd, Pe, Pf, -, -, -, -, -, -⟩ := S5.out.2.1.facts
  go_upto_region 9 with (fail)
  clear Pa Pb Pc Pd Pe Pf
  go_upto_region 9 with (fail)
  have S6 := Lib.hid (And.intro (S5.out.1.keep (below_dr _ 1)) (And.intro (S5.out.2.1.keep (below_dr _ 1)) (And.intro (S5.out.2.2.1.keep (below_dr _ 1)) (And.intro (S5.out.2.2.2.1.keep (below_dr _ 1)) (below_trans (S5.out.2.2.2.2) (below_dr _ 1))))))
  refine wp_region_held_drew (S := fun W => W.cell? ⟨gp, 0, none⟩ = some (.bool b) ∧ W.cell? ⟨gp, 1, none⟩ = some (.bool true) ∧ W.cell? ⟨gp, 2, none⟩ = some (.string (St wh)) ∧ W.cell? ⟨gp, 3, none⟩ = some (.string (St pt)) ∧ W.cell? ⟨gp, 4, none⟩ = some (.string (St ex)) ∧ W.cell? ⟨gp, 5, none⟩ = some (.string (St ov))) (by kernel_rfl) ⟨S6.out.2.1.facts.1, S6.out.2.1.facts.2.1, S6.out.2.1.facts.2.2.1, S6.out.2.1.facts.2.2.2.1, S6.out.2.1.facts.2.2.2.2.1, S6.out.2.1.facts.2.2.2.2.2.1⟩ (fun hHeld => ?_)
  refine rgTake 0 hHeld ?_; try simp only [Act.put, List.setIfInBounds_toArray, List.set_cons_zero, List.set_cons_succ]
  refine rgTake 1 hHeld ?_; try simp only [Act.put, List.setIfInBounds_toArray, List.set_cons_zero, List.set_cons_succ]
  refine rgTake 2 hHeld ?_; try simp only [Act.put, List.setIfInBounds_toArray, List.set_cons_zero, List.set_cons_succ]
  refine rgTake 3 hHeld ?_; try simp only [Act.put, List.setIfInBounds_toArray, List.set_cons_zero, List.set_cons_succ]
  refine rgTake 4 hHeld ?_; try simp only [Act.put, List.setIfInBounds_toArray, List.set_cons_zero, List.set_cons_succ]
  refine rgTake 6 hHeld ?_; try simp only [Act.put, List.setIfInBounds_toArray, List.set_cons_zero, List.set_cons_succ]
  refine rgTake 7 hHeld ?_; try simp only [Act.put, List.setIfInBounds_toArray, List.set_cons_zero, List.set_cons_succ]
  refine rgTake 8 hHeld ?_; try simp only [Act.put, List.setIfInBounds_toArray, List.set_cons_zero, List.set_cons_succ]
  refine rgReady [5] (rgOne (fun K hK => ?_) rgNil)
  go_simp
  go_at_call 10; refine (HW2.out.1 _).mono ?_; rintro e w7 ⟨v, rfl, h⟩
  have S7 := Lib.hid (And.intro (S6.out.1.keep (h.2)) (And.intro (S6.out.2.1.keep (h.2)) (And.intro (S6.out.2.2.1.keep (h.2)) (And.intro (S6.out.2.2.2.1.keep (h.2)) (And.intro (h.nm HL.out.2.2.2.2.2.2.2.2.2.1) (below_trans (S6.out.2.2.2.2) (h.2)))))))
  clear h hHeld
  go_wp2_with fail
  refine hK.out _ _ ⟨S7.out.2.1.facts.1, S7.out.2.1.facts.2.1, S7.out.2.1.facts.2.2.1, S7.out.2.1.facts.2.2.2.1, S7.out.2.1.facts.2.2.2.2.1, S7.out.2.1.facts.2.2.2.2.2.1⟩ (fun hHeld => ?_); clear hK K; try simp only [Act.put, List.setIfInBounds_toArray, List.set_cons_zero, List.set_cons_succ]
  refine rgReady [9] (rgOne (fun K hK => ?_) rgNil)
  go_simp
  go_at_call 14; refine (HW2.out.2.1 _).mono ?_; rintro e w8 ⟨v, rfl, h⟩
  have S8 := Lib.hid (And.intro (S7.out.1.keep (h.2)) (And.intro (S7.out.2.1.keep (h.2)) (And.intro (S7.out.2.2.1.keep (h.2)) (And.intro (S7.out.2.2.2.1.keep (h.2)) (And.intro (S7.out.2.2.2.2.1.keep (h.2)) (And.intro (h.nm HL.out.2.2.2.2.2.2.2.2.2.2.1) (below_trans (S7.out.2.2.2.2.2) (h.2))))))))
  clear h hHeld
  go_wp2_with fail
  refine hK.out _ _ ⟨S8.out.2.1.facts.1, S8.out.2.1.facts.2.1, S8.out.2.1.facts.2.2.1, S8.out.2.1.facts.2.2.2.1, S8.out.2.1.facts.2.2.2.2.1, S8.out.2.1.facts.2.2.2.2.2.1⟩ (fun hHeld => ?_); clear hK K; try simp only [Act.put, List.setIfInBounds_toArray, List.set_cons_zero, List.set_cons_succ]
  refine rgTake 10 hHeld ?_; try simp only [Act.put, List.setIfInBounds_toArray, List.set_cons_zero, List.set_cons_succ]
  refine rgTake 11 hHeld ?_; try simp only [Act.put, List.setIfInBounds_toArray, List.set_cons_zero, List.set_cons_succ]
  refine wpAnyH_done (by kernel_rfl) ?_ _
  clear hHeld
  obtain ⟨Pa, Pb, Pc, Pd, Pe, Pf, -, -, -, -, -, -⟩ := S8.out.2.1.facts
  have hcx := S8.out.2.2.2.1.1
  go_wp2_with fail
  refine (power_s HL.out.2.2.2.2.2.2.2.2.2.2.2.2.2.2.2.2).mono ?_; rintro e wp ⟨v, rfl, h⟩
  clear hcx Pa Pb Pc Pd Pe Pf
  rw [HL.out.2.2.2.2.2.2.2.2.2.2.2.2.2.2.1] at h
  have S9 := Lib.hid (And.intro (S8.out.1.keep (h.2)) (And.intro (S8.out.2.1.keep (h.2)) (And.intro (S8.out.2.2.1.keep (h.2)) (And.intro (S8.out.2.2.2.1.keep (h.2)) (And.intro (S8.out.2.2.2.2.1.keep (h.2)) (And.intro (S8.out.2.2.2.2.2.1.keep (h.2)) (And.intro (h.nm HL.out.2.2.2.2.2.2.2.2.2.2.2.2.2.1) (below_trans (S8.out.2.2.2.2.2.2) (h.2)))))))))
  clear h S8
  obtain ⟨Pa, Pb, Pc, Pd, Pe, Pf, -, -, -, -, -, -⟩ := S9.out.2.1.facts
  go_wp2_with fail
  refine (mul_nm S9.out.2.2.2.2.2.1 S9.out.2.2.2.2.2.2.1 (by decide) (by decide)).mono ?_; rintro e wm ⟨v, rfl, h⟩
  clear Pa Pb Pc Pd Pe Pf
  rw [HL.out.2.2.2.2.2.2.2.2.1] at h
  have S10 := Lib.hid (And.intro (S9.out.1.keep (h.2)) (And.intro (S9.out.2.1.keep (h.2)) (And.intro (S9.out.2.2.1.keep (h.2)) (And.intro (S9.out.2.2.2.1.keep (h.2)) (And.intro (S9.out.2.2.2.2.1.keep (h.2)) (And.intro (S9.out.2.2.2.2.2.1.keep (h.2)) (And.intro (S9.out.2.2.2.2.2.2.1.keep (h.2)) (And.intro (h.nm (L := Z) HL.out.2.2.2.2.2.2.2.2.2.2.2.2.1) (below_trans (S9.out.2.2.2.2.2.2.2) (h.2))))))))))
  clear h S9
  obtain ⟨Pa, Pb, Pc, Pd, Pe, Pf, -, -, -, -, -, -⟩ := S10.out.2.1.facts
  go_wp2_with fail
  refine (make_z b (S10.out.2.2.2.2.1.mono (L' := Z) (by have := HZ.out; omega)) (by have := HZ.out; omega)).mono ?_; rintro e wx ⟨v, rfl, h⟩
  clear Pa Pb Pc Pd Pe Pf
  rw [HL.out.2.2.2.2.2.2.2.1, HL.out.1] at h
  have S11 := Lib.hid (And.intro (S10.out.1.keep (h.below)) (And.intro (S10.out.2.1.keep (h.below)) (And.intro (S10.out.2.2.1.keep (h.below)) (And.intro (S10.out.2.2.2.1.keep (h.below)) (And.intro (S10.out.2.2.2.2.1.keep (h.below)) (And.intro (S10.out.2.2.2.2.2.1.keep (h.below)) (And.intro (S10.out.2.2.2.2.2.2.1.keep (h.below)) (And.intro (S10.out.2.2.2.2.2.2.2.1.keep (h.below)) (And.intro (h.zn HL.out.2.2.2.1) (below_trans (S10.out.2.2.2.2.2.2.2.2) (h.below)))))))))))
  clear h S10
  go_wp2_with fail
  refine (make_z false S11.out.2.2.2.2.2.2.2.1 (by have := HZ.out; omega)).mono ?_; rintro e wy ⟨v, rfl, h⟩
  rw [HL.out.2.1] at h
  have S12 := Lib.hid (And.intro (S11.out.1.keep (h.below)) (And.intro (S11.out.2.1.keep (h.below)) (And.intro (S11.out.2.2.1.keep (h.below)) (And.intro (S11.out.2.2.2.1.keep (h.below)) (And.intro (S11.out.2.2.2.2.1.keep (h.below)) (And.intro (S11.out.2.2.2.2.2.1.keep (h.below)) (And.intro (S11.out.2.2.2.2.2.2.1.keep (h.below)) (And.intro (S11.out.2.2.2.2.2.2.2.1.keep (h.below)) (And.intro (S11.out.2.2.2.2.2.2.2.2.1.keep (h.below)) (And.intro (h.zn HL.out.2.2.2.2.1) (below_trans (S11.out.2.2.2.2.2.2.2.2.2) (h.below))))))))))))
  clear h S11
  go_wp2_with fail
  refine (make_q S12.out.2.2.2.2.2.2.2.2.1 S12.out.2.2.2.2.2.2.2.2.2.1 (by have := HZ.out; omega) HL.out.2.2.1).mono ?_; rintro e wz ⟨v, rfl, h⟩
  obtain ⟨pq, Aq, lq, cq, Ae, le, ce, rfl⟩ := h.parts
  have S13 := Lib.hid (And.intro (S12.out.1.keep (h.below)) (And.intro (S12.out.2.1.keep (h.below)) (And.intro (S12.out.2.2.1.keep (h.below)) (And.intro (S12.out.2.2.2.1.keep (h.below)) (And.intro (S12.out.2.2.2.2.1.keep (h.below)) (And.intro (S12.out.2.2.2.2.2.1.keep (h.below)) (And.intro (S12.out.2.2.2.2.2.2.1.keep (h.below)) (And.intro (S12.out.2.2.2.2.2.2.2.1.keep (h.below)) (And.intro (S12.out.2.2.2.2.2.2.2.2.1.keep (h.below)) (And.intro (S12.out.2.2.2.2.2.2.2.2.2.1.keep (h.below)) (And.intro (h.from S12.out.2.2.2.2.2.2.2.2.2.2) (below_trans (S12.out.2.2.2.2.2.2.2.2.2.2) (h.below)))))))))))))
  clear h S12
  obtain ⟨f0, f1, f2, f3, f4, f5⟩ := S13.out.1.facts
  go_wp2_with fail
  refine ret_b3 S13.out.1 (fun W d0 d1 d2 => by simp [results, Tryd.results5, go_sem, d0, d1, d2]; try rfl) rfl ?_
  exact ⟨_, rfl, S13.out.2.2.2.2.2.2.2.2.2.2.1.put3 rat_word S13.out.1 (Nat.le_refl _) _ _ _⟩
set_option maxRecDepth 100000 in
set_option maxHeartbeats 2000000 in
theorem rparse_big {w : World} {s : ByteArray} {b sm : Bool} {wh pt ex ov : List UInt8} {d E : Nat} (hs : SplitSays s b sm wh pt ex ov d true) (hd : d ≤ 200) (hl : wh.length + pt.length + ex.length + ov.length ≤ 200) (hw : 0 < wh.length) (hE : valT (ex ++ [48]) = E) (hE9 : E ≤ 990) (ho : ov.isEmpty = true) (hx : ex.isEmpty = false) (h0 : E ≠ 0) (hsm : sm = false) :
    Calls Tryd.prog 5 #[.string s] w fun e w' => ∃ v, e = .returned (.tuple #[v, .int .i64 0]) ∧ Qs w w' v (qn (sg b (valT (wh ++ pt) * 10 ^ (E / 10))) (10 ^ pt.length)) (qd (sg b (valT (wh ++ pt) * 10 ^ (E / 10))) (10 ^ pt.length)) := by
  have HS := Lib.hid hs
  have e1 : decide ((200 : Int) < (d : Int)) = false := decide_eq_false (by omega)
  have z1 : (St ex).size ≤ 1000 := by rw [st_size]; omega
  have z2 : (St wh).size ≤ 1000 := by rw [st_size]; omega
  have z3 : (St pt).size ≤ 199 := by rw [st_size]; omega
  have hv := fun W => value_s (w := W) (St ex ++ ByteArray.mk #[48]) (by rw [app_size]; show _ + 1 ≤ _; omega)
  rw [show (St ex ++ ByteArray.mk #[48]).data.toList = ex ++ [48] by rw [Go.Joins.data_append, st_list], hE] at hv
  obtain ⟨c, hc⟩ : ∃ c, cmpN E 990 = c := ⟨_, rfl⟩
  have e2 : decide ((0 : Int) < c) = false := decide_eq_false (by rw [← hc, cmpN]; split <;> (try split) <;> omega)
  have e3 : (St ov).toList.isEmpty = true := by rw [st_nil, ho]
  have HV := Lib.hid (And.intro hv (And.intro hc (show E < WB ^ 200 by rw [← hE]; exact valT_lt _)))
  obtain ⟨Z, hZ⟩ : ∃ Z, Z = 400 := ⟨_, rfl⟩
  have HZ := Lib.hid hZ
  obtain ⟨AA, hAA⟩ : ∃ A, A = 200 := ⟨_, rfl⟩
  have hZA : Z = AA + AA := by omega
  have e4 : (St ex).toList.isEmpty = false := by rw [st_nil, hx]
  have hq : 10 ^ (E / 10) < WB ^ 200 := Nat.lt_of_lt_of_le (Nat.pow_lt_pow_right (by decide) (show E / 10 < 200 by omega)) (Nat.pow_le_pow_left (by rw [WB_eq]; decide) 200)
  have hp : 10 ^ pt.length < WB ^ 200 := Nat.lt_of_lt_of_le (Nat.pow_lt_pow_right (by decide) (show pt.length < 200 by omega)) (Nat.pow_le_pow_left (by rw [WB_eq]; decide) 200)
  have hwp := valT_lt (wh ++ pt)
  have hp0 : 10 ^ pt.length ≠ 0 := by have := Nat.pow_pos (n := pt.length) (show 0 < 10 by decide); omega
  have hq0 : 10 ^ (E / 10) ≠ 0 := by have := Nat.pow_pos (n := E / 10) (show 0 < 10 by decide); omega
  obtain ⟨q, eq⟩ : ∃ q, 10 ^ (E / 10) = q := ⟨_, rfl⟩
  obtain ⟨t, et⟩ : ∃ t, 10 ^ pt.length = t := ⟨_, rfl⟩
  obtain ⟨m, em⟩ : ∃ m, valT (wh ++ pt) = m := ⟨_, rfl⟩
  rw [eq] at hq hq0
  rw [et] at hp hp0
  rw [em] at hwp
  rw [em, et, eq]
  obtain ⟨nn, enn⟩ : ∃ nn, m * q = nn := ⟨_, rfl⟩
  obtain ⟨dd, edd⟩ : ∃ dd, t = dd := ⟨_, rfl⟩
  rw [enn, edd]
  have bnn : nn < WB ^ Z := by rw [← enn]; rw [hZA]; exact pow_mul (by rw [hAA]; exact hwp) (by rw [hAA]; exact hq)
  have bdd : dd < WB ^ Z := by rw [← edd]; exact Nat.lt_of_lt_of_le hp (Nat.pow_le_pow_right WB_pos (by omega))
  have hdd0 : dd ≠ 0 := by rw [← edd]; exact hp0
  have ey : (sg false dd).natAbs = dd := sg_abs _ _
  have eu : upz (sg b nn) (sg false dd) = sg b nn := by unfold upz; rw [if_neg (by simp [sg])]
  obtain ⟨x, hx_⟩ : ∃ x, sg b nn = x := ⟨_, rfl⟩
  obtain ⟨y, hy⟩ : ∃ y, sg false dd = y := ⟨_, rfl⟩
  rw [hx_, hy] at eu
  rw [hy] at ey
  have hy0 : y ≠ 0 := fun h => hdd0 (by rw [← ey, h]; rfl)
  have bx : x.natAbs < WB ^ Z := by rw [← hx_, sg_abs]; exact bnn
  have b_y : y.natAbs < WB ^ Z := by rw [ey]; exact bdd
  rw [hx_, ← ey]
  rw [← eu]
  obtain ⟨k, hk⟩ : ∃ k, k = E / 10 := ⟨_, rfl⟩
  have hkI : (E : Int).tdiv 10 = (k : Int) := by rw [hk]; exact (Int.ofNat_tdiv E 10).symm ▸ rfl
  rw [← hk] at eq
  have hEw : dg WB E = [E] := dg_one (by omega) (by rw [WB_eq]; omega)
  have k1 : IntKind.i64.wrap (k : Int) = (k : Int) := IntWalk.i64_in _ (by omega)
  have k2 : IntKind.u64.wrap (k : Int) = (k : Int) := IntWalk.u64_in _ (by omega)
  subst hsm
  have HL := Lib.hid (And.intro hx_ (And.intro hy (And.intro hy0 (And.intro bx (And.intro b_y (And.intro em (And.intro et (And.intro enn (And.intro edd (And.intro hwp (And.intro hp (And.intro bnn (And.intro bdd (And.intro hq (And.intro eq (And.intro hEw (show k ≤ 199 by omega)))))))))))))))))
  have hpt : (St pt).size = pt.length := st_size pt
  have hwt := fun W => value_s (w := W) (St wh ++ St pt) (by rw [app_size]; omega)
  rw [st_app, st_list, em] at hwt
  have hpw := fun W => power_s (w := W) (n := (St pt).size) (by omega)
  rw [hpt, et] at hpw
  have HW2 := Lib.hid (And.intro hwt (And.intro hpw hpt))
  clear hZ hZA hAA hs hd hl hw hE hE9 ho hv hc ey eu hx_ hy hy0 bx b_y hx hq hp hwp hp0 hq0 eq et em enn edd bnn bdd hdd0 hpt hwt hpw hk hEw h0
  go_enter Tryd.func5, Tryd.ntmps5
  go_upto_region 1 with (fail)
  have hX := B3.new 27 w (.bool false) (.slice none 0 0) (.slice none 0 0)
  have S0 := Lib.hid (And.intro (hX) (below_al w (.cells #[.bool false, .slice none 0 0, .slice none 0 0] 27)))
  clear hX
  generalize w.alloc _ = W0 at S0 ⊢
  go_wp2_with fail
  refine (HS.out _).mono ?_; rintro e w1 ⟨rfl, hb⟩
  have S1 := Lib.hid (And.intro (S0.out.1.keep (hb)) (below_trans (S0.out.2) (hb)))
  clear hb  S0
  go_upto_region 2 with (fail)
  have hP := B6.new 37 w1 (.bool b) (.bool false) (.string (St wh)) (.string (St pt)) (.string (St ex)) (.string (St ov))
  obtain ⟨gp, hgp⟩ : ∃ g, g = w1.heap.size := ⟨_, rfl⟩
  have S2 := Lib.hid (And.intro (S1.out.1.keep ((below_al w1 (.cells #[.bool b, .bool false, .string (St wh), .string (St pt), .string (St ex), .string (St ov)] 37)))) (And.intro (hP) (And.intro ((show w.heap.size < w1.heap.size from S1.out.1.lt)) (below_trans (S1.out.2) ((below_al w1 (.cells #[.bool b, .bool false, .string (St wh), .string (St pt), .string (St ex), .string (St ov)] 37)))))))
  clear hP S1
  generalize w1.alloc _ = W1 at S2 ⊢
  rw [← hgp] at S2 ⊢
  clear hgp
  have hgz := S2.out.2.2.1
  have S3 := Lib.hid (And.intro (S2.out.1) (And.intro (S2.out.2.1) (S2.out.2.2.2)))
  clear S2
  obtain ⟨Pa, Pb, Pc, Pd, Pe, Pf, -, -, -, -, -, -⟩ := S3.out.2.1.facts
  go_wp2_with fail
  refine (HV.out.1 _).mono ?_; rintro e wv ⟨v, rfl, h⟩
  clear Pa Pb Pc Pd Pe Pf
  have hnl := h.nl
  rw [HL.out.2.2.2.2.2.2.2.2.2.2.2.2.2.2.2.1] at hnl
  obtain ⟨gx, ox, cx, rfl, hcx⟩ := one_cell hnl
  have S4 := Lib.hid (And.intro (S3.out.1.keep (h.2)) (And.intro (S3.out.2.1.keep (h.2)) (And.intro (h.nm HV.out.2.2) (And.intro (hcx) (below_trans (S3.out.2.2) (h.2))))))
  clear h hnl hcx S3
  go_wp2_with fail
  refine (cmp_nm (S4.out.2.2.1.keep (below_al _ _)) (nine_nm _)).mono ?_; rintro e wc ⟨rfl, hb⟩
  rw [HV.out.2.1]
  have S5 := Lib.hid (And.intro (S4.out.1.keep ((below_trans (below_al _ _) hb))) (And.intro (S4.out.2.1.keep ((below_trans (below_al _ _) hb))) (And.intro (S4.out.2.2.1.keep ((below_trans (below_al _ _) hb))) (And.intro (S4.out.2.2.2.1.keep ((below_trans (below_al _ _) hb))) (below_trans (S4.out.2.2.2.2) ((below_trans (below_al _ _) hb)))))))
  clear hb S4
  obtain ⟨Pa, Pb, Pc, Pd, Pe, Pf, -, -, -, -, -, -⟩ := S5.out.2.1.facts
  go_upto_region 9 with (fail)
  clear Pa Pb Pc Pd Pe Pf
  go_upto_region 9 with (fail)
  have S6 := Lib.hid (And.intro (S5.out.1.keep (below_dr _ 1)) (And.intro (S5.out.2.1.keep (below_dr _ 1)) (And.intro (S5.out.2.2.1.keep (below_dr _ 1)) (And.intro (S5.out.2.2.2.1.keep (below_dr _ 1)) (below_trans (S5.out.2.2.2.2) (below_dr _ 1))))))
  refine wp_region_held_drew (S := fun W => W.cell? ⟨gp, 0, none⟩ = some (.bool b) ∧ W.cell? ⟨gp, 1, none⟩ = some (.bool false) ∧ W.cell? ⟨gp, 2, none⟩ = some (.string (St wh)) ∧ W.cell? ⟨gp, 3, none⟩ = some (.string (St pt)) ∧ W.cell? ⟨gp, 4, none⟩ = some (.string (St ex)) ∧ W.cell? ⟨gp, 5, none⟩ = some (.string (St ov))) (by kernel_rfl) ⟨S6.out.2.1.facts.1, S6.out.2.1.facts.2.1, S6.out.2.1.facts.2.2.1, S6.out.2.1.facts.2.2.2.1, S6.out.2.1.facts.2.2.2.2.1, S6.out.2.1.facts.2.2.2.2.2.1⟩ (fun hHeld => ?_)
  refine rgTake 0 hHeld ?_; try simp only [Act.put, List.setIfInBounds_toArray, List.set_cons_zero, List.set_cons_succ]
  refine rgTake 1 hHeld ?_; try simp only [Act.put, List.setIfInBounds_toArray, List.set_cons_zero, List.set_cons_succ]
  refine rgTake 2 hHeld ?_; try simp only [Act.put, List.setIfInBounds_toArray, List.set_cons_zero, List.set_cons_succ]
  refine rgTake 3 hHeld ?_; try simp only [Act.put, List.setIfInBounds_toArray, List.set_cons_zero, List.set_cons_succ]
  refine rgTake 4 hHeld ?_; try simp only [Act.put, List.setIfInBounds_toArray, List.set_cons_zero, List.set_cons_succ]
  refine rgTake 6 hHeld ?_; try simp only [Act.put, List.setIfInBounds_toArray, List.set_cons_zero, List.set_cons_succ]
  refine rgTake 7 hHeld ?_; try simp only [Act.put, List.setIfInBounds_toArray, List.set_cons_zero, List.set_cons_succ]
  refine rgTake 8 hHeld ?_; try simp only [Act.put, List.setIfInBounds_toArray, List.set_cons_zero, List.set_cons_succ]
  refine rgReady [5] (rgOne (fun K hK => ?_) rgNil)
  go_simp
  go_at_call 10; refine (HW2.out.1 _).mono ?_; rintro e w7 ⟨v, rfl, h⟩
  have S7 := Lib.hid (And.intro (S6.out.1.keep (h.2)) (And.intro (S6.out.2.1.keep (h.2)) (And.intro (S6.out.2.2.1.keep (h.2)) (And.intro (S6.out.2.2.2.1.keep (h.2)) (And.intro (h.nm HL.out.2.2.2.2.2.2.2.2.2.1) (below_trans (S6.out.2.2.2.2) (h.2)))))))
  clear h hHeld
  go_wp2_with fail
  refine hK.out _ _ ⟨S7.out.2.1.facts.1, S7.out.2.1.facts.2.1, S7.out.2.1.facts.2.2.1, S7.out.2.1.facts.2.2.2.1, S7.out.2.1.facts.2.2.2.2.1, S7.out.2.1.facts.2.2.2.2.2.1⟩ (fun hHeld => ?_); clear hK K; try simp only [Act.put, List.setIfInBounds_toArray, List.set_cons_zero, List.set_cons_succ]
  refine rgReady [9] (rgOne (fun K hK => ?_) rgNil)
  go_simp
  go_at_call 14; refine (HW2.out.2.1 _).mono ?_; rintro e w8 ⟨v, rfl, h⟩
  have S8 := Lib.hid (And.intro (S7.out.1.keep (h.2)) (And.intro (S7.out.2.1.keep (h.2)) (And.intro (S7.out.2.2.1.keep (h.2)) (And.intro (S7.out.2.2.2.1.keep (h.2)) (And.intro (S7.out.2.2.2.2.1.keep (h.2)) (And.intro (h.nm HL.out.2.2.2.2.2.2.2.2.2.2.1) (below_trans (S7.out.2.2.2.2.2) (h.2))))))))
  clear h hHeld
  go_wp2_with fail
  refine hK.out _ _ ⟨S8.out.2.1.facts.1, S8.out.2.1.facts.2.1, S8.out.2.1.facts.2.2.1, S8.out.2.1.facts.2.2.2.1, S8.out.2.1.facts.2.2.2.2.1, S8.out.2.1.facts.2.2.2.2.2.1⟩ (fun hHeld => ?_); clear hK K; try simp only [Act.put, List.setIfInBounds_toArray, List.set_cons_zero, List.set_cons_succ]
  refine rgTake 10 hHeld ?_; try simp only [Act.put, List.setIfInBounds_toArray, List.set_cons_zero, List.set_cons_succ]
  refine rgTake 11 hHeld ?_; try simp only [Act.put, List.setIfInBounds_toArray, List.set_cons_zero, List.set_cons_succ]
  refine wpAnyH_done (by kernel_rfl) ?_ _
  clear hHeld
  obtain ⟨Pa, Pb, Pc, Pd, Pe, Pf, -, -, -, -, -, -⟩ := S8.out.2.1.facts
  have hcx := S8.out.2.2.2.1.1
  go_wp2_with fail
  refine (power_s HL.out.2.2.2.2.2.2.2.2.2.2.2.2.2.2.2.2).mono ?_; rintro e wp ⟨v, rfl, h⟩
  clear hcx Pa Pb Pc Pd Pe Pf
  rw [HL.out.2.2.2.2.2.2.2.2.2.2.2.2.2.2.1] at h
  have S9 := Lib.hid (And.intro (S8.out.1.keep (h.2)) (And.intro (S8.out.2.1.keep (h.2)) (And.intro (S8.out.2.2.1.keep (h.2)) (And.intro (S8.out.2.2.2.1.keep (h.2)) (And.intro (S8.out.2.2.2.2.1.keep (h.2)) (And.intro (S8.out.2.2.2.2.2.1.keep (h.2)) (And.intro (h.nm HL.out.2.2.2.2.2.2.2.2.2.2.2.2.2.1) (below_trans (S8.out.2.2.2.2.2.2) (h.2)))))))))
  clear h S8
  obtain ⟨Pa, Pb, Pc, Pd, Pe, Pf, -, -, -, -, -, -⟩ := S9.out.2.1.facts
  go_wp2_with fail
  refine (mul_nm S9.out.2.2.2.2.1 S9.out.2.2.2.2.2.2.1 (by decide) (by decide)).mono ?_; rintro e wm ⟨v, rfl, h⟩
  clear Pa Pb Pc Pd Pe Pf
  rw [HL.out.2.2.2.2.2.2.2.1] at h
  have S10 := Lib.hid (And.intro (S9.out.1.keep (h.2)) (And.intro (S9.out.2.1.keep (h.2)) (And.intro (S9.out.2.2.1.keep (h.2)) (And.intro (S9.out.2.2.2.1.keep (h.2)) (And.intro (S9.out.2.2.2.2.1.keep (h.2)) (And.intro (S9.out.2.2.2.2.2.1.keep (h.2)) (And.intro (S9.out.2.2.2.2.2.2.1.keep (h.2)) (And.intro (h.nm (L := Z) HL.out.2.2.2.2.2.2.2.2.2.2.2.1) (below_trans (S9.out.2.2.2.2.2.2.2) (h.2))))))))))
  clear h S9
  obtain ⟨Pa, Pb, Pc, Pd, Pe, Pf, -, -, -, -, -, -⟩ := S10.out.2.1.facts
  go_wp2_with fail
  refine (make_z b S10.out.2.2.2.2.2.2.2.1 (by have := HZ.out; omega)).mono ?_; rintro e wx ⟨v, rfl, h⟩
  clear Pa Pb Pc Pd Pe Pf
  rw [HL.out.1] at h
  have S11 := Lib.hid (And.intro (S10.out.1.keep (h.below)) (And.intro (S10.out.2.1.keep (h.below)) (And.intro (S10.out.2.2.1.keep (h.below)) (And.intro (S10.out.2.2.2.1.keep (h.below)) (And.intro (S10.out.2.2.2.2.1.keep (h.below)) (And.intro (S10.out.2.2.2.2.2.1.keep (h.below)) (And.intro (S10.out.2.2.2.2.2.2.1.keep (h.below)) (And.intro (S10.out.2.2.2.2.2.2.2.1.keep (h.below)) (And.intro (h.zn HL.out.2.2.2.1) (below_trans (S10.out.2.2.2.2.2.2.2.2) (h.below)))))))))))
  clear h S10
  go_wp2_with fail
  refine (make_z false (S11.out.2.2.2.2.2.1.mono (L' := Z) (by have := HZ.out; omega)) (by have := HZ.out; omega)).mono ?_; rintro e wy ⟨v, rfl, h⟩
  rw [HL.out.2.2.2.2.2.2.2.2.1, HL.out.2.1] at h
  have S12 := Lib.hid (And.intro (S11.out.1.keep (h.below)) (And.intro (S11.out.2.1.keep (h.below)) (And.intro (S11.out.2.2.1.keep (h.below)) (And.intro (S11.out.2.2.2.1.keep (h.below)) (And.intro (S11.out.2.2.2.2.1.keep (h.below)) (And.intro (S11.out.2.2.2.2.2.1.keep (h.below)) (And.intro (S11.out.2.2.2.2.2.2.1.keep (h.below)) (And.intro (S11.out.2.2.2.2.2.2.2.1.keep (h.below)) (And.intro (S11.out.2.2.2.2.2.2.2.2.1.keep (h.below)) (And.intro (h.zn HL.out.2.2.2.2.1) (below_trans (S11.out.2.2.2.2.2.2.2.2.2) (h.below))))))))))))
  clear h S11
  go_wp2_with fail
  refine (make_q S12.out.2.2.2.2.2.2.2.2.1 S12.out.2.2.2.2.2.2.2.2.2.1 (by have := HZ.out; omega) HL.out.2.2.1).mono ?_; rintro e wz ⟨v, rfl, h⟩
  obtain ⟨pq, Aq, lq, cq, Ae, le, ce, rfl⟩ := h.parts
  have S13 := Lib.hid (And.intro (S12.out.1.keep (h.below)) (And.intro (S12.out.2.1.keep (h.below)) (And.intro (S12.out.2.2.1.keep (h.below)) (And.intro (S12.out.2.2.2.1.keep (h.below)) (And.intro (S12.out.2.2.2.2.1.keep (h.below)) (And.intro (S12.out.2.2.2.2.2.1.keep (h.below)) (And.intro (S12.out.2.2.2.2.2.2.1.keep (h.below)) (And.intro (S12.out.2.2.2.2.2.2.2.1.keep (h.below)) (And.intro (S12.out.2.2.2.2.2.2.2.2.1.keep (h.below)) (And.intro (S12.out.2.2.2.2.2.2.2.2.2.1.keep (h.below)) (And.intro (h.from S12.out.2.2.2.2.2.2.2.2.2.2) (below_trans (S12.out.2.2.2.2.2.2.2.2.2.2) (h.below)))))))))))))
  clear h S12
  obtain ⟨f0, f1, f2, f3, f4, f5⟩ := S13.out.1.facts
  go_wp2_with fail
  refine ret_b3 S13.out.1 (fun W d0 d1 d2 => by simp [results, Tryd.results5, go_sem, d0, d1, d2]; try rfl) rfl ?_
  exact ⟨_, rfl, S13.out.2.2.2.2.2.2.2.2.2.2.1.put3 rat_word S13.out.1 (Nat.le_refl _) _ _ _⟩
end

section
open Go Go.RowKit Go.Proofs Pl
set_option linter.unusedVariables false
theorem zero_ql (w : World) : Ql w (.agg #[.bool false, .slice none 0 0, .slice none 0 0]) false [] [] := ⟨_, _, rfl, nl_nil w, nl_nil w⟩
set_option maxRecDepth 100000 in
set_option maxHeartbeats 2000000 in
theorem reads_ok {w : World} {s want : ByteArray} {z : Int} {n : Nat} (ht : Tab w) (hp : ∀ W, Calls Tryd.prog 5 #[.string s] W fun e w' => ∃ v, e = .returned (.tuple #[v, .int .i64 0]) ∧ Qs W w' v z n)
    (hz : z.natAbs < WB ^ 200) (hn : n < WB ^ 200) (hx : textQ (qn z (den n)) (qd z (den n)) = want) :
    Calls Tryd.prog 7 #[.string s, .string want] w fun e w' => e = .returned (.bool true) ∧ Below w.heap.size w w' := by
  have HE := Lib.hid (And.intro hp (And.intro (dg_length_le WB_one hz) (And.intro (dg_length_le WB_one hn) hx)))
  have S0 := Lib.hid (And.intro (ht) (Below.refl w.heap.size w))
  clear ht hp hz hn hx
  go_enter Tryd.func7, Tryd.ntmps7
  go_wp2_with fail
  refine (HE.out.1 _).mono ?_; rintro e w1 ⟨v, rfl, h⟩
  obtain ⟨p, A, l, c, A2, l2, c2, rfl⟩ := h.parts
  have S1 := Lib.hid (And.intro (S0.out.1.keep (h.below)) (And.intro (h.qo) (below_trans (S0.out.2) (h.below))))
  clear h  S0
  go_upto_region 2 with (fail)
  have hR := B3.new 27 w1 (.bool p) (.slice A l c) (.slice A2 l2 c2)
  obtain ⟨gR, hgR⟩ : ∃ g, g = w1.heap.size := ⟨_, rfl⟩
  have S2 := Lib.hid (And.intro (S1.out.1.keep ((below_al w1 (.cells #[.bool p, .slice A l c, .slice A2 l2 c2] 27)))) (And.intro (S1.out.2.1.keep ((below_al w1 (.cells #[.bool p, .slice A l c, .slice A2 l2 c2] 27)))) (And.intro (hR) (below_trans (S1.out.2.2) ((below_al w1 (.cells #[.bool p, .slice A l c, .slice A2 l2 c2] 27)))))))
  clear hR S1
  generalize w1.alloc _ = WR at S2 ⊢
  rw [← hgR] at S2 ⊢
  clear hgR
  obtain ⟨Ra, Rb, Rc, -, -, -⟩ := S2.out.2.2.1.facts
  go_wp2_with fail
  refine (qtext_q S2.out.1 S2.out.2.1.ql HE.out.2.1 HE.out.2.2.1 (by decide) (by decide)).mono ?_; rintro e w3 ⟨rfl, hb⟩
  rw [val_dg WB_one, val_dg WB_one, sg_form, HE.out.2.2.2]
  have S3 := Lib.hid (And.intro (S2.out.1.keep (hb)) (And.intro (S2.out.2.1.keep (hb)) (And.intro (S2.out.2.2.1.keep (hb)) (below_trans (S2.out.2.2.2) (hb)))))
  clear hb Ra Rb Rc S2
  go_wp2_with fail
  go_ret
  exact ⟨rfl, S3.out.2.2.2⟩
set_option maxRecDepth 100000 in
set_option maxHeartbeats 2000000 in
theorem refuses_ok {w : World} {s : ByteArray} {k : Int} (hp : ∀ W, Calls Tryd.prog 5 #[.string s] W fun e w' => e = .returned (.tuple #[.agg #[.bool false, .slice none 0 0, .slice none 0 0], .int .i64 k]) ∧ Below W.heap.size W w') :
    Calls Tryd.prog 8 #[.string s, .int .i64 k] w fun e w' => e = .returned (.bool true) ∧ Below w.heap.size w w' := by
  have HE := Lib.hid hp
  have S0 := Lib.hid (Below.refl w.heap.size w)
  clear hp
  go_enter Tryd.func8, Tryd.ntmps8
  go_wp2_with fail
  refine (HE.out _).mono ?_; rintro e w1 ⟨rfl, hb⟩
  have S1 := Lib.hid (below_trans (S0.out) (hb))
  clear hb  S0
  go_upto_region 2 with (fail)
  have hR := B3.new 27 w1 (.bool false) (.slice none 0 0) (.slice none 0 0)
  obtain ⟨gR, hgR⟩ : ∃ g, g = w1.heap.size := ⟨_, rfl⟩
  have S2 := Lib.hid (And.intro (hR) (below_trans (S1.out) ((below_al w1 (.cells #[.bool false, .slice none 0 0, .slice none 0 0] 27)))))
  clear hR S1
  generalize w1.alloc _ = WR at S2 ⊢
  rw [← hgR] at S2 ⊢
  clear hgR
  obtain ⟨Ra, Rb, Rc, -, -, -⟩ := S2.out.1.facts
  go_wp2_with fail
  refine (same_q (zero_ql _) (zero_ql _)).mono ?_; rintro e w3 ⟨rfl, hb⟩
  have S3 := Lib.hid (And.intro (S2.out.1.keep (hb)) (below_trans (S2.out.2) (hb)))
  clear hb Ra Rb Rc S2
  go_wp2_with fail
  go_ret
  exact ⟨rfl, S3.out.2⟩
theorem sp1 : SplitSays (ByteArray.mk #[45, 54, 47, 52]) true false [54] [] [] [52] 2 true := fun W => split_100_112 (w := W) (l := [45, 54, 47, 52]) (l1 := [54, 47, 52]) (l2 := [47, 52]) (l3 := [52]) (l4 := []) (wh := [54]) (pt := [52]) (l5 := []) (l6 := []) (l7 := []) (ex := []) (s5 := false) (sm := false) (yb1 := false) (yb2 := false) (yb3 := false) (by decide) rfl rfl rfl rfl rfl rfl rfl rfl rfl rfl
theorem sp2 : SplitSays (ByteArray.mk #[49, 50, 46, 53, 48]) false false [49, 50] [53, 48] [] [] 4 true := fun W => split_010_112 (w := W) (l := [49, 50, 46, 53, 48]) (l1 := [49, 50, 46, 53, 48]) (l2 := [46, 53, 48]) (l3 := [53, 48]) (l4 := []) (wh := [49, 50]) (pt := [53, 48]) (l5 := []) (l6 := []) (l7 := []) (ex := []) (s5 := false) (sm := false) (yb1 := false) (yb2 := false) (yb3 := false) (by decide) rfl rfl rfl rfl rfl rfl rfl rfl rfl rfl rfl rfl
theorem sp3 : SplitSays (ByteArray.mk #[50, 46, 53, 101, 45, 49]) false true [50] [53] [49] [] 3 true := fun W => split_011_111 (w := W) (l := [50, 46, 53, 101, 45, 49]) (l1 := [50, 46, 53, 101, 45, 49]) (l2 := [46, 53, 101, 45, 49]) (l3 := [53, 101, 45, 49]) (l4 := [101, 45, 49]) (l5 := [45, 49]) (l6 := [49]) (l7 := []) (wh := [50]) (pt := [53]) (ex := [49]) (yb1 := false) (yb2 := false) (yb3 := false) (by decide) rfl rfl rfl rfl rfl rfl rfl rfl rfl rfl rfl rfl rfl rfl rfl rfl rfl
theorem sp4 : SplitSays (ByteArray.mk #[48, 48, 55, 69, 50]) false false [48, 48, 55] [] [50] [] 4 true := fun W => split_001_121 (w := W) (l := [48, 48, 55, 69, 50]) (l1 := [48, 48, 55, 69, 50]) (l2 := [69, 50]) (l5 := [50]) (l6 := [50]) (l7 := []) (wh := [48, 48, 55]) (ex := [50]) (l3 := []) (l4 := []) (pt := []) (yb1 := false) (yb2 := false) (yb3 := false) (by decide) rfl rfl rfl rfl rfl rfl rfl rfl rfl rfl rfl rfl rfl rfl
theorem sp5 : SplitSays (ByteArray.mk #[46, 53]) false false [] [53] [] [] 1 false := fun W => split_010_022 (w := W) (l := [46, 53]) (l1 := [46, 53]) (l2 := [46, 53]) (l3 := [53]) (l4 := []) (wh := []) (pt := [53]) (l5 := []) (l6 := []) (l7 := []) (ex := []) (s5 := false) (sm := false) (yb1 := false) (yb3 := false) (by decide) rfl rfl rfl rfl rfl rfl rfl rfl rfl rfl rfl rfl
theorem sp6 : SplitSays (ByteArray.mk #[49, 47, 45, 50]) false false [49] [] [] [] 1 false := fun W => split_100_102 (w := W) (l := [49, 47, 45, 50]) (l1 := [49, 47, 45, 50]) (l2 := [47, 45, 50]) (l3 := [45, 50]) (l4 := [45, 50]) (wh := [49]) (pt := []) (l5 := []) (l6 := []) (l7 := []) (ex := []) (s5 := false) (sm := false) (yb1 := false) (yb2 := false) (yb3 := false) (by decide) rfl rfl rfl rfl rfl rfl rfl rfl rfl rfl
theorem sp7 : SplitSays (ByteArray.mk #[49, 101]) false false [49] [] [] [] 1 false := fun W => split_001_120 (w := W) (l := [49, 101]) (l1 := [49, 101]) (l2 := [101]) (l5 := []) (l6 := []) (l7 := []) (wh := [49]) (ex := []) (l3 := []) (l4 := []) (pt := []) (yb1 := false) (yb2 := false) (yb3 := false) (by decide) rfl rfl rfl rfl rfl rfl rfl rfl rfl rfl rfl rfl rfl rfl
theorem sp8 : SplitSays (ByteArray.mk #[49, 47, 48]) false false [49] [] [] [48] 2 true := fun W => split_100_112 (w := W) (l := [49, 47, 48]) (l1 := [49, 47, 48]) (l2 := [47, 48]) (l3 := [48]) (l4 := []) (wh := [49]) (pt := [48]) (l5 := []) (l6 := []) (l7 := []) (ex := []) (s5 := false) (sm := false) (yb1 := false) (yb2 := false) (yb3 := false) (by decide) rfl rfl rfl rfl rfl rfl rfl rfl rfl rfl
set_option maxRecDepth 100000 in
set_option maxHeartbeats 2000000 in
theorem speaks_r (w : World) (ht : Tab w) : Calls Tryd.prog 4 #[] w fun e w' => e = .returned (.bool true) ∧ Below w.heap.size w w' := by
  have S0 := Lib.hid (And.intro (ht) (Below.refl w.heap.size w))
  clear ht
  go_enter Tryd.func4, Tryd.ntmps4
  go_wp2_with fail
  refine (reads_ok S0.out.1 (fun W => rparse_over (w := W) (E := 0) sp1 (by decide) (by decide) (by decide) (by decide +kernel) (by decide) rfl (by decide +kernel)) (by decide +kernel) (by decide +kernel) (by decide +kernel)).mono ?_; rintro e w1 ⟨rfl, hb⟩
  have S1 := Lib.hid (And.intro (S0.out.1.keep (hb)) (below_trans (S0.out.2) (hb)))
  clear hb  S0
  go_wp2_with fail
  refine (reads_ok S1.out.1 (fun W => rparse_none (w := W) (E := 0) sp2 (by decide) (by decide) (by decide) (by decide +kernel) (by decide) rfl rfl) (by decide +kernel) (by decide +kernel) (by decide +kernel)).mono ?_; rintro e w2 ⟨rfl, hb⟩
  have S2 := Lib.hid (And.intro (S1.out.1.keep (hb)) (below_trans (S1.out.2) (hb)))
  clear hb  S1
  go_wp2_with fail
  refine (reads_ok S2.out.1 (fun W => rparse_small (w := W) (E := 10) sp3 (by decide) (by decide) (by decide) (by decide +kernel) (by decide) rfl rfl (by decide +kernel) rfl) (by decide +kernel) (by decide +kernel) (by decide +kernel)).mono ?_; rintro e w3 ⟨rfl, hb⟩
  have S3 := Lib.hid (And.intro (S2.out.1.keep (hb)) (below_trans (S2.out.2) (hb)))
  clear hb  S2
  go_wp2_with fail
  refine (reads_ok S3.out.1 (fun W => rparse_big (w := W) (E := 20) sp4 (by decide) (by decide) (by decide) (by decide +kernel) (by decide) rfl rfl (by decide +kernel) rfl) (by decide +kernel) (by decide +kernel) (by decide +kernel)).mono ?_; rintro e w4 ⟨rfl, hb⟩
  have S4 := Lib.hid (And.intro (S3.out.1.keep (hb)) (below_trans (S3.out.2) (hb)))
  clear hb  S3
  go_wp2_with fail
  refine (refuses_ok (fun W => rparse_bad (w := W) sp5)).mono ?_; rintro e w5 ⟨rfl, hb⟩
  have S5 := Lib.hid (And.intro (S4.out.1.keep (hb)) (below_trans (S4.out.2) (hb)))
  clear hb  S4
  go_wp2_with fail
  refine (refuses_ok (fun W => rparse_bad (w := W) sp6)).mono ?_; rintro e w6 ⟨rfl, hb⟩
  have S6 := Lib.hid (And.intro (S5.out.1.keep (hb)) (below_trans (S5.out.2) (hb)))
  clear hb  S5
  go_wp2_with fail
  refine (refuses_ok (fun W => rparse_bad (w := W) sp7)).mono ?_; rintro e w7 ⟨rfl, hb⟩
  have S7 := Lib.hid (And.intro (S6.out.1.keep (hb)) (below_trans (S6.out.2) (hb)))
  clear hb  S6
  go_wp2_with fail
  refine (refuses_ok (fun W => rparse_zero (w := W) (E := 0) sp8 (by decide) (by decide) (by decide) (by decide +kernel) (by decide) rfl (by decide +kernel))).mono ?_; rintro e w8 ⟨rfl, hb⟩
  have S8 := Lib.hid (And.intro (S7.out.1.keep (hb)) (below_trans (S7.out.2) (hb)))
  clear hb  S7
  go_wp2_with fail
  go_ret
  exact ⟨rfl, S8.out.2⟩
end
end Go.Proofs.YtclaiidoomdklaaDoor
