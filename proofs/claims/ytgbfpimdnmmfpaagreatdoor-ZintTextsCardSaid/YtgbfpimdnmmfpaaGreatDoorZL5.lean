/-
  The law ZintTexts, walked.
-/
import Derived.Test.YtgbfpimdnmmfpaaGreatDoorZL4
namespace Go.Proofs.YtgbfpimdnmmfpaaGreatDoor
open Go Go.RowKit Go.Proofs Pl
set_option linter.unusedVariables false
set_option linter.unusedSimpArgs false

theorem err_cases (l : List UInt8) : parseErr l = 0 ∨ parseErr l = 1 ∨ parseErr l = 5 := by
  unfold parseErr; split
  · exact .inr (.inr rfl)
  · split
    · exact .inr (.inl rfl)
    · exact .inl rfl
theorem read_zero {s : ByteArray} (h : parseErr (cutS s).2.data.toList ≠ 0) : readZ s = 0 := by unfold readZ; rw [if_neg h]
theorem read_abs (s : ByteArray) : (readZ s).natAbs < WB ^ 200 := by
  rw [I.readZ_eq, sg_abs]; exact parse_lt
set_option maxRecDepth 100000 in
set_option maxHeartbeats 2000000 in
theorem zintTexts_0b (w : World) (ht : Tab w) {a : Value} {pa : Bool} {xa : List Nat} (ha : Zl w a pa xa) (s : ByteArray) (hs : s.size ≤ 9223372036854775807) (hn : parseErr (cutS s).2.data.toList = 0) (hg : ¬ (xa.length ≤ 12 ∧ xa.length ≤ 12)) :
    Calls Tryz.prog 4 #[.string s, a] w fun e w' => e = .returned (.bool true) ∧ Below w.heap.size w w' := by
  have HG := Lib.hid hg
  have hzl := ha
  clear hg
  obtain ⟨rz, hrz⟩ : ∃ rz, readZ s = rz := ⟨_, rfl⟩
  have HN := Lib.hid (And.intro hn (And.intro hs (And.intro hrz (show rz.natAbs < WB ^ 200 by rw [← hrz]; exact read_abs s))))
  obtain ⟨Aa, na, ca, rfl, ea, ha⟩ := ha.parts
  have S0 := Lib.hid (And.intro (ht) (And.intro (hzl) (Below.refl w.heap.size w)))
  clear ht hzl ha ea hn hs hrz 
  go_enter Tryz.func4, Tryz.ntmps4
  go_upto_region 1 with (fail)
  obtain ⟨h0, hb⟩ := box1 w 24 (.bool pa) (.slice Aa na ca)
  have S1 := Lib.hid (And.intro (S0.out.1.keep (hb)) (And.intro (S0.out.2.1.keep (hb)) (And.intro (h0) (below_trans (S0.out.2.2) (hb)))))
  clear hb h0 S0
  generalize w.alloc _ = W0 at S1 ⊢
  go_wp2_with fail
  refine (speaks_z _ S1.out.1).mono ?_; rintro e w2 ⟨rfl, hb⟩
  have S2 := Lib.hid (And.intro (S1.out.1.keep (hb)) (And.intro (S1.out.2.1.keep (hb)) (And.intro (S1.out.2.2.1.keep (hb)) (below_trans (S1.out.2.2.2) (hb)))))
  clear hb  S1
  go_wp2_with fail
  refine (parse_z s _ HN.out.2.1).mono ?_; rintro e w3 ⟨v1, rfl, h, hb⟩
  rw [HN.out.1]
  rw [HN.out.2.2.1] at h
  obtain ⟨px, Ax, lx, cx, rfl⟩ := h.parts
  have S3 := Lib.hid (And.intro (S2.out.1.keep (hb)) (And.intro (S2.out.2.1.keep (hb)) (And.intro (S2.out.2.2.1.keep (hb)) (And.intro (h) (below_trans (S2.out.2.2.2) (hb))))))
  clear h hb  S2
  go_upto_region 4 with (fail)
  obtain ⟨h0, hb⟩ := box1 w3 24 (.bool px) (.slice Ax lx cx)
  obtain ⟨gx, hgx⟩ : ∃ g, g = w3.heap.size := ⟨_, rfl⟩
  have S4 := Lib.hid (And.intro (S3.out.1.keep (hb)) (And.intro (S3.out.2.1.keep (hb)) (And.intro (S3.out.2.2.1.keep (hb)) (And.intro (S3.out.2.2.2.1.keep (hb)) (And.intro (h0) (below_trans (S3.out.2.2.2.2) (hb)))))))
  clear hb h0 S3
  generalize (w3.alloc _) = Wx at S4 ⊢
  rw [← hgx] at S4 ⊢
  clear hgx
  go_wp2_with fail
  refine (I.parse_d s _ HN.out.2.1).mono ?_; rintro e w5 ⟨v1, rfl, h, hb⟩
  rw [HN.out.1]
  rw [HN.out.2.2.1] at h
  obtain ⟨pd, Ad, ld, cd, rfl⟩ := Zd.pat h
  have S5 := Lib.hid (And.intro (S4.out.1.keep (hb)) (And.intro (S4.out.2.1.keep (hb)) (And.intro (S4.out.2.2.1.keep (hb)) (And.intro (S4.out.2.2.2.1.keep (hb)) (And.intro (S4.out.2.2.2.2.1.keep (hb)) (And.intro (h) (below_trans (S4.out.2.2.2.2.2) (hb))))))))
  clear h hb  S4
  go_upto_region 5 with (fail)
  obtain ⟨h0, hb⟩ := box1 w5 33 (.bool pd) (.slice Ad ld cd)
  obtain ⟨gd, hgd⟩ : ∃ g, g = w5.heap.size := ⟨_, rfl⟩
  have S6 := Lib.hid (And.intro (S5.out.1.keep (hb)) (And.intro (S5.out.2.1.keep (hb)) (And.intro (S5.out.2.2.1.keep (hb)) (And.intro (S5.out.2.2.2.1.keep (hb)) (And.intro (S5.out.2.2.2.2.1.keep (hb)) (And.intro (S5.out.2.2.2.2.2.1.keep (hb)) (And.intro (h0) (below_trans (S5.out.2.2.2.2.2.2) (hb)))))))))
  clear hb h0 S5
  generalize w5.alloc _ = Wd at S6 ⊢
  rw [← hgd] at S6 ⊢
  clear hgd
  go_upto_region 5 with (fail)
  have S7 := Lib.hid (And.intro (S6.out.1.keep (below_dr _ 1)) (And.intro (S6.out.2.1.keep (below_dr _ 1)) (And.intro (S6.out.2.2.1.keep (below_dr _ 1)) (And.intro (S6.out.2.2.2.1.keep (below_dr _ 1)) (And.intro (S6.out.2.2.2.2.1.keep (below_dr _ 1)) (And.intro (S6.out.2.2.2.2.2.1.keep (below_dr _ 1)) (And.intro (S6.out.2.2.2.2.2.2.1.keep (below_dr _ 1)) (below_trans (S6.out.2.2.2.2.2.2.2) (below_dr _ 1)))))))))
  refine wp_region_held_drew (S := fun W => W.cell? ⟨gx, 0, none⟩ = some (.bool px) ∧ W.cell? ⟨gx, 1, none⟩ = some (.slice Ax lx cx) ∧ W.cell? ⟨gd, 0, none⟩ = some (.bool pd) ∧ W.cell? ⟨gd, 1, none⟩ = some (.slice Ad ld cd)) (by kernel_rfl) ⟨S7.out.2.2.2.2.1.facts.1, S7.out.2.2.2.2.1.facts.2.1, S7.out.2.2.2.2.2.2.1.facts.1, S7.out.2.2.2.2.2.2.1.facts.2.1⟩ (fun hHeld => ?_)
  refine wpAnyH_take (i := 0) (v := ?v1) (by simp only [List.getElem?_toArray, List.getElem?_cons_succ, List.getElem?_cons_zero]; rfl) (by kernel_rfl) (by kernel_rfl) (by kernel_rfl) (by exact fun _ _ _ h => h) (Or.inl ⟨by rfl, ?h1⟩) hHeld ?r1
  case h1 => (intro w hSw; (try dsimp only at hSw); (first | (go_simp; done) | (go_simp; with_reducible rfl)))
  try simp only [Act.put, List.setIfInBounds_toArray, List.set_cons_zero, List.set_cons_succ]
  refine wpAnyH_take (i := 1) (v := ?v2) (by simp only [List.getElem?_toArray, List.getElem?_cons_succ, List.getElem?_cons_zero]; rfl) (by kernel_rfl) (by kernel_rfl) (by kernel_rfl) (by exact fun _ _ _ h => h) (Or.inl ⟨by rfl, ?h2⟩) hHeld ?r2
  case h2 => (intro w hSw; (try dsimp only at hSw); (first | (go_simp; done) | (go_simp; with_reducible rfl)))
  try simp only [Act.put, List.setIfInBounds_toArray, List.set_cons_zero, List.set_cons_succ]
  refine wpAnyH_take (i := 2) (v := ?v3) (by simp only [List.getElem?_toArray, List.getElem?_cons_succ, List.getElem?_cons_zero]; rfl) (by kernel_rfl) (by kernel_rfl) (by kernel_rfl) (by exact fun _ _ _ h => h) (Or.inl ⟨by rfl, ?h3⟩) hHeld ?r3
  case h3 => (intro w hSw; (try dsimp only at hSw); (first | (go_simp; done) | (go_simp; with_reducible rfl)))
  try simp only [Act.put, List.setIfInBounds_toArray, List.set_cons_zero, List.set_cons_succ]
  refine wpAnyH_take (i := 3) (v := ?v4) (by simp only [List.getElem?_toArray, List.getElem?_cons_succ, List.getElem?_cons_zero]; rfl) (by kernel_rfl) (by kernel_rfl) (by kernel_rfl) (by exact fun _ _ _ h => h) (Or.inl ⟨by rfl, ?h4⟩) hHeld ?r4
  case h4 => (intro w hSw; (try dsimp only at hSw); (first | (go_simp; done) | (go_simp; with_reducible rfl)))
  try simp only [Act.put, List.setIfInBounds_toArray, List.set_cons_zero, List.set_cons_succ]
  refine wpAnyH_take (i := 4) (v := ?v5) (by simp only [List.getElem?_toArray, List.getElem?_cons_succ, List.getElem?_cons_zero]; rfl) (by kernel_rfl) (by kernel_rfl) (by kernel_rfl) (by exact fun _ _ _ h => h) (Or.inl ⟨by rfl, ?h5⟩) hHeld ?r5
  case h5 => (intro w hSw; (try dsimp only at hSw); (first | (go_simp; done) | (go_simp; with_reducible rfl)))
  try simp only [Act.put, List.setIfInBounds_toArray, List.set_cons_zero, List.set_cons_succ]
  refine wpAnyH_take (i := 5) (v := ?v6) (by simp only [List.getElem?_toArray, List.getElem?_cons_succ, List.getElem?_cons_zero]; rfl) (by kernel_rfl) (by kernel_rfl) (by kernel_rfl) (by exact fun _ _ _ h => h) (Or.inl ⟨by rfl, ?h6⟩) hHeld ?r6
  case h6 => (intro w hSw; (try dsimp only at hSw); (first | (go_simp; done) | (go_simp; with_reducible rfl)))
  try simp only [Act.put, List.setIfInBounds_toArray, List.set_cons_zero, List.set_cons_succ]
  refine wpAnyH_take (i := 6) (v := ?v7) (by simp only [List.getElem?_toArray, List.getElem?_cons_succ, List.getElem?_cons_zero]; rfl) (by kernel_rfl) (by kernel_rfl) (by kernel_rfl) (by exact fun _ _ _ h => h) (Or.inl ⟨by rfl, ?h7⟩) hHeld ?r7
  case h7 => (intro w hSw; (try dsimp only at hSw); (first | (go_simp; done) | (go_simp; with_reducible rfl)))
  try simp only [Act.put, List.setIfInBounds_toArray, List.set_cons_zero, List.set_cons_succ]
  refine wpAnyH_take (i := 7) (v := ?v8) (by simp only [List.getElem?_toArray, List.getElem?_cons_succ, List.getElem?_cons_zero]; rfl) (by kernel_rfl) (by kernel_rfl) (by kernel_rfl) (by exact fun _ _ _ h => h) (Or.inl ⟨by rfl, ?h8⟩) hHeld ?r8
  case h8 => (intro w hSw; (try dsimp only at hSw); (first | (go_simp; done) | (go_simp; with_reducible rfl)))
  try simp only [Act.put, List.setIfInBounds_toArray, List.set_cons_zero, List.set_cons_succ]
  refine wpAnyH_take (i := 8) (v := ?v9) (by simp only [List.getElem?_toArray, List.getElem?_cons_succ, List.getElem?_cons_zero]; rfl) (by kernel_rfl) (by kernel_rfl) (by kernel_rfl) (by exact fun _ _ _ h => h) (Or.inl ⟨by rfl, ?h9⟩) hHeld ?r9
  case h9 => (intro w hSw; (try dsimp only at hSw); (first | (go_simp; done) | (go_simp; with_reducible rfl)))
  try simp only [Act.put, List.setIfInBounds_toArray, List.set_cons_zero, List.set_cons_succ]
  refine wpAnyH_ready (rs := [9]) (by kernel_rfl) (by simp) (AllReadyH.cons (by simp only [List.getElem?_toArray, List.getElem?_cons_succ, List.getElem?_cons_zero]; rfl) (fun K hK => ?_) AllReadyH.nil)
  go_simp
  go_at_call 20; refine (to_k 200 S7.out.2.2.2.2.2.1 (by decide) HN.out.2.2.2 (by decide)).mono ?_; rintro e w8 ⟨v, rfl, h, hb⟩
  have S8 := Lib.hid (And.intro (S7.out.1.keep (hb)) (And.intro (S7.out.2.1.keep (hb)) (And.intro (S7.out.2.2.1.keep (hb)) (And.intro (S7.out.2.2.2.1.keep (hb)) (And.intro (S7.out.2.2.2.2.1.keep (hb)) (And.intro (S7.out.2.2.2.2.2.1.keep (hb)) (And.intro (S7.out.2.2.2.2.2.2.1.keep (hb)) (And.intro (h) (below_trans (S7.out.2.2.2.2.2.2.2) (hb))))))))))
  have hN : w8.cell? ⟨gx, 0, none⟩ = some (.bool px) ∧ w8.cell? ⟨gx, 1, none⟩ = some (.slice Ax lx cx) ∧ w8.cell? ⟨gd, 0, none⟩ = some (.bool pd) ∧ w8.cell? ⟨gd, 1, none⟩ = some (.slice Ad ld cd) := ⟨S8.out.2.2.2.2.1.facts.1, S8.out.2.2.2.2.1.facts.2.1, S8.out.2.2.2.2.2.2.1.facts.1, S8.out.2.2.2.2.2.2.1.facts.2.1⟩
  clear h hb hHeld
  go_wp2_with fail
  refine hK.out _ _ hN (fun hHeld => ?_); clear hK K hN; try simp only [Act.put, List.setIfInBounds_toArray, List.set_cons_zero, List.set_cons_succ]
  refine wpAnyH_ready (rs := [10]) (by kernel_rfl) (by simp) (AllReadyH.cons (by simp only [List.getElem?_toArray, List.getElem?_cons_succ, List.getElem?_cons_zero]; rfl) (fun K hK => ?_) AllReadyH.nil)
  go_simp
  go_at_call 18; refine (same_zo S8.out.2.2.2.1 S8.out.2.2.2.2.2.2.2.1 rfl).mono ?_; rintro e w9 ⟨rfl, hb⟩
  have S9 := Lib.hid (And.intro (S8.out.1.keep (hb)) (And.intro (S8.out.2.1.keep (hb)) (And.intro (S8.out.2.2.1.keep (hb)) (And.intro (S8.out.2.2.2.2.1.keep (hb)) (And.intro (S8.out.2.2.2.2.2.2.1.keep (hb)) (below_trans (S8.out.2.2.2.2.2.2.2.2) (hb)))))))
  have hN : w9.cell? ⟨gx, 0, none⟩ = some (.bool px) ∧ w9.cell? ⟨gx, 1, none⟩ = some (.slice Ax lx cx) ∧ w9.cell? ⟨gd, 0, none⟩ = some (.bool pd) ∧ w9.cell? ⟨gd, 1, none⟩ = some (.slice Ad ld cd) := ⟨S9.out.2.2.2.1.facts.1, S9.out.2.2.2.1.facts.2.1, S9.out.2.2.2.2.1.facts.1, S9.out.2.2.2.2.1.facts.2.1⟩
  clear hb hHeld
  go_wp2_with fail
  refine hK.out _ _ hN (fun hHeld => ?_); clear hK K hN; try simp only [Act.put, List.setIfInBounds_toArray, List.set_cons_zero, List.set_cons_succ]
  refine wpAnyH_take (i := 11) (v := ?v10) (by simp only [List.getElem?_toArray, List.getElem?_cons_succ, List.getElem?_cons_zero]; rfl) (by kernel_rfl) (by kernel_rfl) (by kernel_rfl) (by exact fun _ _ _ h => h) (Or.inl ⟨by rfl, ?h10⟩) hHeld ?r10
  case h10 => (intro w hSw; (try dsimp only at hSw); (first | (go_simp; done) | (go_simp; with_reducible rfl)))
  try simp only [Act.put, List.setIfInBounds_toArray, List.set_cons_zero, List.set_cons_succ]
  refine wpAnyH_take (i := 12) (v := ?v11) (by simp only [List.getElem?_toArray, List.getElem?_cons_succ, List.getElem?_cons_zero]; rfl) (by kernel_rfl) (by kernel_rfl) (by kernel_rfl) (by exact fun _ _ _ h => h) (Or.inl ⟨by rfl, ?h11⟩) hHeld ?r11
  case h11 => (intro w hSw; (try dsimp only at hSw); (first | (go_simp; done) | (go_simp; with_reducible rfl)))
  try simp only [Act.put, List.setIfInBounds_toArray, List.set_cons_zero, List.set_cons_succ]
  refine wpAnyH_take (i := 13) (v := ?v12) (by simp only [List.getElem?_toArray, List.getElem?_cons_succ, List.getElem?_cons_zero]; rfl) (by kernel_rfl) (by kernel_rfl) (by kernel_rfl) (by exact fun _ _ _ h => h) (Or.inl ⟨by rfl, ?h12⟩) hHeld ?r12
  case h12 => (intro w hSw; (try dsimp only at hSw); (first | (go_simp; done) | (go_simp; with_reducible rfl)))
  try simp only [Act.put, List.setIfInBounds_toArray, List.set_cons_zero, List.set_cons_succ]
  refine wpAnyH_take (i := 14) (v := ?v13) (by simp only [List.getElem?_toArray, List.getElem?_cons_succ, List.getElem?_cons_zero]; rfl) (by kernel_rfl) (by kernel_rfl) (by kernel_rfl) (by exact fun _ _ _ h => h) (Or.inl ⟨by rfl, ?h13⟩) hHeld ?r13
  case h13 => (intro w hSw; (try dsimp only at hSw); (first | (go_simp; done) | (go_simp; with_reducible rfl)))
  try simp only [Act.put, List.setIfInBounds_toArray, List.set_cons_zero, List.set_cons_succ]
  refine wpAnyH_take (i := 15) (v := ?v14) (by simp only [List.getElem?_toArray, List.getElem?_cons_succ, List.getElem?_cons_zero]; rfl) (by kernel_rfl) (by kernel_rfl) (by kernel_rfl) (by exact fun _ _ _ h => h) (Or.inl ⟨by rfl, ?h14⟩) hHeld ?r14
  case h14 => (intro w hSw; (try dsimp only at hSw); (first | (go_simp; done) | (go_simp; with_reducible rfl)))
  try simp only [Act.put, List.setIfInBounds_toArray, List.set_cons_zero, List.set_cons_succ]
  refine wpAnyH_take (i := 16) (v := ?v15) (by simp only [List.getElem?_toArray, List.getElem?_cons_succ, List.getElem?_cons_zero]; rfl) (by kernel_rfl) (by kernel_rfl) (by kernel_rfl) (by exact fun _ _ _ h => h) (Or.inl ⟨by rfl, ?h15⟩) hHeld ?r15
  case h15 => (intro w hSw; (try dsimp only at hSw); (first | (go_simp; done) | (go_simp; with_reducible rfl)))
  try simp only [Act.put, List.setIfInBounds_toArray, List.set_cons_zero, List.set_cons_succ]
  refine wpAnyH_take (i := 17) (v := ?v16) (by simp only [List.getElem?_toArray, List.getElem?_cons_succ, List.getElem?_cons_zero]; rfl) (by kernel_rfl) (by kernel_rfl) (by kernel_rfl) (by exact fun _ _ _ h => h) (Or.inl ⟨by rfl, ?h16⟩) hHeld ?r16
  case h16 => (intro w hSw; (try dsimp only at hSw); (first | (go_simp; done) | (go_simp; with_reducible rfl)))
  try simp only [Act.put, List.setIfInBounds_toArray, List.set_cons_zero, List.set_cons_succ]
  refine wpAnyH_take (i := 18) (v := undef) (by simp only [List.getElem?_toArray, List.getElem?_cons_succ, List.getElem?_cons_zero]; rfl) (by kernel_rfl) (by kernel_rfl) (by kernel_rfl) (by exact fun _ _ _ h => h) (Or.inr ⟨by rfl, rfl⟩) hHeld ?_; try simp only [Act.put, List.setIfInBounds_toArray, List.set_cons_zero, List.set_cons_succ]
  refine wpAnyH_take (i := 19) (v := undef) (by simp only [List.getElem?_toArray, List.getElem?_cons_succ, List.getElem?_cons_zero]; rfl) (by kernel_rfl) (by kernel_rfl) (by kernel_rfl) (by exact fun _ _ _ h => h) (Or.inr ⟨by rfl, rfl⟩) hHeld ?_; try simp only [Act.put, List.setIfInBounds_toArray, List.set_cons_zero, List.set_cons_succ]
  refine wpAnyH_take (i := 20) (v := undef) (by simp only [List.getElem?_toArray, List.getElem?_cons_succ, List.getElem?_cons_zero]; rfl) (by kernel_rfl) (by kernel_rfl) (by kernel_rfl) (by exact fun _ _ _ h => h) (Or.inr ⟨by rfl, rfl⟩) hHeld ?_; try simp only [Act.put, List.setIfInBounds_toArray, List.set_cons_zero, List.set_cons_succ]
  refine wpAnyH_take (i := 21) (v := undef) (by simp only [List.getElem?_toArray, List.getElem?_cons_succ, List.getElem?_cons_zero]; rfl) (by kernel_rfl) (by kernel_rfl) (by kernel_rfl) (by exact fun _ _ _ h => h) (Or.inr ⟨by rfl, rfl⟩) hHeld ?_; try simp only [Act.put, List.setIfInBounds_toArray, List.set_cons_zero, List.set_cons_succ]
  refine wpAnyH_take (i := 22) (v := ?v17) (by simp only [List.getElem?_toArray, List.getElem?_cons_succ, List.getElem?_cons_zero]; rfl) (by kernel_rfl) (by kernel_rfl) (by kernel_rfl) (by exact fun _ _ _ h => h) (Or.inl ⟨by rfl, ?h17⟩) hHeld ?r17
  case h17 => (intro w hSw; (try dsimp only at hSw); (first | (go_simp; done) | (go_simp; with_reducible rfl)))
  try simp only [Act.put, List.setIfInBounds_toArray, List.set_cons_zero, List.set_cons_succ]
  refine wpAnyH_take (i := 23) (v := ?v18) (by simp only [List.getElem?_toArray, List.getElem?_cons_succ, List.getElem?_cons_zero]; rfl) (by kernel_rfl) (by kernel_rfl) (by kernel_rfl) (by exact fun _ _ _ h => h) (Or.inl ⟨by rfl, ?h18⟩) hHeld ?r18
  case h18 => (intro w hSw; (try dsimp only at hSw); (first | (go_simp; done) | (go_simp; with_reducible rfl)))
  try simp only [Act.put, List.setIfInBounds_toArray, List.set_cons_zero, List.set_cons_succ]
  refine wpAnyH_done (by kernel_rfl) ?_ _
  clear hHeld
  go_upto_region 7 with (fail)
  have S10 := Lib.hid (And.intro (S9.out.1.keep (below_dr _ 1)) (And.intro (S9.out.2.1.keep (below_dr _ 1)) (And.intro (S9.out.2.2.1.keep (below_dr _ 1)) (And.intro (S9.out.2.2.2.1.keep (below_dr _ 1)) (And.intro (S9.out.2.2.2.2.1.keep (below_dr _ 1)) (below_trans (S9.out.2.2.2.2.2) (below_dr _ 1)))))))
  refine wp_region_held_drew (S := fun W => W.cell? ⟨w.heap.size, 0, none⟩ = some (.bool pa) ∧ W.cell? ⟨w.heap.size, 1, none⟩ = some (.slice Aa na ca)) (by kernel_rfl) ⟨S10.out.2.2.1.facts.1, S10.out.2.2.1.facts.2.1⟩ (fun hHeld => ?_)
  refine wpAnyH_take (i := 0) (v := ?v19) (by simp only [List.getElem?_toArray, List.getElem?_cons_succ, List.getElem?_cons_zero]; rfl) (by kernel_rfl) (by kernel_rfl) (by kernel_rfl) (by exact fun _ _ _ h => h) (Or.inl ⟨by rfl, ?h19⟩) hHeld ?r19
  case h19 => (intro w hSw; (try dsimp only at hSw); (first | (go_simp; done) | (go_simp; with_reducible rfl)))
  try simp only [Act.put, List.setIfInBounds_toArray, List.set_cons_zero, List.set_cons_succ]
  refine wpAnyH_take (i := 1) (v := ?v20) (by simp only [List.getElem?_toArray, List.getElem?_cons_succ, List.getElem?_cons_zero]; rfl) (by kernel_rfl) (by kernel_rfl) (by kernel_rfl) (by exact fun _ _ _ h => h) (Or.inl ⟨by rfl, ?h20⟩) hHeld ?r20
  case h20 => (intro w hSw; (try dsimp only at hSw); (first | (go_simp; done) | (go_simp; with_reducible rfl)))
  try simp only [Act.put, List.setIfInBounds_toArray, List.set_cons_zero, List.set_cons_succ]
  refine wpAnyH_ready (rs := [2]) (by kernel_rfl) (by simp) (AllReadyH.cons (by simp only [List.getElem?_toArray, List.getElem?_cons_succ, List.getElem?_cons_zero]; rfl) (fun K hK => ?_) AllReadyH.nil)
  go_simp
  go_at_call 13; refine (big_yes S10.out.2.1 S10.out.2.1 HG.out).mono ?_; rintro e w11 ⟨rfl, hb⟩
  have S11 := Lib.hid (And.intro (S10.out.1.keep (hb)) (And.intro (S10.out.2.1.keep (hb)) (And.intro (S10.out.2.2.1.keep (hb)) (And.intro (S10.out.2.2.2.1.keep (hb)) (And.intro (S10.out.2.2.2.2.1.keep (hb)) (below_trans (S10.out.2.2.2.2.2) (hb)))))))
  have hN : w11.cell? ⟨w.heap.size, 0, none⟩ = some (.bool pa) ∧ w11.cell? ⟨w.heap.size, 1, none⟩ = some (.slice Aa na ca) := ⟨S11.out.2.2.1.facts.1, S11.out.2.2.1.facts.2.1⟩
  clear hb hHeld
  go_wp2_with fail
  refine hK.out _ _ hN (fun hHeld => ?_); clear hK K hN; try simp only [Act.put, List.setIfInBounds_toArray, List.set_cons_zero, List.set_cons_succ]
  refine wpAnyH_take (i := 3) (v := ?v21) (by simp only [List.getElem?_toArray, List.getElem?_cons_succ, List.getElem?_cons_zero]; rfl) (by kernel_rfl) (by kernel_rfl) (by kernel_rfl) (by exact fun _ _ _ h => h) (Or.inl ⟨by rfl, ?h21⟩) hHeld ?r21
  case h21 => (intro w hSw; (try dsimp only at hSw); (first | (go_simp; done) | (go_simp; with_reducible rfl)))
  try simp only [Act.put, List.setIfInBounds_toArray, List.set_cons_zero, List.set_cons_succ]
  refine wpAnyH_take (i := 4) (v := undef) (by simp only [List.getElem?_toArray, List.getElem?_cons_succ, List.getElem?_cons_zero]; rfl) (by kernel_rfl) (by kernel_rfl) (by kernel_rfl) (by exact fun _ _ _ h => h) (Or.inr ⟨by rfl, rfl⟩) hHeld ?_; try simp only [Act.put, List.setIfInBounds_toArray, List.set_cons_zero, List.set_cons_succ]
  refine wpAnyH_take (i := 5) (v := undef) (by simp only [List.getElem?_toArray, List.getElem?_cons_succ, List.getElem?_cons_zero]; rfl) (by kernel_rfl) (by kernel_rfl) (by kernel_rfl) (by exact fun _ _ _ h => h) (Or.inr ⟨by rfl, rfl⟩) hHeld ?_; try simp only [Act.put, List.setIfInBounds_toArray, List.set_cons_zero, List.set_cons_succ]
  refine wpAnyH_take (i := 6) (v := undef) (by simp only [List.getElem?_toArray, List.getElem?_cons_succ, List.getElem?_cons_zero]; rfl) (by kernel_rfl) (by kernel_rfl) (by kernel_rfl) (by exact fun _ _ _ h => h) (Or.inr ⟨by rfl, rfl⟩) hHeld ?_; try simp only [Act.put, List.setIfInBounds_toArray, List.set_cons_zero, List.set_cons_succ]
  refine wpAnyH_take (i := 7) (v := undef) (by simp only [List.getElem?_toArray, List.getElem?_cons_succ, List.getElem?_cons_zero]; rfl) (by kernel_rfl) (by kernel_rfl) (by kernel_rfl) (by exact fun _ _ _ h => h) (Or.inr ⟨by rfl, rfl⟩) hHeld ?_; try simp only [Act.put, List.setIfInBounds_toArray, List.set_cons_zero, List.set_cons_succ]
  refine wpAnyH_take (i := 8) (v := undef) (by simp only [List.getElem?_toArray, List.getElem?_cons_succ, List.getElem?_cons_zero]; rfl) (by kernel_rfl) (by kernel_rfl) (by kernel_rfl) (by exact fun _ _ _ h => h) (Or.inr ⟨by rfl, rfl⟩) hHeld ?_; try simp only [Act.put, List.setIfInBounds_toArray, List.set_cons_zero, List.set_cons_succ]
  refine wpAnyH_take (i := 9) (v := undef) (by simp only [List.getElem?_toArray, List.getElem?_cons_succ, List.getElem?_cons_zero]; rfl) (by kernel_rfl) (by kernel_rfl) (by kernel_rfl) (by exact fun _ _ _ h => h) (Or.inr ⟨by rfl, rfl⟩) hHeld ?_; try simp only [Act.put, List.setIfInBounds_toArray, List.set_cons_zero, List.set_cons_succ]
  refine wpAnyH_take (i := 10) (v := undef) (by simp only [List.getElem?_toArray, List.getElem?_cons_succ, List.getElem?_cons_zero]; rfl) (by kernel_rfl) (by kernel_rfl) (by kernel_rfl) (by exact fun _ _ _ h => h) (Or.inr ⟨by rfl, rfl⟩) hHeld ?_; try simp only [Act.put, List.setIfInBounds_toArray, List.set_cons_zero, List.set_cons_succ]
  refine wpAnyH_take (i := 11) (v := ?v22) (by simp only [List.getElem?_toArray, List.getElem?_cons_succ, List.getElem?_cons_zero]; rfl) (by kernel_rfl) (by kernel_rfl) (by kernel_rfl) (by exact fun _ _ _ h => h) (Or.inl ⟨by rfl, ?h22⟩) hHeld ?r22
  case h22 => (intro w hSw; (try dsimp only at hSw); (first | (go_simp; done) | (go_simp; with_reducible rfl)))
  try simp only [Act.put, List.setIfInBounds_toArray, List.set_cons_zero, List.set_cons_succ]
  refine wpAnyH_take (i := 12) (v := ?v23) (by simp only [List.getElem?_toArray, List.getElem?_cons_succ, List.getElem?_cons_zero]; rfl) (by kernel_rfl) (by kernel_rfl) (by kernel_rfl) (by exact fun _ _ _ h => h) (Or.inl ⟨by rfl, ?h23⟩) hHeld ?r23
  case h23 => (intro w hSw; (try dsimp only at hSw); (first | (go_simp; done) | (go_simp; with_reducible rfl)))
  try simp only [Act.put, List.setIfInBounds_toArray, List.set_cons_zero, List.set_cons_succ]
  refine wpAnyH_done (by kernel_rfl) ?_ _
  clear hHeld
  go_wp2_with fail
  go_ret
  exact ⟨rfl, S11.out.2.2.2.2.2⟩
set_option maxRecDepth 100000 in
set_option maxHeartbeats 2000000 in
theorem zintTexts_0s (w : World) (ht : Tab w) {a : Value} {pa : Bool} {xa : List Nat} (ha : Zl w a pa xa) (s : ByteArray) (hs : s.size ≤ 9223372036854775807) (hn : parseErr (cutS s).2.data.toList = 0) (la : xa.length ≤ 12) :
    Calls Tryz.prog 4 #[.string s, a] w fun e w' => e = .returned (.bool true) ∧ Below w.heap.size w w' := by
  obtain ⟨z, hz⟩ : ∃ z, z = sg pa (val WB xa) := ⟨_, rfl⟩
  have hza := ha.zn la
  rw [← hz] at hza
  obtain ⟨tx, htx⟩ : ∃ tx, textZ z = tx := ⟨_, rfl⟩
  have HG := Lib.hid (And.intro la (And.intro hz htx))
  clear htx
  have hzl := ha
  obtain ⟨rz, hrz⟩ : ∃ rz, readZ s = rz := ⟨_, rfl⟩
  have HN := Lib.hid (And.intro hn (And.intro hs (And.intro hrz (show rz.natAbs < WB ^ 200 by rw [← hrz]; exact read_abs s))))
  obtain ⟨Aa, na, ca, rfl, ea, ha⟩ := ha.parts
  have S0 := Lib.hid (And.intro (ht) (And.intro (hzl) (And.intro (hza) (Below.refl w.heap.size w))))
  clear ht hzl ha ea hn hs hrz hza la hz
  go_enter Tryz.func4, Tryz.ntmps4
  go_upto_region 1 with (fail)
  obtain ⟨h0, hb⟩ := box1 w 24 (.bool pa) (.slice Aa na ca)
  have S1 := Lib.hid (And.intro (S0.out.1.keep (hb)) (And.intro (S0.out.2.1.keep (hb)) (And.intro (S0.out.2.2.1.keep (hb)) (And.intro (h0) (below_trans (S0.out.2.2.2) (hb))))))
  clear hb h0 S0
  generalize w.alloc _ = W0 at S1 ⊢
  go_wp2_with fail
  refine (speaks_z _ S1.out.1).mono ?_; rintro e w2 ⟨rfl, hb⟩
  have S2 := Lib.hid (And.intro (S1.out.1.keep (hb)) (And.intro (S1.out.2.1.keep (hb)) (And.intro (S1.out.2.2.1.keep (hb)) (And.intro (S1.out.2.2.2.1.keep (hb)) (below_trans (S1.out.2.2.2.2) (hb))))))
  clear hb  S1
  go_wp2_with fail
  refine (parse_z s _ HN.out.2.1).mono ?_; rintro e w3 ⟨v1, rfl, h, hb⟩
  rw [HN.out.1]
  rw [HN.out.2.2.1] at h
  obtain ⟨px, Ax, lx, cx, rfl⟩ := h.parts
  have S3 := Lib.hid (And.intro (S2.out.1.keep (hb)) (And.intro (S2.out.2.1.keep (hb)) (And.intro (S2.out.2.2.1.keep (hb)) (And.intro (S2.out.2.2.2.1.keep (hb)) (And.intro (h) (below_trans (S2.out.2.2.2.2) (hb)))))))
  clear h hb  S2
  go_upto_region 4 with (fail)
  obtain ⟨h0, hb⟩ := box1 w3 24 (.bool px) (.slice Ax lx cx)
  obtain ⟨gx, hgx⟩ : ∃ g, g = w3.heap.size := ⟨_, rfl⟩
  have S4 := Lib.hid (And.intro (S3.out.1.keep (hb)) (And.intro (S3.out.2.1.keep (hb)) (And.intro (S3.out.2.2.1.keep (hb)) (And.intro (S3.out.2.2.2.1.keep (hb)) (And.intro (S3.out.2.2.2.2.1.keep (hb)) (And.intro (h0) (below_trans (S3.out.2.2.2.2.2) (hb))))))))
  clear hb h0 S3
  generalize (w3.alloc _) = Wx at S4 ⊢
  rw [← hgx] at S4 ⊢
  clear hgx
  go_wp2_with fail
  refine (I.parse_d s _ HN.out.2.1).mono ?_; rintro e w5 ⟨v1, rfl, h, hb⟩
  rw [HN.out.1]
  rw [HN.out.2.2.1] at h
  obtain ⟨pd, Ad, ld, cd, rfl⟩ := Zd.pat h
  have S5 := Lib.hid (And.intro (S4.out.1.keep (hb)) (And.intro (S4.out.2.1.keep (hb)) (And.intro (S4.out.2.2.1.keep (hb)) (And.intro (S4.out.2.2.2.1.keep (hb)) (And.intro (S4.out.2.2.2.2.1.keep (hb)) (And.intro (S4.out.2.2.2.2.2.1.keep (hb)) (And.intro (h) (below_trans (S4.out.2.2.2.2.2.2) (hb)))))))))
  clear h hb  S4
  go_upto_region 5 with (fail)
  obtain ⟨h0, hb⟩ := box1 w5 33 (.bool pd) (.slice Ad ld cd)
  obtain ⟨gd, hgd⟩ : ∃ g, g = w5.heap.size := ⟨_, rfl⟩
  have S6 := Lib.hid (And.intro (S5.out.1.keep (hb)) (And.intro (S5.out.2.1.keep (hb)) (And.intro (S5.out.2.2.1.keep (hb)) (And.intro (S5.out.2.2.2.1.keep (hb)) (And.intro (S5.out.2.2.2.2.1.keep (hb)) (And.intro (S5.out.2.2.2.2.2.1.keep (hb)) (And.intro (S5.out.2.2.2.2.2.2.1.keep (hb)) (And.intro (h0) (below_trans (S5.out.2.2.2.2.2.2.2) (hb))))))))))
  clear hb h0 S5
  generalize w5.alloc _ = Wd at S6 ⊢
  rw [← hgd] at S6 ⊢
  clear hgd
  go_upto_region 5 with (fail)
  have S7 := Lib.hid (And.intro (S6.out.1.keep (below_dr _ 1)) (And.intro (S6.out.2.1.keep (below_dr _ 1)) (And.intro (S6.out.2.2.1.keep (below_dr _ 1)) (And.intro (S6.out.2.2.2.1.keep (below_dr _ 1)) (And.intro (S6.out.2.2.2.2.1.keep (below_dr _ 1)) (And.intro (S6.out.2.2.2.2.2.1.keep (below_dr _ 1)) (And.intro (S6.out.2.2.2.2.2.2.1.keep (below_dr _ 1)) (And.intro (S6.out.2.2.2.2.2.2.2.1.keep (below_dr _ 1)) (below_trans (S6.out.2.2.2.2.2.2.2.2) (below_dr _ 1))))))))))
  refine wp_region_held_drew (S := fun W => W.cell? ⟨gx, 0, none⟩ = some (.bool px) ∧ W.cell? ⟨gx, 1, none⟩ = some (.slice Ax lx cx) ∧ W.cell? ⟨gd, 0, none⟩ = some (.bool pd) ∧ W.cell? ⟨gd, 1, none⟩ = some (.slice Ad ld cd)) (by kernel_rfl) ⟨S7.out.2.2.2.2.2.1.facts.1, S7.out.2.2.2.2.2.1.facts.2.1, S7.out.2.2.2.2.2.2.2.1.facts.1, S7.out.2.2.2.2.2.2.2.1.facts.2.1⟩ (fun hHeld => ?_)
  refine wpAnyH_take (i := 0) (v := ?v1) (by simp only [List.getElem?_toArray, List.getElem?_cons_succ, List.getElem?_cons_zero]; rfl) (by kernel_rfl) (by kernel_rfl) (by kernel_rfl) (by exact fun _ _ _ h => h) (Or.inl ⟨by rfl, ?h1⟩) hHeld ?r1
  case h1 => (intro w hSw; (try dsimp only at hSw); (first | (go_simp; done) | (go_simp; with_reducible rfl)))
  try simp only [Act.put, List.setIfInBounds_toArray, List.set_cons_zero, List.set_cons_succ]
  refine wpAnyH_take (i := 1) (v := ?v2) (by simp only [List.getElem?_toArray, List.getElem?_cons_succ, List.getElem?_cons_zero]; rfl) (by kernel_rfl) (by kernel_rfl) (by kernel_rfl) (by exact fun _ _ _ h => h) (Or.inl ⟨by rfl, ?h2⟩) hHeld ?r2
  case h2 => (intro w hSw; (try dsimp only at hSw); (first | (go_simp; done) | (go_simp; with_reducible rfl)))
  try simp only [Act.put, List.setIfInBounds_toArray, List.set_cons_zero, List.set_cons_succ]
  refine wpAnyH_take (i := 2) (v := ?v3) (by simp only [List.getElem?_toArray, List.getElem?_cons_succ, List.getElem?_cons_zero]; rfl) (by kernel_rfl) (by kernel_rfl) (by kernel_rfl) (by exact fun _ _ _ h => h) (Or.inl ⟨by rfl, ?h3⟩) hHeld ?r3
  case h3 => (intro w hSw; (try dsimp only at hSw); (first | (go_simp; done) | (go_simp; with_reducible rfl)))
  try simp only [Act.put, List.setIfInBounds_toArray, List.set_cons_zero, List.set_cons_succ]
  refine wpAnyH_take (i := 3) (v := ?v4) (by simp only [List.getElem?_toArray, List.getElem?_cons_succ, List.getElem?_cons_zero]; rfl) (by kernel_rfl) (by kernel_rfl) (by kernel_rfl) (by exact fun _ _ _ h => h) (Or.inl ⟨by rfl, ?h4⟩) hHeld ?r4
  case h4 => (intro w hSw; (try dsimp only at hSw); (first | (go_simp; done) | (go_simp; with_reducible rfl)))
  try simp only [Act.put, List.setIfInBounds_toArray, List.set_cons_zero, List.set_cons_succ]
  refine wpAnyH_take (i := 4) (v := ?v5) (by simp only [List.getElem?_toArray, List.getElem?_cons_succ, List.getElem?_cons_zero]; rfl) (by kernel_rfl) (by kernel_rfl) (by kernel_rfl) (by exact fun _ _ _ h => h) (Or.inl ⟨by rfl, ?h5⟩) hHeld ?r5
  case h5 => (intro w hSw; (try dsimp only at hSw); (first | (go_simp; done) | (go_simp; with_reducible rfl)))
  try simp only [Act.put, List.setIfInBounds_toArray, List.set_cons_zero, List.set_cons_succ]
  refine wpAnyH_take (i := 5) (v := ?v6) (by simp only [List.getElem?_toArray, List.getElem?_cons_succ, List.getElem?_cons_zero]; rfl) (by kernel_rfl) (by kernel_rfl) (by kernel_rfl) (by exact fun _ _ _ h => h) (Or.inl ⟨by rfl, ?h6⟩) hHeld ?r6
  case h6 => (intro w hSw; (try dsimp only at hSw); (first | (go_simp; done) | (go_simp; with_reducible rfl)))
  try simp only [Act.put, List.setIfInBounds_toArray, List.set_cons_zero, List.set_cons_succ]
  refine wpAnyH_take (i := 6) (v := ?v7) (by simp only [List.getElem?_toArray, List.getElem?_cons_succ, List.getElem?_cons_zero]; rfl) (by kernel_rfl) (by kernel_rfl) (by kernel_rfl) (by exact fun _ _ _ h => h) (Or.inl ⟨by rfl, ?h7⟩) hHeld ?r7
  case h7 => (intro w hSw; (try dsimp only at hSw); (first | (go_simp; done) | (go_simp; with_reducible rfl)))
  try simp only [Act.put, List.setIfInBounds_toArray, List.set_cons_zero, List.set_cons_succ]
  refine wpAnyH_take (i := 7) (v := ?v8) (by simp only [List.getElem?_toArray, List.getElem?_cons_succ, List.getElem?_cons_zero]; rfl) (by kernel_rfl) (by kernel_rfl) (by kernel_rfl) (by exact fun _ _ _ h => h) (Or.inl ⟨by rfl, ?h8⟩) hHeld ?r8
  case h8 => (intro w hSw; (try dsimp only at hSw); (first | (go_simp; done) | (go_simp; with_reducible rfl)))
  try simp only [Act.put, List.setIfInBounds_toArray, List.set_cons_zero, List.set_cons_succ]
  refine wpAnyH_take (i := 8) (v := ?v9) (by simp only [List.getElem?_toArray, List.getElem?_cons_succ, List.getElem?_cons_zero]; rfl) (by kernel_rfl) (by kernel_rfl) (by kernel_rfl) (by exact fun _ _ _ h => h) (Or.inl ⟨by rfl, ?h9⟩) hHeld ?r9
  case h9 => (intro w hSw; (try dsimp only at hSw); (first | (go_simp; done) | (go_simp; with_reducible rfl)))
  try simp only [Act.put, List.setIfInBounds_toArray, List.set_cons_zero, List.set_cons_succ]
  refine wpAnyH_ready (rs := [9]) (by kernel_rfl) (by simp) (AllReadyH.cons (by simp only [List.getElem?_toArray, List.getElem?_cons_succ, List.getElem?_cons_zero]; rfl) (fun K hK => ?_) AllReadyH.nil)
  go_simp
  go_at_call 20; refine (to_k 200 S7.out.2.2.2.2.2.2.1 (by decide) HN.out.2.2.2 (by decide)).mono ?_; rintro e w8 ⟨v, rfl, h, hb⟩
  have S8 := Lib.hid (And.intro (S7.out.1.keep (hb)) (And.intro (S7.out.2.1.keep (hb)) (And.intro (S7.out.2.2.1.keep (hb)) (And.intro (S7.out.2.2.2.1.keep (hb)) (And.intro (S7.out.2.2.2.2.1.keep (hb)) (And.intro (S7.out.2.2.2.2.2.1.keep (hb)) (And.intro (S7.out.2.2.2.2.2.2.1.keep (hb)) (And.intro (S7.out.2.2.2.2.2.2.2.1.keep (hb)) (And.intro (h) (below_trans (S7.out.2.2.2.2.2.2.2.2) (hb)))))))))))
  have hN : w8.cell? ⟨gx, 0, none⟩ = some (.bool px) ∧ w8.cell? ⟨gx, 1, none⟩ = some (.slice Ax lx cx) ∧ w8.cell? ⟨gd, 0, none⟩ = some (.bool pd) ∧ w8.cell? ⟨gd, 1, none⟩ = some (.slice Ad ld cd) := ⟨S8.out.2.2.2.2.2.1.facts.1, S8.out.2.2.2.2.2.1.facts.2.1, S8.out.2.2.2.2.2.2.2.1.facts.1, S8.out.2.2.2.2.2.2.2.1.facts.2.1⟩
  clear h hb hHeld
  go_wp2_with fail
  refine hK.out _ _ hN (fun hHeld => ?_); clear hK K hN; try simp only [Act.put, List.setIfInBounds_toArray, List.set_cons_zero, List.set_cons_succ]
  refine wpAnyH_ready (rs := [10]) (by kernel_rfl) (by simp) (AllReadyH.cons (by simp only [List.getElem?_toArray, List.getElem?_cons_succ, List.getElem?_cons_zero]; rfl) (fun K hK => ?_) AllReadyH.nil)
  go_simp
  go_at_call 18; refine (same_zo S8.out.2.2.2.2.1 S8.out.2.2.2.2.2.2.2.2.1 rfl).mono ?_; rintro e w9 ⟨rfl, hb⟩
  have S9 := Lib.hid (And.intro (S8.out.1.keep (hb)) (And.intro (S8.out.2.1.keep (hb)) (And.intro (S8.out.2.2.1.keep (hb)) (And.intro (S8.out.2.2.2.1.keep (hb)) (And.intro (S8.out.2.2.2.2.2.1.keep (hb)) (And.intro (S8.out.2.2.2.2.2.2.2.1.keep (hb)) (below_trans (S8.out.2.2.2.2.2.2.2.2.2) (hb))))))))
  have hN : w9.cell? ⟨gx, 0, none⟩ = some (.bool px) ∧ w9.cell? ⟨gx, 1, none⟩ = some (.slice Ax lx cx) ∧ w9.cell? ⟨gd, 0, none⟩ = some (.bool pd) ∧ w9.cell? ⟨gd, 1, none⟩ = some (.slice Ad ld cd) := ⟨S9.out.2.2.2.2.1.facts.1, S9.out.2.2.2.2.1.facts.2.1, S9.out.2.2.2.2.2.1.facts.1, S9.out.2.2.2.2.2.1.facts.2.1⟩
  clear hb hHeld
  go_wp2_with fail
  refine hK.out _ _ hN (fun hHeld => ?_); clear hK K hN; try simp only [Act.put, List.setIfInBounds_toArray, List.set_cons_zero, List.set_cons_succ]
  refine wpAnyH_take (i := 11) (v := ?v10) (by simp only [List.getElem?_toArray, List.getElem?_cons_succ, List.getElem?_cons_zero]; rfl) (by kernel_rfl) (by kernel_rfl) (by kernel_rfl) (by exact fun _ _ _ h => h) (Or.inl ⟨by rfl, ?h10⟩) hHeld ?r10
  case h10 => (intro w hSw; (try dsimp only at hSw); (first | (go_simp; done) | (go_simp; with_reducible rfl)))
  try simp only [Act.put, List.setIfInBounds_toArray, List.set_cons_zero, List.set_cons_succ]
  refine wpAnyH_take (i := 12) (v := ?v11) (by simp only [List.getElem?_toArray, List.getElem?_cons_succ, List.getElem?_cons_zero]; rfl) (by kernel_rfl) (by kernel_rfl) (by kernel_rfl) (by exact fun _ _ _ h => h) (Or.inl ⟨by rfl, ?h11⟩) hHeld ?r11
  case h11 => (intro w hSw; (try dsimp only at hSw); (first | (go_simp; done) | (go_simp; with_reducible rfl)))
  try simp only [Act.put, List.setIfInBounds_toArray, List.set_cons_zero, List.set_cons_succ]
  refine wpAnyH_take (i := 13) (v := ?v12) (by simp only [List.getElem?_toArray, List.getElem?_cons_succ, List.getElem?_cons_zero]; rfl) (by kernel_rfl) (by kernel_rfl) (by kernel_rfl) (by exact fun _ _ _ h => h) (Or.inl ⟨by rfl, ?h12⟩) hHeld ?r12
  case h12 => (intro w hSw; (try dsimp only at hSw); (first | (go_simp; done) | (go_simp; with_reducible rfl)))
  try simp only [Act.put, List.setIfInBounds_toArray, List.set_cons_zero, List.set_cons_succ]
  refine wpAnyH_take (i := 14) (v := ?v13) (by simp only [List.getElem?_toArray, List.getElem?_cons_succ, List.getElem?_cons_zero]; rfl) (by kernel_rfl) (by kernel_rfl) (by kernel_rfl) (by exact fun _ _ _ h => h) (Or.inl ⟨by rfl, ?h13⟩) hHeld ?r13
  case h13 => (intro w hSw; (try dsimp only at hSw); (first | (go_simp; done) | (go_simp; with_reducible rfl)))
  try simp only [Act.put, List.setIfInBounds_toArray, List.set_cons_zero, List.set_cons_succ]
  refine wpAnyH_take (i := 15) (v := ?v14) (by simp only [List.getElem?_toArray, List.getElem?_cons_succ, List.getElem?_cons_zero]; rfl) (by kernel_rfl) (by kernel_rfl) (by kernel_rfl) (by exact fun _ _ _ h => h) (Or.inl ⟨by rfl, ?h14⟩) hHeld ?r14
  case h14 => (intro w hSw; (try dsimp only at hSw); (first | (go_simp; done) | (go_simp; with_reducible rfl)))
  try simp only [Act.put, List.setIfInBounds_toArray, List.set_cons_zero, List.set_cons_succ]
  refine wpAnyH_take (i := 16) (v := ?v15) (by simp only [List.getElem?_toArray, List.getElem?_cons_succ, List.getElem?_cons_zero]; rfl) (by kernel_rfl) (by kernel_rfl) (by kernel_rfl) (by exact fun _ _ _ h => h) (Or.inl ⟨by rfl, ?h15⟩) hHeld ?r15
  case h15 => (intro w hSw; (try dsimp only at hSw); (first | (go_simp; done) | (go_simp; with_reducible rfl)))
  try simp only [Act.put, List.setIfInBounds_toArray, List.set_cons_zero, List.set_cons_succ]
  refine wpAnyH_take (i := 17) (v := ?v16) (by simp only [List.getElem?_toArray, List.getElem?_cons_succ, List.getElem?_cons_zero]; rfl) (by kernel_rfl) (by kernel_rfl) (by kernel_rfl) (by exact fun _ _ _ h => h) (Or.inl ⟨by rfl, ?h16⟩) hHeld ?r16
  case h16 => (intro w hSw; (try dsimp only at hSw); (first | (go_simp; done) | (go_simp; with_reducible rfl)))
  try simp only [Act.put, List.setIfInBounds_toArray, List.set_cons_zero, List.set_cons_succ]
  refine wpAnyH_take (i := 18) (v := undef) (by simp only [List.getElem?_toArray, List.getElem?_cons_succ, List.getElem?_cons_zero]; rfl) (by kernel_rfl) (by kernel_rfl) (by kernel_rfl) (by exact fun _ _ _ h => h) (Or.inr ⟨by rfl, rfl⟩) hHeld ?_; try simp only [Act.put, List.setIfInBounds_toArray, List.set_cons_zero, List.set_cons_succ]
  refine wpAnyH_take (i := 19) (v := undef) (by simp only [List.getElem?_toArray, List.getElem?_cons_succ, List.getElem?_cons_zero]; rfl) (by kernel_rfl) (by kernel_rfl) (by kernel_rfl) (by exact fun _ _ _ h => h) (Or.inr ⟨by rfl, rfl⟩) hHeld ?_; try simp only [Act.put, List.setIfInBounds_toArray, List.set_cons_zero, List.set_cons_succ]
  refine wpAnyH_take (i := 20) (v := undef) (by simp only [List.getElem?_toArray, List.getElem?_cons_succ, List.getElem?_cons_zero]; rfl) (by kernel_rfl) (by kernel_rfl) (by kernel_rfl) (by exact fun _ _ _ h => h) (Or.inr ⟨by rfl, rfl⟩) hHeld ?_; try simp only [Act.put, List.setIfInBounds_toArray, List.set_cons_zero, List.set_cons_succ]
  refine wpAnyH_take (i := 21) (v := undef) (by simp only [List.getElem?_toArray, List.getElem?_cons_succ, List.getElem?_cons_zero]; rfl) (by kernel_rfl) (by kernel_rfl) (by kernel_rfl) (by exact fun _ _ _ h => h) (Or.inr ⟨by rfl, rfl⟩) hHeld ?_; try simp only [Act.put, List.setIfInBounds_toArray, List.set_cons_zero, List.set_cons_succ]
  refine wpAnyH_take (i := 22) (v := ?v17) (by simp only [List.getElem?_toArray, List.getElem?_cons_succ, List.getElem?_cons_zero]; rfl) (by kernel_rfl) (by kernel_rfl) (by kernel_rfl) (by exact fun _ _ _ h => h) (Or.inl ⟨by rfl, ?h17⟩) hHeld ?r17
  case h17 => (intro w hSw; (try dsimp only at hSw); (first | (go_simp; done) | (go_simp; with_reducible rfl)))
  try simp only [Act.put, List.setIfInBounds_toArray, List.set_cons_zero, List.set_cons_succ]
  refine wpAnyH_take (i := 23) (v := ?v18) (by simp only [List.getElem?_toArray, List.getElem?_cons_succ, List.getElem?_cons_zero]; rfl) (by kernel_rfl) (by kernel_rfl) (by kernel_rfl) (by exact fun _ _ _ h => h) (Or.inl ⟨by rfl, ?h18⟩) hHeld ?r18
  case h18 => (intro w hSw; (try dsimp only at hSw); (first | (go_simp; done) | (go_simp; with_reducible rfl)))
  try simp only [Act.put, List.setIfInBounds_toArray, List.set_cons_zero, List.set_cons_succ]
  refine wpAnyH_done (by kernel_rfl) ?_ _
  clear hHeld
  go_upto_region 7 with (fail)
  have S10 := Lib.hid (And.intro (S9.out.1.keep (below_dr _ 1)) (And.intro (S9.out.2.1.keep (below_dr _ 1)) (And.intro (S9.out.2.2.1.keep (below_dr _ 1)) (And.intro (S9.out.2.2.2.1.keep (below_dr _ 1)) (And.intro (S9.out.2.2.2.2.1.keep (below_dr _ 1)) (And.intro (S9.out.2.2.2.2.2.1.keep (below_dr _ 1)) (below_trans (S9.out.2.2.2.2.2.2) (below_dr _ 1))))))))
  have HS0 : (w9.drewN 1).cell? ⟨w.heap.size, 0, none⟩ = some (.bool pa) ∧ (w9.drewN 1).cell? ⟨w.heap.size, 1, none⟩ = some (.slice Aa na ca) := ⟨S10.out.2.2.2.1.facts.1, S10.out.2.2.2.1.facts.2.1⟩
  have HS1 := HS0
  have HS2 := HS0
  have HS3 := HS0
  have HS4 := HS0
  have HS5 := HS0
  go_region_held3 (fun W => W.cell? ⟨w.heap.size, 0, none⟩ = some (.bool pa) ∧ W.cell? ⟨w.heap.size, 1, none⟩ = some (.slice Aa na ca)) (first | with_reducible exact HS1 | with_reducible exact HS2 | with_reducible exact HS3 | with_reducible exact HS4 | with_reducible exact HS5 | exact HS0)
    (first
      | (have hst := S14; clear hst; go_at_call 25; refine (I.text_d S14.out.2.2.2.2.2.2.1 (by decide)).mono ?_; rintro e w15 ⟨rfl, hb⟩; rw [HG.out.2.2]; have S15 := Lib.hid (And.intro (S14.out.1.keep (hb)) (And.intro (S14.out.2.1.keep (hb)) (And.intro (S14.out.2.2.1.keep (hb)) (And.intro (S14.out.2.2.2.1.keep (hb)) (And.intro (S14.out.2.2.2.2.1.keep (hb)) (And.intro (S14.out.2.2.2.2.2.1.keep (hb)) (below_trans (S14.out.2.2.2.2.2.2.2) (hb)))))))); have HS5 : w15.cell? ⟨w.heap.size, 0, none⟩ = some (.bool pa) ∧ w15.cell? ⟨w.heap.size, 1, none⟩ = some (.slice Aa na ca) := ⟨S15.out.2.2.2.1.facts.1, S15.out.2.2.2.1.facts.2.1⟩; clear hb)
      | (have hst := S13; clear hst; go_at_call 16; refine (I.of_d S13.out.2.2.1 (by decide)).mono ?_; rintro e w14 ⟨v, rfl, h, hb⟩; have S14 := Lib.hid (And.intro (S13.out.1.keep (hb)) (And.intro (S13.out.2.1.keep (hb)) (And.intro (S13.out.2.2.1.keep (hb)) (And.intro (S13.out.2.2.2.1.keep (hb)) (And.intro (S13.out.2.2.2.2.1.keep (hb)) (And.intro (S13.out.2.2.2.2.2.1.keep (hb)) (And.intro (h) (below_trans (S13.out.2.2.2.2.2.2) (hb))))))))); have HS4 : w14.cell? ⟨w.heap.size, 0, none⟩ = some (.bool pa) ∧ w14.cell? ⟨w.heap.size, 1, none⟩ = some (.slice Aa na ca) := ⟨S14.out.2.2.2.1.facts.1, S14.out.2.2.2.1.facts.2.1⟩; clear h hb)
      | (have hst := S12; clear hst; go_at_call 24; refine (text_z S12.out.1 S12.out.2.2.2.2.2.2.1 (by decide)).mono ?_; rintro e w13 ⟨rfl, hb⟩; rw [← HG.out.2.1, HG.out.2.2]; have S13 := Lib.hid (And.intro (S12.out.1.keep (hb)) (And.intro (S12.out.2.1.keep (hb)) (And.intro (S12.out.2.2.1.keep (hb)) (And.intro (S12.out.2.2.2.1.keep (hb)) (And.intro (S12.out.2.2.2.2.1.keep (hb)) (And.intro (S12.out.2.2.2.2.2.1.keep (hb)) (below_trans (S12.out.2.2.2.2.2.2.2) (hb)))))))); have HS3 : w13.cell? ⟨w.heap.size, 0, none⟩ = some (.bool pa) ∧ w13.cell? ⟨w.heap.size, 1, none⟩ = some (.slice Aa na ca) := ⟨S13.out.2.2.2.1.facts.1, S13.out.2.2.2.1.facts.2.1⟩; clear hb)
      | (have hst := S11; clear hst; go_at_call 14; refine (copy_z S11.out.2.1 (by have := HG.out.1; omega)).mono ?_; rintro e w12 ⟨v, rfl, h, hb⟩; have S12 := Lib.hid (And.intro (S11.out.1.keep (hb)) (And.intro (S11.out.2.1.keep (hb)) (And.intro (S11.out.2.2.1.keep (hb)) (And.intro (S11.out.2.2.2.1.keep (hb)) (And.intro (S11.out.2.2.2.2.1.keep (hb)) (And.intro (S11.out.2.2.2.2.2.1.keep (hb)) (And.intro (h.zn HG.out.1) (below_trans (S11.out.2.2.2.2.2.2) (hb))))))))); have HS2 : w12.cell? ⟨w.heap.size, 0, none⟩ = some (.bool pa) ∧ w12.cell? ⟨w.heap.size, 1, none⟩ = some (.slice Aa na ca) := ⟨S12.out.2.2.2.1.facts.1, S12.out.2.2.2.1.facts.2.1⟩; clear h hb)
      | (have hst := S10; clear hst; go_at_call 13; refine (big_no S10.out.2.1 S10.out.2.1 HG.out.1 HG.out.1).mono ?_; rintro e w11 ⟨rfl, hb⟩; have S11 := Lib.hid (And.intro (S10.out.1.keep (hb)) (And.intro (S10.out.2.1.keep (hb)) (And.intro (S10.out.2.2.1.keep (hb)) (And.intro (S10.out.2.2.2.1.keep (hb)) (And.intro (S10.out.2.2.2.2.1.keep (hb)) (And.intro (S10.out.2.2.2.2.2.1.keep (hb)) (below_trans (S10.out.2.2.2.2.2.2) (hb)))))))); have HS1 : w11.cell? ⟨w.heap.size, 0, none⟩ = some (.bool pa) ∧ w11.cell? ⟨w.heap.size, 1, none⟩ = some (.slice Aa na ca) := ⟨S11.out.2.2.2.1.facts.1, S11.out.2.2.2.1.facts.2.1⟩; clear hb))
  clear HS0 HS1 HS2 HS3 HS4 HS5
  go_wp2_with fail
  go_ret
  exact ⟨rfl, S15.out.2.2.2.2.2.2⟩
set_option maxRecDepth 100000 in
set_option maxHeartbeats 2000000 in
theorem zintTexts_1b (w : World) (ht : Tab w) {a : Value} {pa : Bool} {xa : List Nat} (ha : Zl w a pa xa) (s : ByteArray) (hs : s.size ≤ 9223372036854775807) (hn : parseErr (cutS s).2.data.toList = 1) (hg : ¬ (xa.length ≤ 12 ∧ xa.length ≤ 12)) :
    Calls Tryz.prog 4 #[.string s, a] w fun e w' => e = .returned (.bool true) ∧ Below w.heap.size w w' := by
  have HG := Lib.hid hg
  have hzl := ha
  clear hg
  obtain ⟨rz, hrz⟩ : ∃ rz, readZ s = rz := ⟨_, rfl⟩
  have HN := Lib.hid (And.intro hn (And.intro hs (And.intro hrz (show rz.natAbs < WB ^ 200 by rw [← hrz]; exact read_abs s))))
  have HZ := Lib.hid (show rz = 0 by rw [← hrz]; exact read_zero (by rw [hn]; decide))
  obtain ⟨Aa, na, ca, rfl, ea, ha⟩ := ha.parts
  have S0 := Lib.hid (And.intro (ht) (And.intro (hzl) (Below.refl w.heap.size w)))
  clear ht hzl ha ea hn hs hrz 
  go_enter Tryz.func4, Tryz.ntmps4
  go_upto_region 1 with (fail)
  obtain ⟨h0, hb⟩ := box1 w 24 (.bool pa) (.slice Aa na ca)
  have S1 := Lib.hid (And.intro (S0.out.1.keep (hb)) (And.intro (S0.out.2.1.keep (hb)) (And.intro (h0) (below_trans (S0.out.2.2) (hb)))))
  clear hb h0 S0
  generalize w.alloc _ = W0 at S1 ⊢
  go_wp2_with fail
  refine (speaks_z _ S1.out.1).mono ?_; rintro e w2 ⟨rfl, hb⟩
  have S2 := Lib.hid (And.intro (S1.out.1.keep (hb)) (And.intro (S1.out.2.1.keep (hb)) (And.intro (S1.out.2.2.1.keep (hb)) (below_trans (S1.out.2.2.2) (hb)))))
  clear hb  S1
  go_wp2_with fail
  refine (parse_z s _ HN.out.2.1).mono ?_; rintro e w3 ⟨v1, rfl, h, hb⟩
  rw [HN.out.1]
  rw [HN.out.2.2.1] at h
  obtain ⟨px, Ax, lx, cx, rfl⟩ := h.parts
  have S3 := Lib.hid (And.intro (S2.out.1.keep (hb)) (And.intro (S2.out.2.1.keep (hb)) (And.intro (S2.out.2.2.1.keep (hb)) (And.intro (h) (below_trans (S2.out.2.2.2) (hb))))))
  clear h hb  S2
  go_upto_region 4 with (fail)
  obtain ⟨h0, hb⟩ := box1 w3 24 (.bool px) (.slice Ax lx cx)
  obtain ⟨gx, hgx⟩ : ∃ g, g = w3.heap.size := ⟨_, rfl⟩
  have S4 := Lib.hid (And.intro (S3.out.1.keep (hb)) (And.intro (S3.out.2.1.keep (hb)) (And.intro (S3.out.2.2.1.keep (hb)) (And.intro (S3.out.2.2.2.1.keep (hb)) (And.intro (h0) (below_trans (S3.out.2.2.2.2) (hb)))))))
  clear hb h0 S3
  generalize (w3.alloc _) = Wx at S4 ⊢
  rw [← hgx] at S4 ⊢
  clear hgx
  go_wp2_with fail
  refine (I.parse_d s _ HN.out.2.1).mono ?_; rintro e w5 ⟨v1, rfl, h, hb⟩
  rw [HN.out.1]
  rw [HN.out.2.2.1] at h
  obtain ⟨pd, Ad, ld, cd, rfl⟩ := Zd.pat h
  have S5 := Lib.hid (And.intro (S4.out.1.keep (hb)) (And.intro (S4.out.2.1.keep (hb)) (And.intro (S4.out.2.2.1.keep (hb)) (And.intro (S4.out.2.2.2.1.keep (hb)) (And.intro (S4.out.2.2.2.2.1.keep (hb)) (And.intro (h) (below_trans (S4.out.2.2.2.2.2) (hb))))))))
  clear h hb  S4
  go_upto_region 5 with (fail)
  obtain ⟨h0, hb⟩ := box1 w5 33 (.bool pd) (.slice Ad ld cd)
  obtain ⟨gd, hgd⟩ : ∃ g, g = w5.heap.size := ⟨_, rfl⟩
  have S6 := Lib.hid (And.intro (S5.out.1.keep (hb)) (And.intro (S5.out.2.1.keep (hb)) (And.intro (S5.out.2.2.1.keep (hb)) (And.intro (S5.out.2.2.2.1.keep (hb)) (And.intro (S5.out.2.2.2.2.1.keep (hb)) (And.intro (S5.out.2.2.2.2.2.1.keep (hb)) (And.intro (h0) (below_trans (S5.out.2.2.2.2.2.2) (hb)))))))))
  clear hb h0 S5
  generalize w5.alloc _ = Wd at S6 ⊢
  rw [← hgd] at S6 ⊢
  clear hgd
  go_upto_region 5 with (fail)
  have S7 := Lib.hid (And.intro (S6.out.1.keep (below_dr _ 1)) (And.intro (S6.out.2.1.keep (below_dr _ 1)) (And.intro (S6.out.2.2.1.keep (below_dr _ 1)) (And.intro (S6.out.2.2.2.1.keep (below_dr _ 1)) (And.intro (S6.out.2.2.2.2.1.keep (below_dr _ 1)) (And.intro (S6.out.2.2.2.2.2.1.keep (below_dr _ 1)) (And.intro (S6.out.2.2.2.2.2.2.1.keep (below_dr _ 1)) (below_trans (S6.out.2.2.2.2.2.2.2) (below_dr _ 1)))))))))
  refine wp_region_held_drew (S := fun W => W.cell? ⟨gx, 0, none⟩ = some (.bool px) ∧ W.cell? ⟨gx, 1, none⟩ = some (.slice Ax lx cx) ∧ W.cell? ⟨gd, 0, none⟩ = some (.bool pd) ∧ W.cell? ⟨gd, 1, none⟩ = some (.slice Ad ld cd)) (by kernel_rfl) ⟨S7.out.2.2.2.2.1.facts.1, S7.out.2.2.2.2.1.facts.2.1, S7.out.2.2.2.2.2.2.1.facts.1, S7.out.2.2.2.2.2.2.1.facts.2.1⟩ (fun hHeld => ?_)
  refine wpAnyH_take (i := 0) (v := ?v1) (by simp only [List.getElem?_toArray, List.getElem?_cons_succ, List.getElem?_cons_zero]; rfl) (by kernel_rfl) (by kernel_rfl) (by kernel_rfl) (by exact fun _ _ _ h => h) (Or.inl ⟨by rfl, ?h1⟩) hHeld ?r1
  case h1 => (intro w hSw; (try dsimp only at hSw); (first | (go_simp; done) | (go_simp; with_reducible rfl)))
  try simp only [Act.put, List.setIfInBounds_toArray, List.set_cons_zero, List.set_cons_succ]
  refine wpAnyH_take (i := 1) (v := ?v2) (by simp only [List.getElem?_toArray, List.getElem?_cons_succ, List.getElem?_cons_zero]; rfl) (by kernel_rfl) (by kernel_rfl) (by kernel_rfl) (by exact fun _ _ _ h => h) (Or.inl ⟨by rfl, ?h2⟩) hHeld ?r2
  case h2 => (intro w hSw; (try dsimp only at hSw); (first | (go_simp; done) | (go_simp; with_reducible rfl)))
  try simp only [Act.put, List.setIfInBounds_toArray, List.set_cons_zero, List.set_cons_succ]
  refine wpAnyH_take (i := 2) (v := ?v3) (by simp only [List.getElem?_toArray, List.getElem?_cons_succ, List.getElem?_cons_zero]; rfl) (by kernel_rfl) (by kernel_rfl) (by kernel_rfl) (by exact fun _ _ _ h => h) (Or.inl ⟨by rfl, ?h3⟩) hHeld ?r3
  case h3 => (intro w hSw; (try dsimp only at hSw); (first | (go_simp; done) | (go_simp; with_reducible rfl)))
  try simp only [Act.put, List.setIfInBounds_toArray, List.set_cons_zero, List.set_cons_succ]
  refine wpAnyH_take (i := 3) (v := ?v4) (by simp only [List.getElem?_toArray, List.getElem?_cons_succ, List.getElem?_cons_zero]; rfl) (by kernel_rfl) (by kernel_rfl) (by kernel_rfl) (by exact fun _ _ _ h => h) (Or.inl ⟨by rfl, ?h4⟩) hHeld ?r4
  case h4 => (intro w hSw; (try dsimp only at hSw); (first | (go_simp; done) | (go_simp; with_reducible rfl)))
  try simp only [Act.put, List.setIfInBounds_toArray, List.set_cons_zero, List.set_cons_succ]
  refine wpAnyH_take (i := 4) (v := ?v5) (by simp only [List.getElem?_toArray, List.getElem?_cons_succ, List.getElem?_cons_zero]; rfl) (by kernel_rfl) (by kernel_rfl) (by kernel_rfl) (by exact fun _ _ _ h => h) (Or.inl ⟨by rfl, ?h5⟩) hHeld ?r5
  case h5 => (intro w hSw; (try dsimp only at hSw); (first | (go_simp; done) | (go_simp; with_reducible rfl)))
  try simp only [Act.put, List.setIfInBounds_toArray, List.set_cons_zero, List.set_cons_succ]
  refine wpAnyH_take (i := 5) (v := ?v6) (by simp only [List.getElem?_toArray, List.getElem?_cons_succ, List.getElem?_cons_zero]; rfl) (by kernel_rfl) (by kernel_rfl) (by kernel_rfl) (by exact fun _ _ _ h => h) (Or.inl ⟨by rfl, ?h6⟩) hHeld ?r6
  case h6 => (intro w hSw; (try dsimp only at hSw); (first | (go_simp; done) | (go_simp; with_reducible rfl)))
  try simp only [Act.put, List.setIfInBounds_toArray, List.set_cons_zero, List.set_cons_succ]
  refine wpAnyH_take (i := 6) (v := ?v7) (by simp only [List.getElem?_toArray, List.getElem?_cons_succ, List.getElem?_cons_zero]; rfl) (by kernel_rfl) (by kernel_rfl) (by kernel_rfl) (by exact fun _ _ _ h => h) (Or.inl ⟨by rfl, ?h7⟩) hHeld ?r7
  case h7 => (intro w hSw; (try dsimp only at hSw); (first | (go_simp; done) | (go_simp; with_reducible rfl)))
  try simp only [Act.put, List.setIfInBounds_toArray, List.set_cons_zero, List.set_cons_succ]
  refine wpAnyH_take (i := 7) (v := undef) (by simp only [List.getElem?_toArray, List.getElem?_cons_succ, List.getElem?_cons_zero]; rfl) (by kernel_rfl) (by kernel_rfl) (by kernel_rfl) (by exact fun _ _ _ h => h) (Or.inr ⟨by rfl, rfl⟩) hHeld ?_; try simp only [Act.put, List.setIfInBounds_toArray, List.set_cons_zero, List.set_cons_succ]
  refine wpAnyH_take (i := 8) (v := undef) (by simp only [List.getElem?_toArray, List.getElem?_cons_succ, List.getElem?_cons_zero]; rfl) (by kernel_rfl) (by kernel_rfl) (by kernel_rfl) (by exact fun _ _ _ h => h) (Or.inr ⟨by rfl, rfl⟩) hHeld ?_; try simp only [Act.put, List.setIfInBounds_toArray, List.set_cons_zero, List.set_cons_succ]
  refine wpAnyH_take (i := 9) (v := undef) (by simp only [List.getElem?_toArray, List.getElem?_cons_succ, List.getElem?_cons_zero]; rfl) (by kernel_rfl) (by kernel_rfl) (by kernel_rfl) (by exact fun _ _ _ h => h) (Or.inr ⟨by rfl, rfl⟩) hHeld ?_; try simp only [Act.put, List.setIfInBounds_toArray, List.set_cons_zero, List.set_cons_succ]
  refine wpAnyH_take (i := 10) (v := undef) (by simp only [List.getElem?_toArray, List.getElem?_cons_succ, List.getElem?_cons_zero]; rfl) (by kernel_rfl) (by kernel_rfl) (by kernel_rfl) (by exact fun _ _ _ h => h) (Or.inr ⟨by rfl, rfl⟩) hHeld ?_; try simp only [Act.put, List.setIfInBounds_toArray, List.set_cons_zero, List.set_cons_succ]
  refine wpAnyH_take (i := 11) (v := undef) (by simp only [List.getElem?_toArray, List.getElem?_cons_succ, List.getElem?_cons_zero]; rfl) (by kernel_rfl) (by kernel_rfl) (by kernel_rfl) (by exact fun _ _ _ h => h) (Or.inr ⟨by rfl, rfl⟩) hHeld ?_; try simp only [Act.put, List.setIfInBounds_toArray, List.set_cons_zero, List.set_cons_succ]
  refine wpAnyH_take (i := 12) (v := ?v8) (by simp only [List.getElem?_toArray, List.getElem?_cons_succ, List.getElem?_cons_zero]; rfl) (by kernel_rfl) (by kernel_rfl) (by kernel_rfl) (by exact fun _ _ _ h => h) (Or.inl ⟨by rfl, ?h8⟩) hHeld ?r8
  case h8 => (intro w hSw; (try dsimp only at hSw); (first | (go_simp; done) | (go_simp; with_reducible rfl)))
  try simp only [Act.put, List.setIfInBounds_toArray, List.set_cons_zero, List.set_cons_succ]
  refine wpAnyH_take (i := 13) (v := ?v9) (by simp only [List.getElem?_toArray, List.getElem?_cons_succ, List.getElem?_cons_zero]; rfl) (by kernel_rfl) (by kernel_rfl) (by kernel_rfl) (by exact fun _ _ _ h => h) (Or.inl ⟨by rfl, ?h9⟩) hHeld ?r9
  case h9 => (intro w hSw; (try dsimp only at hSw); (first | (go_simp; done) | (go_simp; with_reducible rfl)))
  try simp only [Act.put, List.setIfInBounds_toArray, List.set_cons_zero, List.set_cons_succ]
  refine wpAnyH_take (i := 14) (v := ?v10) (by simp only [List.getElem?_toArray, List.getElem?_cons_succ, List.getElem?_cons_zero]; rfl) (by kernel_rfl) (by kernel_rfl) (by kernel_rfl) (by exact fun _ _ _ h => h) (Or.inl ⟨by rfl, ?h10⟩) hHeld ?r10
  case h10 => (intro w hSw; (try dsimp only at hSw); (first | (go_simp; done) | (go_simp; with_reducible rfl)))
  try simp only [Act.put, List.setIfInBounds_toArray, List.set_cons_zero, List.set_cons_succ]
  refine wpAnyH_take (i := 15) (v := ?v11) (by simp only [List.getElem?_toArray, List.getElem?_cons_succ, List.getElem?_cons_zero]; rfl) (by kernel_rfl) (by kernel_rfl) (by kernel_rfl) (by exact fun _ _ _ h => h) (Or.inl ⟨by rfl, ?h11⟩) hHeld ?r11
  case h11 => (intro w hSw; (try dsimp only at hSw); (first | (go_simp; done) | (go_simp; with_reducible rfl)))
  try simp only [Act.put, List.setIfInBounds_toArray, List.set_cons_zero, List.set_cons_succ]
  refine wpAnyH_take (i := 16) (v := ?v12) (by simp only [List.getElem?_toArray, List.getElem?_cons_succ, List.getElem?_cons_zero]; rfl) (by kernel_rfl) (by kernel_rfl) (by kernel_rfl) (by exact fun _ _ _ h => h) (Or.inl ⟨by rfl, ?h12⟩) hHeld ?r12
  case h12 => (intro w hSw; (try dsimp only at hSw); (first | (go_simp; done) | (go_simp; with_reducible rfl)))
  try simp only [Act.put, List.setIfInBounds_toArray, List.set_cons_zero, List.set_cons_succ]
  refine wpAnyH_take (i := 17) (v := ?v13) (by simp only [List.getElem?_toArray, List.getElem?_cons_succ, List.getElem?_cons_zero]; rfl) (by kernel_rfl) (by kernel_rfl) (by kernel_rfl) (by exact fun _ _ _ h => h) (Or.inl ⟨by rfl, ?h13⟩) hHeld ?r13
  case h13 => (intro w hSw; (try dsimp only at hSw); (first | (go_simp; done) | (go_simp; with_reducible rfl)))
  try simp only [Act.put, List.setIfInBounds_toArray, List.set_cons_zero, List.set_cons_succ]
  refine wpAnyH_take (i := 18) (v := ?v14) (by simp only [List.getElem?_toArray, List.getElem?_cons_succ, List.getElem?_cons_zero]; rfl) (by kernel_rfl) (by kernel_rfl) (by kernel_rfl) (by exact fun _ _ _ h => h) (Or.inl ⟨by rfl, ?h14⟩) hHeld ?r14
  case h14 => (intro w hSw; (try dsimp only at hSw); (first | (go_simp; done) | (go_simp; with_reducible rfl)))
  try simp only [Act.put, List.setIfInBounds_toArray, List.set_cons_zero, List.set_cons_succ]
  refine wpAnyH_take (i := 19) (v := ?v15) (by simp only [List.getElem?_toArray, List.getElem?_cons_succ, List.getElem?_cons_zero]; rfl) (by kernel_rfl) (by kernel_rfl) (by kernel_rfl) (by exact fun _ _ _ h => h) (Or.inl ⟨by rfl, ?h15⟩) hHeld ?r15
  case h15 => (intro w hSw; (try dsimp only at hSw); (first | (go_simp; done) | (go_simp; with_reducible rfl)))
  try simp only [Act.put, List.setIfInBounds_toArray, List.set_cons_zero, List.set_cons_succ]
  refine wpAnyH_ready (rs := [20]) (by kernel_rfl) (by simp) (AllReadyH.cons (by simp only [List.getElem?_toArray, List.getElem?_cons_succ, List.getElem?_cons_zero]; rfl) (fun K hK => ?_) AllReadyH.nil)
  go_simp
  go_at_call 18; refine (same_zo S7.out.2.2.2.1 (nil_zo _) HZ.out).mono ?_; rintro e w8 ⟨rfl, hb⟩
  have S8 := Lib.hid (And.intro (S7.out.1.keep (hb)) (And.intro (S7.out.2.1.keep (hb)) (And.intro (S7.out.2.2.1.keep (hb)) (And.intro (S7.out.2.2.2.2.1.keep (hb)) (And.intro (S7.out.2.2.2.2.2.2.1.keep (hb)) (below_trans (S7.out.2.2.2.2.2.2.2) (hb)))))))
  have hN : w8.cell? ⟨gx, 0, none⟩ = some (.bool px) ∧ w8.cell? ⟨gx, 1, none⟩ = some (.slice Ax lx cx) ∧ w8.cell? ⟨gd, 0, none⟩ = some (.bool pd) ∧ w8.cell? ⟨gd, 1, none⟩ = some (.slice Ad ld cd) := ⟨S8.out.2.2.2.1.facts.1, S8.out.2.2.2.1.facts.2.1, S8.out.2.2.2.2.1.facts.1, S8.out.2.2.2.2.1.facts.2.1⟩
  clear hb hHeld
  go_wp2_with fail
  refine hK.out _ _ hN (fun hHeld => ?_); clear hK K hN; try simp only [Act.put, List.setIfInBounds_toArray, List.set_cons_zero, List.set_cons_succ]
  refine wpAnyH_take (i := 21) (v := ?v16) (by simp only [List.getElem?_toArray, List.getElem?_cons_succ, List.getElem?_cons_zero]; rfl) (by kernel_rfl) (by kernel_rfl) (by kernel_rfl) (by exact fun _ _ _ h => h) (Or.inl ⟨by rfl, ?h16⟩) hHeld ?r16
  case h16 => (intro w hSw; (try dsimp only at hSw); (first | (go_simp; done) | (go_simp; with_reducible rfl)))
  try simp only [Act.put, List.setIfInBounds_toArray, List.set_cons_zero, List.set_cons_succ]
  refine wpAnyH_take (i := 22) (v := ?v17) (by simp only [List.getElem?_toArray, List.getElem?_cons_succ, List.getElem?_cons_zero]; rfl) (by kernel_rfl) (by kernel_rfl) (by kernel_rfl) (by exact fun _ _ _ h => h) (Or.inl ⟨by rfl, ?h17⟩) hHeld ?r17
  case h17 => (intro w hSw; (try dsimp only at hSw); (first | (go_simp; done) | (go_simp; with_reducible rfl)))
  try simp only [Act.put, List.setIfInBounds_toArray, List.set_cons_zero, List.set_cons_succ]
  refine wpAnyH_take (i := 23) (v := ?v18) (by simp only [List.getElem?_toArray, List.getElem?_cons_succ, List.getElem?_cons_zero]; rfl) (by kernel_rfl) (by kernel_rfl) (by kernel_rfl) (by exact fun _ _ _ h => h) (Or.inl ⟨by rfl, ?h18⟩) hHeld ?r18
  case h18 => (intro w hSw; (try dsimp only at hSw); (first | (go_simp; done) | (go_simp; with_reducible rfl)))
  try simp only [Act.put, List.setIfInBounds_toArray, List.set_cons_zero, List.set_cons_succ]
  refine wpAnyH_done (by kernel_rfl) ?_ _
  clear hHeld
  go_upto_region 7 with (fail)
  have S9 := Lib.hid (And.intro (S8.out.1.keep (below_dr _ 1)) (And.intro (S8.out.2.1.keep (below_dr _ 1)) (And.intro (S8.out.2.2.1.keep (below_dr _ 1)) (And.intro (S8.out.2.2.2.1.keep (below_dr _ 1)) (And.intro (S8.out.2.2.2.2.1.keep (below_dr _ 1)) (below_trans (S8.out.2.2.2.2.2) (below_dr _ 1)))))))
  refine wp_region_held_drew (S := fun W => W.cell? ⟨w.heap.size, 0, none⟩ = some (.bool pa) ∧ W.cell? ⟨w.heap.size, 1, none⟩ = some (.slice Aa na ca)) (by kernel_rfl) ⟨S9.out.2.2.1.facts.1, S9.out.2.2.1.facts.2.1⟩ (fun hHeld => ?_)
  refine wpAnyH_take (i := 0) (v := ?v19) (by simp only [List.getElem?_toArray, List.getElem?_cons_succ, List.getElem?_cons_zero]; rfl) (by kernel_rfl) (by kernel_rfl) (by kernel_rfl) (by exact fun _ _ _ h => h) (Or.inl ⟨by rfl, ?h19⟩) hHeld ?r19
  case h19 => (intro w hSw; (try dsimp only at hSw); (first | (go_simp; done) | (go_simp; with_reducible rfl)))
  try simp only [Act.put, List.setIfInBounds_toArray, List.set_cons_zero, List.set_cons_succ]
  refine wpAnyH_take (i := 1) (v := ?v20) (by simp only [List.getElem?_toArray, List.getElem?_cons_succ, List.getElem?_cons_zero]; rfl) (by kernel_rfl) (by kernel_rfl) (by kernel_rfl) (by exact fun _ _ _ h => h) (Or.inl ⟨by rfl, ?h20⟩) hHeld ?r20
  case h20 => (intro w hSw; (try dsimp only at hSw); (first | (go_simp; done) | (go_simp; with_reducible rfl)))
  try simp only [Act.put, List.setIfInBounds_toArray, List.set_cons_zero, List.set_cons_succ]
  refine wpAnyH_ready (rs := [2]) (by kernel_rfl) (by simp) (AllReadyH.cons (by simp only [List.getElem?_toArray, List.getElem?_cons_succ, List.getElem?_cons_zero]; rfl) (fun K hK => ?_) AllReadyH.nil)
  go_simp
  go_at_call 13; refine (big_yes S9.out.2.1 S9.out.2.1 HG.out).mono ?_; rintro e w10 ⟨rfl, hb⟩
  have S10 := Lib.hid (And.intro (S9.out.1.keep (hb)) (And.intro (S9.out.2.1.keep (hb)) (And.intro (S9.out.2.2.1.keep (hb)) (And.intro (S9.out.2.2.2.1.keep (hb)) (And.intro (S9.out.2.2.2.2.1.keep (hb)) (below_trans (S9.out.2.2.2.2.2) (hb)))))))
  have hN : w10.cell? ⟨w.heap.size, 0, none⟩ = some (.bool pa) ∧ w10.cell? ⟨w.heap.size, 1, none⟩ = some (.slice Aa na ca) := ⟨S10.out.2.2.1.facts.1, S10.out.2.2.1.facts.2.1⟩
  clear hb hHeld
  go_wp2_with fail
  refine hK.out _ _ hN (fun hHeld => ?_); clear hK K hN; try simp only [Act.put, List.setIfInBounds_toArray, List.set_cons_zero, List.set_cons_succ]
  refine wpAnyH_take (i := 3) (v := ?v21) (by simp only [List.getElem?_toArray, List.getElem?_cons_succ, List.getElem?_cons_zero]; rfl) (by kernel_rfl) (by kernel_rfl) (by kernel_rfl) (by exact fun _ _ _ h => h) (Or.inl ⟨by rfl, ?h21⟩) hHeld ?r21
  case h21 => (intro w hSw; (try dsimp only at hSw); (first | (go_simp; done) | (go_simp; with_reducible rfl)))
  try simp only [Act.put, List.setIfInBounds_toArray, List.set_cons_zero, List.set_cons_succ]
  refine wpAnyH_take (i := 4) (v := undef) (by simp only [List.getElem?_toArray, List.getElem?_cons_succ, List.getElem?_cons_zero]; rfl) (by kernel_rfl) (by kernel_rfl) (by kernel_rfl) (by exact fun _ _ _ h => h) (Or.inr ⟨by rfl, rfl⟩) hHeld ?_; try simp only [Act.put, List.setIfInBounds_toArray, List.set_cons_zero, List.set_cons_succ]
  refine wpAnyH_take (i := 5) (v := undef) (by simp only [List.getElem?_toArray, List.getElem?_cons_succ, List.getElem?_cons_zero]; rfl) (by kernel_rfl) (by kernel_rfl) (by kernel_rfl) (by exact fun _ _ _ h => h) (Or.inr ⟨by rfl, rfl⟩) hHeld ?_; try simp only [Act.put, List.setIfInBounds_toArray, List.set_cons_zero, List.set_cons_succ]
  refine wpAnyH_take (i := 6) (v := undef) (by simp only [List.getElem?_toArray, List.getElem?_cons_succ, List.getElem?_cons_zero]; rfl) (by kernel_rfl) (by kernel_rfl) (by kernel_rfl) (by exact fun _ _ _ h => h) (Or.inr ⟨by rfl, rfl⟩) hHeld ?_; try simp only [Act.put, List.setIfInBounds_toArray, List.set_cons_zero, List.set_cons_succ]
  refine wpAnyH_take (i := 7) (v := undef) (by simp only [List.getElem?_toArray, List.getElem?_cons_succ, List.getElem?_cons_zero]; rfl) (by kernel_rfl) (by kernel_rfl) (by kernel_rfl) (by exact fun _ _ _ h => h) (Or.inr ⟨by rfl, rfl⟩) hHeld ?_; try simp only [Act.put, List.setIfInBounds_toArray, List.set_cons_zero, List.set_cons_succ]
  refine wpAnyH_take (i := 8) (v := undef) (by simp only [List.getElem?_toArray, List.getElem?_cons_succ, List.getElem?_cons_zero]; rfl) (by kernel_rfl) (by kernel_rfl) (by kernel_rfl) (by exact fun _ _ _ h => h) (Or.inr ⟨by rfl, rfl⟩) hHeld ?_; try simp only [Act.put, List.setIfInBounds_toArray, List.set_cons_zero, List.set_cons_succ]
  refine wpAnyH_take (i := 9) (v := undef) (by simp only [List.getElem?_toArray, List.getElem?_cons_succ, List.getElem?_cons_zero]; rfl) (by kernel_rfl) (by kernel_rfl) (by kernel_rfl) (by exact fun _ _ _ h => h) (Or.inr ⟨by rfl, rfl⟩) hHeld ?_; try simp only [Act.put, List.setIfInBounds_toArray, List.set_cons_zero, List.set_cons_succ]
  refine wpAnyH_take (i := 10) (v := undef) (by simp only [List.getElem?_toArray, List.getElem?_cons_succ, List.getElem?_cons_zero]; rfl) (by kernel_rfl) (by kernel_rfl) (by kernel_rfl) (by exact fun _ _ _ h => h) (Or.inr ⟨by rfl, rfl⟩) hHeld ?_; try simp only [Act.put, List.setIfInBounds_toArray, List.set_cons_zero, List.set_cons_succ]
  refine wpAnyH_take (i := 11) (v := ?v22) (by simp only [List.getElem?_toArray, List.getElem?_cons_succ, List.getElem?_cons_zero]; rfl) (by kernel_rfl) (by kernel_rfl) (by kernel_rfl) (by exact fun _ _ _ h => h) (Or.inl ⟨by rfl, ?h22⟩) hHeld ?r22
  case h22 => (intro w hSw; (try dsimp only at hSw); (first | (go_simp; done) | (go_simp; with_reducible rfl)))
  try simp only [Act.put, List.setIfInBounds_toArray, List.set_cons_zero, List.set_cons_succ]
  refine wpAnyH_take (i := 12) (v := ?v23) (by simp only [List.getElem?_toArray, List.getElem?_cons_succ, List.getElem?_cons_zero]; rfl) (by kernel_rfl) (by kernel_rfl) (by kernel_rfl) (by exact fun _ _ _ h => h) (Or.inl ⟨by rfl, ?h23⟩) hHeld ?r23
  case h23 => (intro w hSw; (try dsimp only at hSw); (first | (go_simp; done) | (go_simp; with_reducible rfl)))
  try simp only [Act.put, List.setIfInBounds_toArray, List.set_cons_zero, List.set_cons_succ]
  refine wpAnyH_done (by kernel_rfl) ?_ _
  clear hHeld
  go_wp2_with fail
  go_ret
  exact ⟨rfl, S10.out.2.2.2.2.2⟩
set_option maxRecDepth 100000 in
set_option maxHeartbeats 2000000 in
theorem zintTexts_1s (w : World) (ht : Tab w) {a : Value} {pa : Bool} {xa : List Nat} (ha : Zl w a pa xa) (s : ByteArray) (hs : s.size ≤ 9223372036854775807) (hn : parseErr (cutS s).2.data.toList = 1) (la : xa.length ≤ 12) :
    Calls Tryz.prog 4 #[.string s, a] w fun e w' => e = .returned (.bool true) ∧ Below w.heap.size w w' := by
  obtain ⟨z, hz⟩ : ∃ z, z = sg pa (val WB xa) := ⟨_, rfl⟩
  have hza := ha.zn la
  rw [← hz] at hza
  obtain ⟨tx, htx⟩ : ∃ tx, textZ z = tx := ⟨_, rfl⟩
  have HG := Lib.hid (And.intro la (And.intro hz htx))
  clear htx
  have hzl := ha
  obtain ⟨rz, hrz⟩ : ∃ rz, readZ s = rz := ⟨_, rfl⟩
  have HN := Lib.hid (And.intro hn (And.intro hs (And.intro hrz (show rz.natAbs < WB ^ 200 by rw [← hrz]; exact read_abs s))))
  have HZ := Lib.hid (show rz = 0 by rw [← hrz]; exact read_zero (by rw [hn]; decide))
  obtain ⟨Aa, na, ca, rfl, ea, ha⟩ := ha.parts
  have S0 := Lib.hid (And.intro (ht) (And.intro (hzl) (And.intro (hza) (Below.refl w.heap.size w))))
  clear ht hzl ha ea hn hs hrz hza la hz
  go_enter Tryz.func4, Tryz.ntmps4
  go_upto_region 1 with (fail)
  obtain ⟨h0, hb⟩ := box1 w 24 (.bool pa) (.slice Aa na ca)
  have S1 := Lib.hid (And.intro (S0.out.1.keep (hb)) (And.intro (S0.out.2.1.keep (hb)) (And.intro (S0.out.2.2.1.keep (hb)) (And.intro (h0) (below_trans (S0.out.2.2.2) (hb))))))
  clear hb h0 S0
  generalize w.alloc _ = W0 at S1 ⊢
  go_wp2_with fail
  refine (speaks_z _ S1.out.1).mono ?_; rintro e w2 ⟨rfl, hb⟩
  have S2 := Lib.hid (And.intro (S1.out.1.keep (hb)) (And.intro (S1.out.2.1.keep (hb)) (And.intro (S1.out.2.2.1.keep (hb)) (And.intro (S1.out.2.2.2.1.keep (hb)) (below_trans (S1.out.2.2.2.2) (hb))))))
  clear hb  S1
  go_wp2_with fail
  refine (parse_z s _ HN.out.2.1).mono ?_; rintro e w3 ⟨v1, rfl, h, hb⟩
  rw [HN.out.1]
  rw [HN.out.2.2.1] at h
  obtain ⟨px, Ax, lx, cx, rfl⟩ := h.parts
  have S3 := Lib.hid (And.intro (S2.out.1.keep (hb)) (And.intro (S2.out.2.1.keep (hb)) (And.intro (S2.out.2.2.1.keep (hb)) (And.intro (S2.out.2.2.2.1.keep (hb)) (And.intro (h) (below_trans (S2.out.2.2.2.2) (hb)))))))
  clear h hb  S2
  go_upto_region 4 with (fail)
  obtain ⟨h0, hb⟩ := box1 w3 24 (.bool px) (.slice Ax lx cx)
  obtain ⟨gx, hgx⟩ : ∃ g, g = w3.heap.size := ⟨_, rfl⟩
  have S4 := Lib.hid (And.intro (S3.out.1.keep (hb)) (And.intro (S3.out.2.1.keep (hb)) (And.intro (S3.out.2.2.1.keep (hb)) (And.intro (S3.out.2.2.2.1.keep (hb)) (And.intro (S3.out.2.2.2.2.1.keep (hb)) (And.intro (h0) (below_trans (S3.out.2.2.2.2.2) (hb))))))))
  clear hb h0 S3
  generalize (w3.alloc _) = Wx at S4 ⊢
  rw [← hgx] at S4 ⊢
  clear hgx
  go_wp2_with fail
  refine (I.parse_d s _ HN.out.2.1).mono ?_; rintro e w5 ⟨v1, rfl, h, hb⟩
  rw [HN.out.1]
  rw [HN.out.2.2.1] at h
  obtain ⟨pd, Ad, ld, cd, rfl⟩ := Zd.pat h
  have S5 := Lib.hid (And.intro (S4.out.1.keep (hb)) (And.intro (S4.out.2.1.keep (hb)) (And.intro (S4.out.2.2.1.keep (hb)) (And.intro (S4.out.2.2.2.1.keep (hb)) (And.intro (S4.out.2.2.2.2.1.keep (hb)) (And.intro (S4.out.2.2.2.2.2.1.keep (hb)) (And.intro (h) (below_trans (S4.out.2.2.2.2.2.2) (hb)))))))))
  clear h hb  S4
  go_upto_region 5 with (fail)
  obtain ⟨h0, hb⟩ := box1 w5 33 (.bool pd) (.slice Ad ld cd)
  obtain ⟨gd, hgd⟩ : ∃ g, g = w5.heap.size := ⟨_, rfl⟩
  have S6 := Lib.hid (And.intro (S5.out.1.keep (hb)) (And.intro (S5.out.2.1.keep (hb)) (And.intro (S5.out.2.2.1.keep (hb)) (And.intro (S5.out.2.2.2.1.keep (hb)) (And.intro (S5.out.2.2.2.2.1.keep (hb)) (And.intro (S5.out.2.2.2.2.2.1.keep (hb)) (And.intro (S5.out.2.2.2.2.2.2.1.keep (hb)) (And.intro (h0) (below_trans (S5.out.2.2.2.2.2.2.2) (hb))))))))))
  clear hb h0 S5
  generalize w5.alloc _ = Wd at S6 ⊢
  rw [← hgd] at S6 ⊢
  clear hgd
  go_upto_region 5 with (fail)
  have S7 := Lib.hid (And.intro (S6.out.1.keep (below_dr _ 1)) (And.intro (S6.out.2.1.keep (below_dr _ 1)) (And.intro (S6.out.2.2.1.keep (below_dr _ 1)) (And.intro (S6.out.2.2.2.1.keep (below_dr _ 1)) (And.intro (S6.out.2.2.2.2.1.keep (below_dr _ 1)) (And.intro (S6.out.2.2.2.2.2.1.keep (below_dr _ 1)) (And.intro (S6.out.2.2.2.2.2.2.1.keep (below_dr _ 1)) (And.intro (S6.out.2.2.2.2.2.2.2.1.keep (below_dr _ 1)) (below_trans (S6.out.2.2.2.2.2.2.2.2) (below_dr _ 1))))))))))
  refine wp_region_held_drew (S := fun W => W.cell? ⟨gx, 0, none⟩ = some (.bool px) ∧ W.cell? ⟨gx, 1, none⟩ = some (.slice Ax lx cx) ∧ W.cell? ⟨gd, 0, none⟩ = some (.bool pd) ∧ W.cell? ⟨gd, 1, none⟩ = some (.slice Ad ld cd)) (by kernel_rfl) ⟨S7.out.2.2.2.2.2.1.facts.1, S7.out.2.2.2.2.2.1.facts.2.1, S7.out.2.2.2.2.2.2.2.1.facts.1, S7.out.2.2.2.2.2.2.2.1.facts.2.1⟩ (fun hHeld => ?_)
  refine wpAnyH_take (i := 0) (v := ?v1) (by simp only [List.getElem?_toArray, List.getElem?_cons_succ, List.getElem?_cons_zero]; rfl) (by kernel_rfl) (by kernel_rfl) (by kernel_rfl) (by exact fun _ _ _ h => h) (Or.inl ⟨by rfl, ?h1⟩) hHeld ?r1
  case h1 => (intro w hSw; (try dsimp only at hSw); (first | (go_simp; done) | (go_simp; with_reducible rfl)))
  try simp only [Act.put, List.setIfInBounds_toArray, List.set_cons_zero, List.set_cons_succ]
  refine wpAnyH_take (i := 1) (v := ?v2) (by simp only [List.getElem?_toArray, List.getElem?_cons_succ, List.getElem?_cons_zero]; rfl) (by kernel_rfl) (by kernel_rfl) (by kernel_rfl) (by exact fun _ _ _ h => h) (Or.inl ⟨by rfl, ?h2⟩) hHeld ?r2
  case h2 => (intro w hSw; (try dsimp only at hSw); (first | (go_simp; done) | (go_simp; with_reducible rfl)))
  try simp only [Act.put, List.setIfInBounds_toArray, List.set_cons_zero, List.set_cons_succ]
  refine wpAnyH_take (i := 2) (v := ?v3) (by simp only [List.getElem?_toArray, List.getElem?_cons_succ, List.getElem?_cons_zero]; rfl) (by kernel_rfl) (by kernel_rfl) (by kernel_rfl) (by exact fun _ _ _ h => h) (Or.inl ⟨by rfl, ?h3⟩) hHeld ?r3
  case h3 => (intro w hSw; (try dsimp only at hSw); (first | (go_simp; done) | (go_simp; with_reducible rfl)))
  try simp only [Act.put, List.setIfInBounds_toArray, List.set_cons_zero, List.set_cons_succ]
  refine wpAnyH_take (i := 3) (v := ?v4) (by simp only [List.getElem?_toArray, List.getElem?_cons_succ, List.getElem?_cons_zero]; rfl) (by kernel_rfl) (by kernel_rfl) (by kernel_rfl) (by exact fun _ _ _ h => h) (Or.inl ⟨by rfl, ?h4⟩) hHeld ?r4
  case h4 => (intro w hSw; (try dsimp only at hSw); (first | (go_simp; done) | (go_simp; with_reducible rfl)))
  try simp only [Act.put, List.setIfInBounds_toArray, List.set_cons_zero, List.set_cons_succ]
  refine wpAnyH_take (i := 4) (v := ?v5) (by simp only [List.getElem?_toArray, List.getElem?_cons_succ, List.getElem?_cons_zero]; rfl) (by kernel_rfl) (by kernel_rfl) (by kernel_rfl) (by exact fun _ _ _ h => h) (Or.inl ⟨by rfl, ?h5⟩) hHeld ?r5
  case h5 => (intro w hSw; (try dsimp only at hSw); (first | (go_simp; done) | (go_simp; with_reducible rfl)))
  try simp only [Act.put, List.setIfInBounds_toArray, List.set_cons_zero, List.set_cons_succ]
  refine wpAnyH_take (i := 5) (v := ?v6) (by simp only [List.getElem?_toArray, List.getElem?_cons_succ, List.getElem?_cons_zero]; rfl) (by kernel_rfl) (by kernel_rfl) (by kernel_rfl) (by exact fun _ _ _ h => h) (Or.inl ⟨by rfl, ?h6⟩) hHeld ?r6
  case h6 => (intro w hSw; (try dsimp only at hSw); (first | (go_simp; done) | (go_simp; with_reducible rfl)))
  try simp only [Act.put, List.setIfInBounds_toArray, List.set_cons_zero, List.set_cons_succ]
  refine wpAnyH_take (i := 6) (v := ?v7) (by simp only [List.getElem?_toArray, List.getElem?_cons_succ, List.getElem?_cons_zero]; rfl) (by kernel_rfl) (by kernel_rfl) (by kernel_rfl) (by exact fun _ _ _ h => h) (Or.inl ⟨by rfl, ?h7⟩) hHeld ?r7
  case h7 => (intro w hSw; (try dsimp only at hSw); (first | (go_simp; done) | (go_simp; with_reducible rfl)))
  try simp only [Act.put, List.setIfInBounds_toArray, List.set_cons_zero, List.set_cons_succ]
  refine wpAnyH_take (i := 7) (v := undef) (by simp only [List.getElem?_toArray, List.getElem?_cons_succ, List.getElem?_cons_zero]; rfl) (by kernel_rfl) (by kernel_rfl) (by kernel_rfl) (by exact fun _ _ _ h => h) (Or.inr ⟨by rfl, rfl⟩) hHeld ?_; try simp only [Act.put, List.setIfInBounds_toArray, List.set_cons_zero, List.set_cons_succ]
  refine wpAnyH_take (i := 8) (v := undef) (by simp only [List.getElem?_toArray, List.getElem?_cons_succ, List.getElem?_cons_zero]; rfl) (by kernel_rfl) (by kernel_rfl) (by kernel_rfl) (by exact fun _ _ _ h => h) (Or.inr ⟨by rfl, rfl⟩) hHeld ?_; try simp only [Act.put, List.setIfInBounds_toArray, List.set_cons_zero, List.set_cons_succ]
  refine wpAnyH_take (i := 9) (v := undef) (by simp only [List.getElem?_toArray, List.getElem?_cons_succ, List.getElem?_cons_zero]; rfl) (by kernel_rfl) (by kernel_rfl) (by kernel_rfl) (by exact fun _ _ _ h => h) (Or.inr ⟨by rfl, rfl⟩) hHeld ?_; try simp only [Act.put, List.setIfInBounds_toArray, List.set_cons_zero, List.set_cons_succ]
  refine wpAnyH_take (i := 10) (v := undef) (by simp only [List.getElem?_toArray, List.getElem?_cons_succ, List.getElem?_cons_zero]; rfl) (by kernel_rfl) (by kernel_rfl) (by kernel_rfl) (by exact fun _ _ _ h => h) (Or.inr ⟨by rfl, rfl⟩) hHeld ?_; try simp only [Act.put, List.setIfInBounds_toArray, List.set_cons_zero, List.set_cons_succ]
  refine wpAnyH_take (i := 11) (v := undef) (by simp only [List.getElem?_toArray, List.getElem?_cons_succ, List.getElem?_cons_zero]; rfl) (by kernel_rfl) (by kernel_rfl) (by kernel_rfl) (by exact fun _ _ _ h => h) (Or.inr ⟨by rfl, rfl⟩) hHeld ?_; try simp only [Act.put, List.setIfInBounds_toArray, List.set_cons_zero, List.set_cons_succ]
  refine wpAnyH_take (i := 12) (v := ?v8) (by simp only [List.getElem?_toArray, List.getElem?_cons_succ, List.getElem?_cons_zero]; rfl) (by kernel_rfl) (by kernel_rfl) (by kernel_rfl) (by exact fun _ _ _ h => h) (Or.inl ⟨by rfl, ?h8⟩) hHeld ?r8
  case h8 => (intro w hSw; (try dsimp only at hSw); (first | (go_simp; done) | (go_simp; with_reducible rfl)))
  try simp only [Act.put, List.setIfInBounds_toArray, List.set_cons_zero, List.set_cons_succ]
  refine wpAnyH_take (i := 13) (v := ?v9) (by simp only [List.getElem?_toArray, List.getElem?_cons_succ, List.getElem?_cons_zero]; rfl) (by kernel_rfl) (by kernel_rfl) (by kernel_rfl) (by exact fun _ _ _ h => h) (Or.inl ⟨by rfl, ?h9⟩) hHeld ?r9
  case h9 => (intro w hSw; (try dsimp only at hSw); (first | (go_simp; done) | (go_simp; with_reducible rfl)))
  try simp only [Act.put, List.setIfInBounds_toArray, List.set_cons_zero, List.set_cons_succ]
  refine wpAnyH_take (i := 14) (v := ?v10) (by simp only [List.getElem?_toArray, List.getElem?_cons_succ, List.getElem?_cons_zero]; rfl) (by kernel_rfl) (by kernel_rfl) (by kernel_rfl) (by exact fun _ _ _ h => h) (Or.inl ⟨by rfl, ?h10⟩) hHeld ?r10
  case h10 => (intro w hSw; (try dsimp only at hSw); (first | (go_simp; done) | (go_simp; with_reducible rfl)))
  try simp only [Act.put, List.setIfInBounds_toArray, List.set_cons_zero, List.set_cons_succ]
  refine wpAnyH_take (i := 15) (v := ?v11) (by simp only [List.getElem?_toArray, List.getElem?_cons_succ, List.getElem?_cons_zero]; rfl) (by kernel_rfl) (by kernel_rfl) (by kernel_rfl) (by exact fun _ _ _ h => h) (Or.inl ⟨by rfl, ?h11⟩) hHeld ?r11
  case h11 => (intro w hSw; (try dsimp only at hSw); (first | (go_simp; done) | (go_simp; with_reducible rfl)))
  try simp only [Act.put, List.setIfInBounds_toArray, List.set_cons_zero, List.set_cons_succ]
  refine wpAnyH_take (i := 16) (v := ?v12) (by simp only [List.getElem?_toArray, List.getElem?_cons_succ, List.getElem?_cons_zero]; rfl) (by kernel_rfl) (by kernel_rfl) (by kernel_rfl) (by exact fun _ _ _ h => h) (Or.inl ⟨by rfl, ?h12⟩) hHeld ?r12
  case h12 => (intro w hSw; (try dsimp only at hSw); (first | (go_simp; done) | (go_simp; with_reducible rfl)))
  try simp only [Act.put, List.setIfInBounds_toArray, List.set_cons_zero, List.set_cons_succ]
  refine wpAnyH_take (i := 17) (v := ?v13) (by simp only [List.getElem?_toArray, List.getElem?_cons_succ, List.getElem?_cons_zero]; rfl) (by kernel_rfl) (by kernel_rfl) (by kernel_rfl) (by exact fun _ _ _ h => h) (Or.inl ⟨by rfl, ?h13⟩) hHeld ?r13
  case h13 => (intro w hSw; (try dsimp only at hSw); (first | (go_simp; done) | (go_simp; with_reducible rfl)))
  try simp only [Act.put, List.setIfInBounds_toArray, List.set_cons_zero, List.set_cons_succ]
  refine wpAnyH_take (i := 18) (v := ?v14) (by simp only [List.getElem?_toArray, List.getElem?_cons_succ, List.getElem?_cons_zero]; rfl) (by kernel_rfl) (by kernel_rfl) (by kernel_rfl) (by exact fun _ _ _ h => h) (Or.inl ⟨by rfl, ?h14⟩) hHeld ?r14
  case h14 => (intro w hSw; (try dsimp only at hSw); (first | (go_simp; done) | (go_simp; with_reducible rfl)))
  try simp only [Act.put, List.setIfInBounds_toArray, List.set_cons_zero, List.set_cons_succ]
  refine wpAnyH_take (i := 19) (v := ?v15) (by simp only [List.getElem?_toArray, List.getElem?_cons_succ, List.getElem?_cons_zero]; rfl) (by kernel_rfl) (by kernel_rfl) (by kernel_rfl) (by exact fun _ _ _ h => h) (Or.inl ⟨by rfl, ?h15⟩) hHeld ?r15
  case h15 => (intro w hSw; (try dsimp only at hSw); (first | (go_simp; done) | (go_simp; with_reducible rfl)))
  try simp only [Act.put, List.setIfInBounds_toArray, List.set_cons_zero, List.set_cons_succ]
  refine wpAnyH_ready (rs := [20]) (by kernel_rfl) (by simp) (AllReadyH.cons (by simp only [List.getElem?_toArray, List.getElem?_cons_succ, List.getElem?_cons_zero]; rfl) (fun K hK => ?_) AllReadyH.nil)
  go_simp
  go_at_call 18; refine (same_zo S7.out.2.2.2.2.1 (nil_zo _) HZ.out).mono ?_; rintro e w8 ⟨rfl, hb⟩
  have S8 := Lib.hid (And.intro (S7.out.1.keep (hb)) (And.intro (S7.out.2.1.keep (hb)) (And.intro (S7.out.2.2.1.keep (hb)) (And.intro (S7.out.2.2.2.1.keep (hb)) (And.intro (S7.out.2.2.2.2.2.1.keep (hb)) (And.intro (S7.out.2.2.2.2.2.2.2.1.keep (hb)) (below_trans (S7.out.2.2.2.2.2.2.2.2) (hb))))))))
  have hN : w8.cell? ⟨gx, 0, none⟩ = some (.bool px) ∧ w8.cell? ⟨gx, 1, none⟩ = some (.slice Ax lx cx) ∧ w8.cell? ⟨gd, 0, none⟩ = some (.bool pd) ∧ w8.cell? ⟨gd, 1, none⟩ = some (.slice Ad ld cd) := ⟨S8.out.2.2.2.2.1.facts.1, S8.out.2.2.2.2.1.facts.2.1, S8.out.2.2.2.2.2.1.facts.1, S8.out.2.2.2.2.2.1.facts.2.1⟩
  clear hb hHeld
  go_wp2_with fail
  refine hK.out _ _ hN (fun hHeld => ?_); clear hK K hN; try simp only [Act.put, List.setIfInBounds_toArray, List.set_cons_zero, List.set_cons_succ]
  refine wpAnyH_take (i := 21) (v := ?v16) (by simp only [List.getElem?_toArray, List.getElem?_cons_succ, List.getElem?_cons_zero]; rfl) (by kernel_rfl) (by kernel_rfl) (by kernel_rfl) (by exact fun _ _ _ h => h) (Or.inl ⟨by rfl, ?h16⟩) hHeld ?r16
  case h16 => (intro w hSw; (try dsimp only at hSw); (first | (go_simp; done) | (go_simp; with_reducible rfl)))
  try simp only [Act.put, List.setIfInBounds_toArray, List.set_cons_zero, List.set_cons_succ]
  refine wpAnyH_take (i := 22) (v := ?v17) (by simp only [List.getElem?_toArray, List.getElem?_cons_succ, List.getElem?_cons_zero]; rfl) (by kernel_rfl) (by kernel_rfl) (by kernel_rfl) (by exact fun _ _ _ h => h) (Or.inl ⟨by rfl, ?h17⟩) hHeld ?r17
  case h17 => (intro w hSw; (try dsimp only at hSw); (first | (go_simp; done) | (go_simp; with_reducible rfl)))
  try simp only [Act.put, List.setIfInBounds_toArray, List.set_cons_zero, List.set_cons_succ]
  refine wpAnyH_take (i := 23) (v := ?v18) (by simp only [List.getElem?_toArray, List.getElem?_cons_succ, List.getElem?_cons_zero]; rfl) (by kernel_rfl) (by kernel_rfl) (by kernel_rfl) (by exact fun _ _ _ h => h) (Or.inl ⟨by rfl, ?h18⟩) hHeld ?r18
  case h18 => (intro w hSw; (try dsimp only at hSw); (first | (go_simp; done) | (go_simp; with_reducible rfl)))
  try simp only [Act.put, List.setIfInBounds_toArray, List.set_cons_zero, List.set_cons_succ]
  refine wpAnyH_done (by kernel_rfl) ?_ _
  clear hHeld
  go_upto_region 7 with (fail)
  have S9 := Lib.hid (And.intro (S8.out.1.keep (below_dr _ 1)) (And.intro (S8.out.2.1.keep (below_dr _ 1)) (And.intro (S8.out.2.2.1.keep (below_dr _ 1)) (And.intro (S8.out.2.2.2.1.keep (below_dr _ 1)) (And.intro (S8.out.2.2.2.2.1.keep (below_dr _ 1)) (And.intro (S8.out.2.2.2.2.2.1.keep (below_dr _ 1)) (below_trans (S8.out.2.2.2.2.2.2) (below_dr _ 1))))))))
  have HS0 : (w8.drewN 1).cell? ⟨w.heap.size, 0, none⟩ = some (.bool pa) ∧ (w8.drewN 1).cell? ⟨w.heap.size, 1, none⟩ = some (.slice Aa na ca) := ⟨S9.out.2.2.2.1.facts.1, S9.out.2.2.2.1.facts.2.1⟩
  have HS1 := HS0
  have HS2 := HS0
  have HS3 := HS0
  have HS4 := HS0
  have HS5 := HS0
  go_region_held3 (fun W => W.cell? ⟨w.heap.size, 0, none⟩ = some (.bool pa) ∧ W.cell? ⟨w.heap.size, 1, none⟩ = some (.slice Aa na ca)) (first | with_reducible exact HS1 | with_reducible exact HS2 | with_reducible exact HS3 | with_reducible exact HS4 | with_reducible exact HS5 | exact HS0)
    (first
      | (have hst := S13; clear hst; go_at_call 25; refine (I.text_d S13.out.2.2.2.2.2.2.1 (by decide)).mono ?_; rintro e w14 ⟨rfl, hb⟩; rw [HG.out.2.2]; have S14 := Lib.hid (And.intro (S13.out.1.keep (hb)) (And.intro (S13.out.2.1.keep (hb)) (And.intro (S13.out.2.2.1.keep (hb)) (And.intro (S13.out.2.2.2.1.keep (hb)) (And.intro (S13.out.2.2.2.2.1.keep (hb)) (And.intro (S13.out.2.2.2.2.2.1.keep (hb)) (below_trans (S13.out.2.2.2.2.2.2.2) (hb)))))))); have HS5 : w14.cell? ⟨w.heap.size, 0, none⟩ = some (.bool pa) ∧ w14.cell? ⟨w.heap.size, 1, none⟩ = some (.slice Aa na ca) := ⟨S14.out.2.2.2.1.facts.1, S14.out.2.2.2.1.facts.2.1⟩; clear hb)
      | (have hst := S12; clear hst; go_at_call 16; refine (I.of_d S12.out.2.2.1 (by decide)).mono ?_; rintro e w13 ⟨v, rfl, h, hb⟩; have S13 := Lib.hid (And.intro (S12.out.1.keep (hb)) (And.intro (S12.out.2.1.keep (hb)) (And.intro (S12.out.2.2.1.keep (hb)) (And.intro (S12.out.2.2.2.1.keep (hb)) (And.intro (S12.out.2.2.2.2.1.keep (hb)) (And.intro (S12.out.2.2.2.2.2.1.keep (hb)) (And.intro (h) (below_trans (S12.out.2.2.2.2.2.2) (hb))))))))); have HS4 : w13.cell? ⟨w.heap.size, 0, none⟩ = some (.bool pa) ∧ w13.cell? ⟨w.heap.size, 1, none⟩ = some (.slice Aa na ca) := ⟨S13.out.2.2.2.1.facts.1, S13.out.2.2.2.1.facts.2.1⟩; clear h hb)
      | (have hst := S11; clear hst; go_at_call 24; refine (text_z S11.out.1 S11.out.2.2.2.2.2.2.1 (by decide)).mono ?_; rintro e w12 ⟨rfl, hb⟩; rw [← HG.out.2.1, HG.out.2.2]; have S12 := Lib.hid (And.intro (S11.out.1.keep (hb)) (And.intro (S11.out.2.1.keep (hb)) (And.intro (S11.out.2.2.1.keep (hb)) (And.intro (S11.out.2.2.2.1.keep (hb)) (And.intro (S11.out.2.2.2.2.1.keep (hb)) (And.intro (S11.out.2.2.2.2.2.1.keep (hb)) (below_trans (S11.out.2.2.2.2.2.2.2) (hb)))))))); have HS3 : w12.cell? ⟨w.heap.size, 0, none⟩ = some (.bool pa) ∧ w12.cell? ⟨w.heap.size, 1, none⟩ = some (.slice Aa na ca) := ⟨S12.out.2.2.2.1.facts.1, S12.out.2.2.2.1.facts.2.1⟩; clear hb)
      | (have hst := S10; clear hst; go_at_call 14; refine (copy_z S10.out.2.1 (by have := HG.out.1; omega)).mono ?_; rintro e w11 ⟨v, rfl, h, hb⟩; have S11 := Lib.hid (And.intro (S10.out.1.keep (hb)) (And.intro (S10.out.2.1.keep (hb)) (And.intro (S10.out.2.2.1.keep (hb)) (And.intro (S10.out.2.2.2.1.keep (hb)) (And.intro (S10.out.2.2.2.2.1.keep (hb)) (And.intro (S10.out.2.2.2.2.2.1.keep (hb)) (And.intro (h.zn HG.out.1) (below_trans (S10.out.2.2.2.2.2.2) (hb))))))))); have HS2 : w11.cell? ⟨w.heap.size, 0, none⟩ = some (.bool pa) ∧ w11.cell? ⟨w.heap.size, 1, none⟩ = some (.slice Aa na ca) := ⟨S11.out.2.2.2.1.facts.1, S11.out.2.2.2.1.facts.2.1⟩; clear h hb)
      | (have hst := S9; clear hst; go_at_call 13; refine (big_no S9.out.2.1 S9.out.2.1 HG.out.1 HG.out.1).mono ?_; rintro e w10 ⟨rfl, hb⟩; have S10 := Lib.hid (And.intro (S9.out.1.keep (hb)) (And.intro (S9.out.2.1.keep (hb)) (And.intro (S9.out.2.2.1.keep (hb)) (And.intro (S9.out.2.2.2.1.keep (hb)) (And.intro (S9.out.2.2.2.2.1.keep (hb)) (And.intro (S9.out.2.2.2.2.2.1.keep (hb)) (below_trans (S9.out.2.2.2.2.2.2) (hb)))))))); have HS1 : w10.cell? ⟨w.heap.size, 0, none⟩ = some (.bool pa) ∧ w10.cell? ⟨w.heap.size, 1, none⟩ = some (.slice Aa na ca) := ⟨S10.out.2.2.2.1.facts.1, S10.out.2.2.2.1.facts.2.1⟩; clear hb))
  clear HS0 HS1 HS2 HS3 HS4 HS5
  go_wp2_with fail
  go_ret
  exact ⟨rfl, S14.out.2.2.2.2.2.2⟩
set_option maxRecDepth 100000 in
set_option maxHeartbeats 2000000 in
theorem zintTexts_5b (w : World) (ht : Tab w) {a : Value} {pa : Bool} {xa : List Nat} (ha : Zl w a pa xa) (s : ByteArray) (hs : s.size ≤ 9223372036854775807) (hn : parseErr (cutS s).2.data.toList = 5) (hg : ¬ (xa.length ≤ 12 ∧ xa.length ≤ 12)) :
    Calls Tryz.prog 4 #[.string s, a] w fun e w' => e = .returned (.bool true) ∧ Below w.heap.size w w' := by
  have HG := Lib.hid hg
  have hzl := ha
  clear hg
  obtain ⟨rz, hrz⟩ : ∃ rz, readZ s = rz := ⟨_, rfl⟩
  have HN := Lib.hid (And.intro hn (And.intro hs (And.intro hrz (show rz.natAbs < WB ^ 200 by rw [← hrz]; exact read_abs s))))
  have HZ := Lib.hid (show rz = 0 by rw [← hrz]; exact read_zero (by rw [hn]; decide))
  obtain ⟨Aa, na, ca, rfl, ea, ha⟩ := ha.parts
  have S0 := Lib.hid (And.intro (ht) (And.intro (hzl) (Below.refl w.heap.size w)))
  clear ht hzl ha ea hn hs hrz 
  go_enter Tryz.func4, Tryz.ntmps4
  go_upto_region 1 with (fail)
  obtain ⟨h0, hb⟩ := box1 w 24 (.bool pa) (.slice Aa na ca)
  have S1 := Lib.hid (And.intro (S0.out.1.keep (hb)) (And.intro (S0.out.2.1.keep (hb)) (And.intro (h0) (below_trans (S0.out.2.2) (hb)))))
  clear hb h0 S0
  generalize w.alloc _ = W0 at S1 ⊢
  go_wp2_with fail
  refine (speaks_z _ S1.out.1).mono ?_; rintro e w2 ⟨rfl, hb⟩
  have S2 := Lib.hid (And.intro (S1.out.1.keep (hb)) (And.intro (S1.out.2.1.keep (hb)) (And.intro (S1.out.2.2.1.keep (hb)) (below_trans (S1.out.2.2.2) (hb)))))
  clear hb  S1
  go_wp2_with fail
  refine (parse_z s _ HN.out.2.1).mono ?_; rintro e w3 ⟨v1, rfl, h, hb⟩
  rw [HN.out.1]
  rw [HN.out.2.2.1] at h
  obtain ⟨px, Ax, lx, cx, rfl⟩ := h.parts
  have S3 := Lib.hid (And.intro (S2.out.1.keep (hb)) (And.intro (S2.out.2.1.keep (hb)) (And.intro (S2.out.2.2.1.keep (hb)) (And.intro (h) (below_trans (S2.out.2.2.2) (hb))))))
  clear h hb  S2
  go_upto_region 4 with (fail)
  obtain ⟨h0, hb⟩ := box1 w3 24 (.bool px) (.slice Ax lx cx)
  obtain ⟨gx, hgx⟩ : ∃ g, g = w3.heap.size := ⟨_, rfl⟩
  have S4 := Lib.hid (And.intro (S3.out.1.keep (hb)) (And.intro (S3.out.2.1.keep (hb)) (And.intro (S3.out.2.2.1.keep (hb)) (And.intro (S3.out.2.2.2.1.keep (hb)) (And.intro (h0) (below_trans (S3.out.2.2.2.2) (hb)))))))
  clear hb h0 S3
  generalize (w3.alloc _) = Wx at S4 ⊢
  rw [← hgx] at S4 ⊢
  clear hgx
  go_wp2_with fail
  refine (I.parse_d s _ HN.out.2.1).mono ?_; rintro e w5 ⟨v1, rfl, h, hb⟩
  rw [HN.out.1]
  rw [HN.out.2.2.1] at h
  obtain ⟨pd, Ad, ld, cd, rfl⟩ := Zd.pat h
  have S5 := Lib.hid (And.intro (S4.out.1.keep (hb)) (And.intro (S4.out.2.1.keep (hb)) (And.intro (S4.out.2.2.1.keep (hb)) (And.intro (S4.out.2.2.2.1.keep (hb)) (And.intro (S4.out.2.2.2.2.1.keep (hb)) (And.intro (h) (below_trans (S4.out.2.2.2.2.2) (hb))))))))
  clear h hb  S4
  go_upto_region 5 with (fail)
  obtain ⟨h0, hb⟩ := box1 w5 33 (.bool pd) (.slice Ad ld cd)
  obtain ⟨gd, hgd⟩ : ∃ g, g = w5.heap.size := ⟨_, rfl⟩
  have S6 := Lib.hid (And.intro (S5.out.1.keep (hb)) (And.intro (S5.out.2.1.keep (hb)) (And.intro (S5.out.2.2.1.keep (hb)) (And.intro (S5.out.2.2.2.1.keep (hb)) (And.intro (S5.out.2.2.2.2.1.keep (hb)) (And.intro (S5.out.2.2.2.2.2.1.keep (hb)) (And.intro (h0) (below_trans (S5.out.2.2.2.2.2.2) (hb)))))))))
  clear hb h0 S5
  generalize w5.alloc _ = Wd at S6 ⊢
  rw [← hgd] at S6 ⊢
  clear hgd
  go_upto_region 5 with (fail)
  have S7 := Lib.hid (And.intro (S6.out.1.keep (below_dr _ 1)) (And.intro (S6.out.2.1.keep (below_dr _ 1)) (And.intro (S6.out.2.2.1.keep (below_dr _ 1)) (And.intro (S6.out.2.2.2.1.keep (below_dr _ 1)) (And.intro (S6.out.2.2.2.2.1.keep (below_dr _ 1)) (And.intro (S6.out.2.2.2.2.2.1.keep (below_dr _ 1)) (And.intro (S6.out.2.2.2.2.2.2.1.keep (below_dr _ 1)) (below_trans (S6.out.2.2.2.2.2.2.2) (below_dr _ 1)))))))))
  refine wp_region_held_drew (S := fun W => W.cell? ⟨gx, 0, none⟩ = some (.bool px) ∧ W.cell? ⟨gx, 1, none⟩ = some (.slice Ax lx cx) ∧ W.cell? ⟨gd, 0, none⟩ = some (.bool pd) ∧ W.cell? ⟨gd, 1, none⟩ = some (.slice Ad ld cd)) (by kernel_rfl) ⟨S7.out.2.2.2.2.1.facts.1, S7.out.2.2.2.2.1.facts.2.1, S7.out.2.2.2.2.2.2.1.facts.1, S7.out.2.2.2.2.2.2.1.facts.2.1⟩ (fun hHeld => ?_)
  refine wpAnyH_take (i := 0) (v := ?v1) (by simp only [List.getElem?_toArray, List.getElem?_cons_succ, List.getElem?_cons_zero]; rfl) (by kernel_rfl) (by kernel_rfl) (by kernel_rfl) (by exact fun _ _ _ h => h) (Or.inl ⟨by rfl, ?h1⟩) hHeld ?r1
  case h1 => (intro w hSw; (try dsimp only at hSw); (first | (go_simp; done) | (go_simp; with_reducible rfl)))
  try simp only [Act.put, List.setIfInBounds_toArray, List.set_cons_zero, List.set_cons_succ]
  refine wpAnyH_take (i := 1) (v := ?v2) (by simp only [List.getElem?_toArray, List.getElem?_cons_succ, List.getElem?_cons_zero]; rfl) (by kernel_rfl) (by kernel_rfl) (by kernel_rfl) (by exact fun _ _ _ h => h) (Or.inl ⟨by rfl, ?h2⟩) hHeld ?r2
  case h2 => (intro w hSw; (try dsimp only at hSw); (first | (go_simp; done) | (go_simp; with_reducible rfl)))
  try simp only [Act.put, List.setIfInBounds_toArray, List.set_cons_zero, List.set_cons_succ]
  refine wpAnyH_take (i := 2) (v := ?v3) (by simp only [List.getElem?_toArray, List.getElem?_cons_succ, List.getElem?_cons_zero]; rfl) (by kernel_rfl) (by kernel_rfl) (by kernel_rfl) (by exact fun _ _ _ h => h) (Or.inl ⟨by rfl, ?h3⟩) hHeld ?r3
  case h3 => (intro w hSw; (try dsimp only at hSw); (first | (go_simp; done) | (go_simp; with_reducible rfl)))
  try simp only [Act.put, List.setIfInBounds_toArray, List.set_cons_zero, List.set_cons_succ]
  refine wpAnyH_take (i := 3) (v := ?v4) (by simp only [List.getElem?_toArray, List.getElem?_cons_succ, List.getElem?_cons_zero]; rfl) (by kernel_rfl) (by kernel_rfl) (by kernel_rfl) (by exact fun _ _ _ h => h) (Or.inl ⟨by rfl, ?h4⟩) hHeld ?r4
  case h4 => (intro w hSw; (try dsimp only at hSw); (first | (go_simp; done) | (go_simp; with_reducible rfl)))
  try simp only [Act.put, List.setIfInBounds_toArray, List.set_cons_zero, List.set_cons_succ]
  refine wpAnyH_take (i := 4) (v := ?v5) (by simp only [List.getElem?_toArray, List.getElem?_cons_succ, List.getElem?_cons_zero]; rfl) (by kernel_rfl) (by kernel_rfl) (by kernel_rfl) (by exact fun _ _ _ h => h) (Or.inl ⟨by rfl, ?h5⟩) hHeld ?r5
  case h5 => (intro w hSw; (try dsimp only at hSw); (first | (go_simp; done) | (go_simp; with_reducible rfl)))
  try simp only [Act.put, List.setIfInBounds_toArray, List.set_cons_zero, List.set_cons_succ]
  refine wpAnyH_take (i := 5) (v := ?v6) (by simp only [List.getElem?_toArray, List.getElem?_cons_succ, List.getElem?_cons_zero]; rfl) (by kernel_rfl) (by kernel_rfl) (by kernel_rfl) (by exact fun _ _ _ h => h) (Or.inl ⟨by rfl, ?h6⟩) hHeld ?r6
  case h6 => (intro w hSw; (try dsimp only at hSw); (first | (go_simp; done) | (go_simp; with_reducible rfl)))
  try simp only [Act.put, List.setIfInBounds_toArray, List.set_cons_zero, List.set_cons_succ]
  refine wpAnyH_take (i := 6) (v := ?v7) (by simp only [List.getElem?_toArray, List.getElem?_cons_succ, List.getElem?_cons_zero]; rfl) (by kernel_rfl) (by kernel_rfl) (by kernel_rfl) (by exact fun _ _ _ h => h) (Or.inl ⟨by rfl, ?h7⟩) hHeld ?r7
  case h7 => (intro w hSw; (try dsimp only at hSw); (first | (go_simp; done) | (go_simp; with_reducible rfl)))
  try simp only [Act.put, List.setIfInBounds_toArray, List.set_cons_zero, List.set_cons_succ]
  refine wpAnyH_take (i := 7) (v := undef) (by simp only [List.getElem?_toArray, List.getElem?_cons_succ, List.getElem?_cons_zero]; rfl) (by kernel_rfl) (by kernel_rfl) (by kernel_rfl) (by exact fun _ _ _ h => h) (Or.inr ⟨by rfl, rfl⟩) hHeld ?_; try simp only [Act.put, List.setIfInBounds_toArray, List.set_cons_zero, List.set_cons_succ]
  refine wpAnyH_take (i := 8) (v := undef) (by simp only [List.getElem?_toArray, List.getElem?_cons_succ, List.getElem?_cons_zero]; rfl) (by kernel_rfl) (by kernel_rfl) (by kernel_rfl) (by exact fun _ _ _ h => h) (Or.inr ⟨by rfl, rfl⟩) hHeld ?_; try simp only [Act.put, List.setIfInBounds_toArray, List.set_cons_zero, List.set_cons_succ]
  refine wpAnyH_take (i := 9) (v := undef) (by simp only [List.getElem?_toArray, List.getElem?_cons_succ, List.getElem?_cons_zero]; rfl) (by kernel_rfl) (by kernel_rfl) (by kernel_rfl) (by exact fun _ _ _ h => h) (Or.inr ⟨by rfl, rfl⟩) hHeld ?_; try simp only [Act.put, List.setIfInBounds_toArray, List.set_cons_zero, List.set_cons_succ]
  refine wpAnyH_take (i := 10) (v := undef) (by simp only [List.getElem?_toArray, List.getElem?_cons_succ, List.getElem?_cons_zero]; rfl) (by kernel_rfl) (by kernel_rfl) (by kernel_rfl) (by exact fun _ _ _ h => h) (Or.inr ⟨by rfl, rfl⟩) hHeld ?_; try simp only [Act.put, List.setIfInBounds_toArray, List.set_cons_zero, List.set_cons_succ]
  refine wpAnyH_take (i := 11) (v := undef) (by simp only [List.getElem?_toArray, List.getElem?_cons_succ, List.getElem?_cons_zero]; rfl) (by kernel_rfl) (by kernel_rfl) (by kernel_rfl) (by exact fun _ _ _ h => h) (Or.inr ⟨by rfl, rfl⟩) hHeld ?_; try simp only [Act.put, List.setIfInBounds_toArray, List.set_cons_zero, List.set_cons_succ]
  refine wpAnyH_take (i := 12) (v := ?v8) (by simp only [List.getElem?_toArray, List.getElem?_cons_succ, List.getElem?_cons_zero]; rfl) (by kernel_rfl) (by kernel_rfl) (by kernel_rfl) (by exact fun _ _ _ h => h) (Or.inl ⟨by rfl, ?h8⟩) hHeld ?r8
  case h8 => (intro w hSw; (try dsimp only at hSw); (first | (go_simp; done) | (go_simp; with_reducible rfl)))
  try simp only [Act.put, List.setIfInBounds_toArray, List.set_cons_zero, List.set_cons_succ]
  refine wpAnyH_take (i := 13) (v := ?v9) (by simp only [List.getElem?_toArray, List.getElem?_cons_succ, List.getElem?_cons_zero]; rfl) (by kernel_rfl) (by kernel_rfl) (by kernel_rfl) (by exact fun _ _ _ h => h) (Or.inl ⟨by rfl, ?h9⟩) hHeld ?r9
  case h9 => (intro w hSw; (try dsimp only at hSw); (first | (go_simp; done) | (go_simp; with_reducible rfl)))
  try simp only [Act.put, List.setIfInBounds_toArray, List.set_cons_zero, List.set_cons_succ]
  refine wpAnyH_take (i := 14) (v := ?v10) (by simp only [List.getElem?_toArray, List.getElem?_cons_succ, List.getElem?_cons_zero]; rfl) (by kernel_rfl) (by kernel_rfl) (by kernel_rfl) (by exact fun _ _ _ h => h) (Or.inl ⟨by rfl, ?h10⟩) hHeld ?r10
  case h10 => (intro w hSw; (try dsimp only at hSw); (first | (go_simp; done) | (go_simp; with_reducible rfl)))
  try simp only [Act.put, List.setIfInBounds_toArray, List.set_cons_zero, List.set_cons_succ]
  refine wpAnyH_take (i := 15) (v := ?v11) (by simp only [List.getElem?_toArray, List.getElem?_cons_succ, List.getElem?_cons_zero]; rfl) (by kernel_rfl) (by kernel_rfl) (by kernel_rfl) (by exact fun _ _ _ h => h) (Or.inl ⟨by rfl, ?h11⟩) hHeld ?r11
  case h11 => (intro w hSw; (try dsimp only at hSw); (first | (go_simp; done) | (go_simp; with_reducible rfl)))
  try simp only [Act.put, List.setIfInBounds_toArray, List.set_cons_zero, List.set_cons_succ]
  refine wpAnyH_take (i := 16) (v := ?v12) (by simp only [List.getElem?_toArray, List.getElem?_cons_succ, List.getElem?_cons_zero]; rfl) (by kernel_rfl) (by kernel_rfl) (by kernel_rfl) (by exact fun _ _ _ h => h) (Or.inl ⟨by rfl, ?h12⟩) hHeld ?r12
  case h12 => (intro w hSw; (try dsimp only at hSw); (first | (go_simp; done) | (go_simp; with_reducible rfl)))
  try simp only [Act.put, List.setIfInBounds_toArray, List.set_cons_zero, List.set_cons_succ]
  refine wpAnyH_take (i := 17) (v := ?v13) (by simp only [List.getElem?_toArray, List.getElem?_cons_succ, List.getElem?_cons_zero]; rfl) (by kernel_rfl) (by kernel_rfl) (by kernel_rfl) (by exact fun _ _ _ h => h) (Or.inl ⟨by rfl, ?h13⟩) hHeld ?r13
  case h13 => (intro w hSw; (try dsimp only at hSw); (first | (go_simp; done) | (go_simp; with_reducible rfl)))
  try simp only [Act.put, List.setIfInBounds_toArray, List.set_cons_zero, List.set_cons_succ]
  refine wpAnyH_take (i := 18) (v := ?v14) (by simp only [List.getElem?_toArray, List.getElem?_cons_succ, List.getElem?_cons_zero]; rfl) (by kernel_rfl) (by kernel_rfl) (by kernel_rfl) (by exact fun _ _ _ h => h) (Or.inl ⟨by rfl, ?h14⟩) hHeld ?r14
  case h14 => (intro w hSw; (try dsimp only at hSw); (first | (go_simp; done) | (go_simp; with_reducible rfl)))
  try simp only [Act.put, List.setIfInBounds_toArray, List.set_cons_zero, List.set_cons_succ]
  refine wpAnyH_take (i := 19) (v := ?v15) (by simp only [List.getElem?_toArray, List.getElem?_cons_succ, List.getElem?_cons_zero]; rfl) (by kernel_rfl) (by kernel_rfl) (by kernel_rfl) (by exact fun _ _ _ h => h) (Or.inl ⟨by rfl, ?h15⟩) hHeld ?r15
  case h15 => (intro w hSw; (try dsimp only at hSw); (first | (go_simp; done) | (go_simp; with_reducible rfl)))
  try simp only [Act.put, List.setIfInBounds_toArray, List.set_cons_zero, List.set_cons_succ]
  refine wpAnyH_ready (rs := [20]) (by kernel_rfl) (by simp) (AllReadyH.cons (by simp only [List.getElem?_toArray, List.getElem?_cons_succ, List.getElem?_cons_zero]; rfl) (fun K hK => ?_) AllReadyH.nil)
  go_simp
  go_at_call 18; refine (same_zo S7.out.2.2.2.1 (nil_zo _) HZ.out).mono ?_; rintro e w8 ⟨rfl, hb⟩
  have S8 := Lib.hid (And.intro (S7.out.1.keep (hb)) (And.intro (S7.out.2.1.keep (hb)) (And.intro (S7.out.2.2.1.keep (hb)) (And.intro (S7.out.2.2.2.2.1.keep (hb)) (And.intro (S7.out.2.2.2.2.2.2.1.keep (hb)) (below_trans (S7.out.2.2.2.2.2.2.2) (hb)))))))
  have hN : w8.cell? ⟨gx, 0, none⟩ = some (.bool px) ∧ w8.cell? ⟨gx, 1, none⟩ = some (.slice Ax lx cx) ∧ w8.cell? ⟨gd, 0, none⟩ = some (.bool pd) ∧ w8.cell? ⟨gd, 1, none⟩ = some (.slice Ad ld cd) := ⟨S8.out.2.2.2.1.facts.1, S8.out.2.2.2.1.facts.2.1, S8.out.2.2.2.2.1.facts.1, S8.out.2.2.2.2.1.facts.2.1⟩
  clear hb hHeld
  go_wp2_with fail
  refine hK.out _ _ hN (fun hHeld => ?_); clear hK K hN; try simp only [Act.put, List.setIfInBounds_toArray, List.set_cons_zero, List.set_cons_succ]
  refine wpAnyH_take (i := 21) (v := ?v16) (by simp only [List.getElem?_toArray, List.getElem?_cons_succ, List.getElem?_cons_zero]; rfl) (by kernel_rfl) (by kernel_rfl) (by kernel_rfl) (by exact fun _ _ _ h => h) (Or.inl ⟨by rfl, ?h16⟩) hHeld ?r16
  case h16 => (intro w hSw; (try dsimp only at hSw); (first | (go_simp; done) | (go_simp; with_reducible rfl)))
  try simp only [Act.put, List.setIfInBounds_toArray, List.set_cons_zero, List.set_cons_succ]
  refine wpAnyH_take (i := 22) (v := ?v17) (by simp only [List.getElem?_toArray, List.getElem?_cons_succ, List.getElem?_cons_zero]; rfl) (by kernel_rfl) (by kernel_rfl) (by kernel_rfl) (by exact fun _ _ _ h => h) (Or.inl ⟨by rfl, ?h17⟩) hHeld ?r17
  case h17 => (intro w hSw; (try dsimp only at hSw); (first | (go_simp; done) | (go_simp; with_reducible rfl)))
  try simp only [Act.put, List.setIfInBounds_toArray, List.set_cons_zero, List.set_cons_succ]
  refine wpAnyH_take (i := 23) (v := ?v18) (by simp only [List.getElem?_toArray, List.getElem?_cons_succ, List.getElem?_cons_zero]; rfl) (by kernel_rfl) (by kernel_rfl) (by kernel_rfl) (by exact fun _ _ _ h => h) (Or.inl ⟨by rfl, ?h18⟩) hHeld ?r18
  case h18 => (intro w hSw; (try dsimp only at hSw); (first | (go_simp; done) | (go_simp; with_reducible rfl)))
  try simp only [Act.put, List.setIfInBounds_toArray, List.set_cons_zero, List.set_cons_succ]
  refine wpAnyH_done (by kernel_rfl) ?_ _
  clear hHeld
  go_upto_region 7 with (fail)
  have S9 := Lib.hid (And.intro (S8.out.1.keep (below_dr _ 1)) (And.intro (S8.out.2.1.keep (below_dr _ 1)) (And.intro (S8.out.2.2.1.keep (below_dr _ 1)) (And.intro (S8.out.2.2.2.1.keep (below_dr _ 1)) (And.intro (S8.out.2.2.2.2.1.keep (below_dr _ 1)) (below_trans (S8.out.2.2.2.2.2) (below_dr _ 1)))))))
  refine wp_region_held_drew (S := fun W => W.cell? ⟨w.heap.size, 0, none⟩ = some (.bool pa) ∧ W.cell? ⟨w.heap.size, 1, none⟩ = some (.slice Aa na ca)) (by kernel_rfl) ⟨S9.out.2.2.1.facts.1, S9.out.2.2.1.facts.2.1⟩ (fun hHeld => ?_)
  refine wpAnyH_take (i := 0) (v := ?v19) (by simp only [List.getElem?_toArray, List.getElem?_cons_succ, List.getElem?_cons_zero]; rfl) (by kernel_rfl) (by kernel_rfl) (by kernel_rfl) (by exact fun _ _ _ h => h) (Or.inl ⟨by rfl, ?h19⟩) hHeld ?r19
  case h19 => (intro w hSw; (try dsimp only at hSw); (first | (go_simp; done) | (go_simp; with_reducible rfl)))
  try simp only [Act.put, List.setIfInBounds_toArray, List.set_cons_zero, List.set_cons_succ]
  refine wpAnyH_take (i := 1) (v := ?v20) (by simp only [List.getElem?_toArray, List.getElem?_cons_succ, List.getElem?_cons_zero]; rfl) (by kernel_rfl) (by kernel_rfl) (by kernel_rfl) (by exact fun _ _ _ h => h) (Or.inl ⟨by rfl, ?h20⟩) hHeld ?r20
  case h20 => (intro w hSw; (try dsimp only at hSw); (first | (go_simp; done) | (go_simp; with_reducible rfl)))
  try simp only [Act.put, List.setIfInBounds_toArray, List.set_cons_zero, List.set_cons_succ]
  refine wpAnyH_ready (rs := [2]) (by kernel_rfl) (by simp) (AllReadyH.cons (by simp only [List.getElem?_toArray, List.getElem?_cons_succ, List.getElem?_cons_zero]; rfl) (fun K hK => ?_) AllReadyH.nil)
  go_simp
  go_at_call 13; refine (big_yes S9.out.2.1 S9.out.2.1 HG.out).mono ?_; rintro e w10 ⟨rfl, hb⟩
  have S10 := Lib.hid (And.intro (S9.out.1.keep (hb)) (And.intro (S9.out.2.1.keep (hb)) (And.intro (S9.out.2.2.1.keep (hb)) (And.intro (S9.out.2.2.2.1.keep (hb)) (And.intro (S9.out.2.2.2.2.1.keep (hb)) (below_trans (S9.out.2.2.2.2.2) (hb)))))))
  have hN : w10.cell? ⟨w.heap.size, 0, none⟩ = some (.bool pa) ∧ w10.cell? ⟨w.heap.size, 1, none⟩ = some (.slice Aa na ca) := ⟨S10.out.2.2.1.facts.1, S10.out.2.2.1.facts.2.1⟩
  clear hb hHeld
  go_wp2_with fail
  refine hK.out _ _ hN (fun hHeld => ?_); clear hK K hN; try simp only [Act.put, List.setIfInBounds_toArray, List.set_cons_zero, List.set_cons_succ]
  refine wpAnyH_take (i := 3) (v := ?v21) (by simp only [List.getElem?_toArray, List.getElem?_cons_succ, List.getElem?_cons_zero]; rfl) (by kernel_rfl) (by kernel_rfl) (by kernel_rfl) (by exact fun _ _ _ h => h) (Or.inl ⟨by rfl, ?h21⟩) hHeld ?r21
  case h21 => (intro w hSw; (try dsimp only at hSw); (first | (go_simp; done) | (go_simp; with_reducible rfl)))
  try simp only [Act.put, List.setIfInBounds_toArray, List.set_cons_zero, List.set_cons_succ]
  refine wpAnyH_take (i := 4) (v := undef) (by simp only [List.getElem?_toArray, List.getElem?_cons_succ, List.getElem?_cons_zero]; rfl) (by kernel_rfl) (by kernel_rfl) (by kernel_rfl) (by exact fun _ _ _ h => h) (Or.inr ⟨by rfl, rfl⟩) hHeld ?_; try simp only [Act.put, List.setIfInBounds_toArray, List.set_cons_zero, List.set_cons_succ]
  refine wpAnyH_take (i := 5) (v := undef) (by simp only [List.getElem?_toArray, List.getElem?_cons_succ, List.getElem?_cons_zero]; rfl) (by kernel_rfl) (by kernel_rfl) (by kernel_rfl) (by exact fun _ _ _ h => h) (Or.inr ⟨by rfl, rfl⟩) hHeld ?_; try simp only [Act.put, List.setIfInBounds_toArray, List.set_cons_zero, List.set_cons_succ]
  refine wpAnyH_take (i := 6) (v := undef) (by simp only [List.getElem?_toArray, List.getElem?_cons_succ, List.getElem?_cons_zero]; rfl) (by kernel_rfl) (by kernel_rfl) (by kernel_rfl) (by exact fun _ _ _ h => h) (Or.inr ⟨by rfl, rfl⟩) hHeld ?_; try simp only [Act.put, List.setIfInBounds_toArray, List.set_cons_zero, List.set_cons_succ]
  refine wpAnyH_take (i := 7) (v := undef) (by simp only [List.getElem?_toArray, List.getElem?_cons_succ, List.getElem?_cons_zero]; rfl) (by kernel_rfl) (by kernel_rfl) (by kernel_rfl) (by exact fun _ _ _ h => h) (Or.inr ⟨by rfl, rfl⟩) hHeld ?_; try simp only [Act.put, List.setIfInBounds_toArray, List.set_cons_zero, List.set_cons_succ]
  refine wpAnyH_take (i := 8) (v := undef) (by simp only [List.getElem?_toArray, List.getElem?_cons_succ, List.getElem?_cons_zero]; rfl) (by kernel_rfl) (by kernel_rfl) (by kernel_rfl) (by exact fun _ _ _ h => h) (Or.inr ⟨by rfl, rfl⟩) hHeld ?_; try simp only [Act.put, List.setIfInBounds_toArray, List.set_cons_zero, List.set_cons_succ]
  refine wpAnyH_take (i := 9) (v := undef) (by simp only [List.getElem?_toArray, List.getElem?_cons_succ, List.getElem?_cons_zero]; rfl) (by kernel_rfl) (by kernel_rfl) (by kernel_rfl) (by exact fun _ _ _ h => h) (Or.inr ⟨by rfl, rfl⟩) hHeld ?_; try simp only [Act.put, List.setIfInBounds_toArray, List.set_cons_zero, List.set_cons_succ]
  refine wpAnyH_take (i := 10) (v := undef) (by simp only [List.getElem?_toArray, List.getElem?_cons_succ, List.getElem?_cons_zero]; rfl) (by kernel_rfl) (by kernel_rfl) (by kernel_rfl) (by exact fun _ _ _ h => h) (Or.inr ⟨by rfl, rfl⟩) hHeld ?_; try simp only [Act.put, List.setIfInBounds_toArray, List.set_cons_zero, List.set_cons_succ]
  refine wpAnyH_take (i := 11) (v := ?v22) (by simp only [List.getElem?_toArray, List.getElem?_cons_succ, List.getElem?_cons_zero]; rfl) (by kernel_rfl) (by kernel_rfl) (by kernel_rfl) (by exact fun _ _ _ h => h) (Or.inl ⟨by rfl, ?h22⟩) hHeld ?r22
  case h22 => (intro w hSw; (try dsimp only at hSw); (first | (go_simp; done) | (go_simp; with_reducible rfl)))
  try simp only [Act.put, List.setIfInBounds_toArray, List.set_cons_zero, List.set_cons_succ]
  refine wpAnyH_take (i := 12) (v := ?v23) (by simp only [List.getElem?_toArray, List.getElem?_cons_succ, List.getElem?_cons_zero]; rfl) (by kernel_rfl) (by kernel_rfl) (by kernel_rfl) (by exact fun _ _ _ h => h) (Or.inl ⟨by rfl, ?h23⟩) hHeld ?r23
  case h23 => (intro w hSw; (try dsimp only at hSw); (first | (go_simp; done) | (go_simp; with_reducible rfl)))
  try simp only [Act.put, List.setIfInBounds_toArray, List.set_cons_zero, List.set_cons_succ]
  refine wpAnyH_done (by kernel_rfl) ?_ _
  clear hHeld
  go_wp2_with fail
  go_ret
  exact ⟨rfl, S10.out.2.2.2.2.2⟩
set_option maxRecDepth 100000 in
set_option maxHeartbeats 2000000 in
theorem zintTexts_5s (w : World) (ht : Tab w) {a : Value} {pa : Bool} {xa : List Nat} (ha : Zl w a pa xa) (s : ByteArray) (hs : s.size ≤ 9223372036854775807) (hn : parseErr (cutS s).2.data.toList = 5) (la : xa.length ≤ 12) :
    Calls Tryz.prog 4 #[.string s, a] w fun e w' => e = .returned (.bool true) ∧ Below w.heap.size w w' := by
  obtain ⟨z, hz⟩ : ∃ z, z = sg pa (val WB xa) := ⟨_, rfl⟩
  have hza := ha.zn la
  rw [← hz] at hza
  obtain ⟨tx, htx⟩ : ∃ tx, textZ z = tx := ⟨_, rfl⟩
  have HG := Lib.hid (And.intro la (And.intro hz htx))
  clear htx
  have hzl := ha
  obtain ⟨rz, hrz⟩ : ∃ rz, readZ s = rz := ⟨_, rfl⟩
  have HN := Lib.hid (And.intro hn (And.intro hs (And.intro hrz (show rz.natAbs < WB ^ 200 by rw [← hrz]; exact read_abs s))))
  have HZ := Lib.hid (show rz = 0 by rw [← hrz]; exact read_zero (by rw [hn]; decide))
  obtain ⟨Aa, na, ca, rfl, ea, ha⟩ := ha.parts
  have S0 := Lib.hid (And.intro (ht) (And.intro (hzl) (And.intro (hza) (Below.refl w.heap.size w))))
  clear ht hzl ha ea hn hs hrz hza la hz
  go_enter Tryz.func4, Tryz.ntmps4
  go_upto_region 1 with (fail)
  obtain ⟨h0, hb⟩ := box1 w 24 (.bool pa) (.slice Aa na ca)
  have S1 := Lib.hid (And.intro (S0.out.1.keep (hb)) (And.intro (S0.out.2.1.keep (hb)) (And.intro (S0.out.2.2.1.keep (hb)) (And.intro (h0) (below_trans (S0.out.2.2.2) (hb))))))
  clear hb h0 S0
  generalize w.alloc _ = W0 at S1 ⊢
  go_wp2_with fail
  refine (speaks_z _ S1.out.1).mono ?_; rintro e w2 ⟨rfl, hb⟩
  have S2 := Lib.hid (And.intro (S1.out.1.keep (hb)) (And.intro (S1.out.2.1.keep (hb)) (And.intro (S1.out.2.2.1.keep (hb)) (And.intro (S1.out.2.2.2.1.keep (hb)) (below_trans (S1.out.2.2.2.2) (hb))))))
  clear hb  S1
  go_wp2_with fail
  refine (parse_z s _ HN.out.2.1).mono ?_; rintro e w3 ⟨v1, rfl, h, hb⟩
  rw [HN.out.1]
  rw [HN.out.2.2.1] at h
  obtain ⟨px, Ax, lx, cx, rfl⟩ := h.parts
  have S3 := Lib.hid (And.intro (S2.out.1.keep (hb)) (And.intro (S2.out.2.1.keep (hb)) (And.intro (S2.out.2.2.1.keep (hb)) (And.intro (S2.out.2.2.2.1.keep (hb)) (And.intro (h) (below_trans (S2.out.2.2.2.2) (hb)))))))
  clear h hb  S2
  go_upto_region 4 with (fail)
  obtain ⟨h0, hb⟩ := box1 w3 24 (.bool px) (.slice Ax lx cx)
  obtain ⟨gx, hgx⟩ : ∃ g, g = w3.heap.size := ⟨_, rfl⟩
  have S4 := Lib.hid (And.intro (S3.out.1.keep (hb)) (And.intro (S3.out.2.1.keep (hb)) (And.intro (S3.out.2.2.1.keep (hb)) (And.intro (S3.out.2.2.2.1.keep (hb)) (And.intro (S3.out.2.2.2.2.1.keep (hb)) (And.intro (h0) (below_trans (S3.out.2.2.2.2.2) (hb))))))))
  clear hb h0 S3
  generalize (w3.alloc _) = Wx at S4 ⊢
  rw [← hgx] at S4 ⊢
  clear hgx
  go_wp2_with fail
  refine (I.parse_d s _ HN.out.2.1).mono ?_; rintro e w5 ⟨v1, rfl, h, hb⟩
  rw [HN.out.1]
  rw [HN.out.2.2.1] at h
  obtain ⟨pd, Ad, ld, cd, rfl⟩ := Zd.pat h
  have S5 := Lib.hid (And.intro (S4.out.1.keep (hb)) (And.intro (S4.out.2.1.keep (hb)) (And.intro (S4.out.2.2.1.keep (hb)) (And.intro (S4.out.2.2.2.1.keep (hb)) (And.intro (S4.out.2.2.2.2.1.keep (hb)) (And.intro (S4.out.2.2.2.2.2.1.keep (hb)) (And.intro (h) (below_trans (S4.out.2.2.2.2.2.2) (hb)))))))))
  clear h hb  S4
  go_upto_region 5 with (fail)
  obtain ⟨h0, hb⟩ := box1 w5 33 (.bool pd) (.slice Ad ld cd)
  obtain ⟨gd, hgd⟩ : ∃ g, g = w5.heap.size := ⟨_, rfl⟩
  have S6 := Lib.hid (And.intro (S5.out.1.keep (hb)) (And.intro (S5.out.2.1.keep (hb)) (And.intro (S5.out.2.2.1.keep (hb)) (And.intro (S5.out.2.2.2.1.keep (hb)) (And.intro (S5.out.2.2.2.2.1.keep (hb)) (And.intro (S5.out.2.2.2.2.2.1.keep (hb)) (And.intro (S5.out.2.2.2.2.2.2.1.keep (hb)) (And.intro (h0) (below_trans (S5.out.2.2.2.2.2.2.2) (hb))))))))))
  clear hb h0 S5
  generalize w5.alloc _ = Wd at S6 ⊢
  rw [← hgd] at S6 ⊢
  clear hgd
  go_upto_region 5 with (fail)
  have S7 := Lib.hid (And.intro (S6.out.1.keep (below_dr _ 1)) (And.intro (S6.out.2.1.keep (below_dr _ 1)) (And.intro (S6.out.2.2.1.keep (below_dr _ 1)) (And.intro (S6.out.2.2.2.1.keep (below_dr _ 1)) (And.intro (S6.out.2.2.2.2.1.keep (below_dr _ 1)) (And.intro (S6.out.2.2.2.2.2.1.keep (below_dr _ 1)) (And.intro (S6.out.2.2.2.2.2.2.1.keep (below_dr _ 1)) (And.intro (S6.out.2.2.2.2.2.2.2.1.keep (below_dr _ 1)) (below_trans (S6.out.2.2.2.2.2.2.2.2) (below_dr _ 1))))))))))
  refine wp_region_held_drew (S := fun W => W.cell? ⟨gx, 0, none⟩ = some (.bool px) ∧ W.cell? ⟨gx, 1, none⟩ = some (.slice Ax lx cx) ∧ W.cell? ⟨gd, 0, none⟩ = some (.bool pd) ∧ W.cell? ⟨gd, 1, none⟩ = some (.slice Ad ld cd)) (by kernel_rfl) ⟨S7.out.2.2.2.2.2.1.facts.1, S7.out.2.2.2.2.2.1.facts.2.1, S7.out.2.2.2.2.2.2.2.1.facts.1, S7.out.2.2.2.2.2.2.2.1.facts.2.1⟩ (fun hHeld => ?_)
  refine wpAnyH_take (i := 0) (v := ?v1) (by simp only [List.getElem?_toArray, List.getElem?_cons_succ, List.getElem?_cons_zero]; rfl) (by kernel_rfl) (by kernel_rfl) (by kernel_rfl) (by exact fun _ _ _ h => h) (Or.inl ⟨by rfl, ?h1⟩) hHeld ?r1
  case h1 => (intro w hSw; (try dsimp only at hSw); (first | (go_simp; done) | (go_simp; with_reducible rfl)))
  try simp only [Act.put, List.setIfInBounds_toArray, List.set_cons_zero, List.set_cons_succ]
  refine wpAnyH_take (i := 1) (v := ?v2) (by simp only [List.getElem?_toArray, List.getElem?_cons_succ, List.getElem?_cons_zero]; rfl) (by kernel_rfl) (by kernel_rfl) (by kernel_rfl) (by exact fun _ _ _ h => h) (Or.inl ⟨by rfl, ?h2⟩) hHeld ?r2
  case h2 => (intro w hSw; (try dsimp only at hSw); (first | (go_simp; done) | (go_simp; with_reducible rfl)))
  try simp only [Act.put, List.setIfInBounds_toArray, List.set_cons_zero, List.set_cons_succ]
  refine wpAnyH_take (i := 2) (v := ?v3) (by simp only [List.getElem?_toArray, List.getElem?_cons_succ, List.getElem?_cons_zero]; rfl) (by kernel_rfl) (by kernel_rfl) (by kernel_rfl) (by exact fun _ _ _ h => h) (Or.inl ⟨by rfl, ?h3⟩) hHeld ?r3
  case h3 => (intro w hSw; (try dsimp only at hSw); (first | (go_simp; done) | (go_simp; with_reducible rfl)))
  try simp only [Act.put, List.setIfInBounds_toArray, List.set_cons_zero, List.set_cons_succ]
  refine wpAnyH_take (i := 3) (v := ?v4) (by simp only [List.getElem?_toArray, List.getElem?_cons_succ, List.getElem?_cons_zero]; rfl) (by kernel_rfl) (by kernel_rfl) (by kernel_rfl) (by exact fun _ _ _ h => h) (Or.inl ⟨by rfl, ?h4⟩) hHeld ?r4
  case h4 => (intro w hSw; (try dsimp only at hSw); (first | (go_simp; done) | (go_simp; with_reducible rfl)))
  try simp only [Act.put, List.setIfInBounds_toArray, List.set_cons_zero, List.set_cons_succ]
  refine wpAnyH_take (i := 4) (v := ?v5) (by simp only [List.getElem?_toArray, List.getElem?_cons_succ, List.getElem?_cons_zero]; rfl) (by kernel_rfl) (by kernel_rfl) (by kernel_rfl) (by exact fun _ _ _ h => h) (Or.inl ⟨by rfl, ?h5⟩) hHeld ?r5
  case h5 => (intro w hSw; (try dsimp only at hSw); (first | (go_simp; done) | (go_simp; with_reducible rfl)))
  try simp only [Act.put, List.setIfInBounds_toArray, List.set_cons_zero, List.set_cons_succ]
  refine wpAnyH_take (i := 5) (v := ?v6) (by simp only [List.getElem?_toArray, List.getElem?_cons_succ, List.getElem?_cons_zero]; rfl) (by kernel_rfl) (by kernel_rfl) (by kernel_rfl) (by exact fun _ _ _ h => h) (Or.inl ⟨by rfl, ?h6⟩) hHeld ?r6
  case h6 => (intro w hSw; (try dsimp only at hSw); (first | (go_simp; done) | (go_simp; with_reducible rfl)))
  try simp only [Act.put, List.setIfInBounds_toArray, List.set_cons_zero, List.set_cons_succ]
  refine wpAnyH_take (i := 6) (v := ?v7) (by simp only [List.getElem?_toArray, List.getElem?_cons_succ, List.getElem?_cons_zero]; rfl) (by kernel_rfl) (by kernel_rfl) (by kernel_rfl) (by exact fun _ _ _ h => h) (Or.inl ⟨by rfl, ?h7⟩) hHeld ?r7
  case h7 => (intro w hSw; (try dsimp only at hSw); (first | (go_simp; done) | (go_simp; with_reducible rfl)))
  try simp only [Act.put, List.setIfInBounds_toArray, List.set_cons_zero, List.set_cons_succ]
  refine wpAnyH_take (i := 7) (v := undef) (by simp only [List.getElem?_toArray, List.getElem?_cons_succ, List.getElem?_cons_zero]; rfl) (by kernel_rfl) (by kernel_rfl) (by kernel_rfl) (by exact fun _ _ _ h => h) (Or.inr ⟨by rfl, rfl⟩) hHeld ?_; try simp only [Act.put, List.setIfInBounds_toArray, List.set_cons_zero, List.set_cons_succ]
  refine wpAnyH_take (i := 8) (v := undef) (by simp only [List.getElem?_toArray, List.getElem?_cons_succ, List.getElem?_cons_zero]; rfl) (by kernel_rfl) (by kernel_rfl) (by kernel_rfl) (by exact fun _ _ _ h => h) (Or.inr ⟨by rfl, rfl⟩) hHeld ?_; try simp only [Act.put, List.setIfInBounds_toArray, List.set_cons_zero, List.set_cons_succ]
  refine wpAnyH_take (i := 9) (v := undef) (by simp only [List.getElem?_toArray, List.getElem?_cons_succ, List.getElem?_cons_zero]; rfl) (by kernel_rfl) (by kernel_rfl) (by kernel_rfl) (by exact fun _ _ _ h => h) (Or.inr ⟨by rfl, rfl⟩) hHeld ?_; try simp only [Act.put, List.setIfInBounds_toArray, List.set_cons_zero, List.set_cons_succ]
  refine wpAnyH_take (i := 10) (v := undef) (by simp only [List.getElem?_toArray, List.getElem?_cons_succ, List.getElem?_cons_zero]; rfl) (by kernel_rfl) (by kernel_rfl) (by kernel_rfl) (by exact fun _ _ _ h => h) (Or.inr ⟨by rfl, rfl⟩) hHeld ?_; try simp only [Act.put, List.setIfInBounds_toArray, List.set_cons_zero, List.set_cons_succ]
  refine wpAnyH_take (i := 11) (v := undef) (by simp only [List.getElem?_toArray, List.getElem?_cons_succ, List.getElem?_cons_zero]; rfl) (by kernel_rfl) (by kernel_rfl) (by kernel_rfl) (by exact fun _ _ _ h => h) (Or.inr ⟨by rfl, rfl⟩) hHeld ?_; try simp only [Act.put, List.setIfInBounds_toArray, List.set_cons_zero, List.set_cons_succ]
  refine wpAnyH_take (i := 12) (v := ?v8) (by simp only [List.getElem?_toArray, List.getElem?_cons_succ, List.getElem?_cons_zero]; rfl) (by kernel_rfl) (by kernel_rfl) (by kernel_rfl) (by exact fun _ _ _ h => h) (Or.inl ⟨by rfl, ?h8⟩) hHeld ?r8
  case h8 => (intro w hSw; (try dsimp only at hSw); (first | (go_simp; done) | (go_simp; with_reducible rfl)))
  try simp only [Act.put, List.setIfInBounds_toArray, List.set_cons_zero, List.set_cons_succ]
  refine wpAnyH_take (i := 13) (v := ?v9) (by simp only [List.getElem?_toArray, List.getElem?_cons_succ, List.getElem?_cons_zero]; rfl) (by kernel_rfl) (by kernel_rfl) (by kernel_rfl) (by exact fun _ _ _ h => h) (Or.inl ⟨by rfl, ?h9⟩) hHeld ?r9
  case h9 => (intro w hSw; (try dsimp only at hSw); (first | (go_simp; done) | (go_simp; with_reducible rfl)))
  try simp only [Act.put, List.setIfInBounds_toArray, List.set_cons_zero, List.set_cons_succ]
  refine wpAnyH_take (i := 14) (v := ?v10) (by simp only [List.getElem?_toArray, List.getElem?_cons_succ, List.getElem?_cons_zero]; rfl) (by kernel_rfl) (by kernel_rfl) (by kernel_rfl) (by exact fun _ _ _ h => h) (Or.inl ⟨by rfl, ?h10⟩) hHeld ?r10
  case h10 => (intro w hSw; (try dsimp only at hSw); (first | (go_simp; done) | (go_simp; with_reducible rfl)))
  try simp only [Act.put, List.setIfInBounds_toArray, List.set_cons_zero, List.set_cons_succ]
  refine wpAnyH_take (i := 15) (v := ?v11) (by simp only [List.getElem?_toArray, List.getElem?_cons_succ, List.getElem?_cons_zero]; rfl) (by kernel_rfl) (by kernel_rfl) (by kernel_rfl) (by exact fun _ _ _ h => h) (Or.inl ⟨by rfl, ?h11⟩) hHeld ?r11
  case h11 => (intro w hSw; (try dsimp only at hSw); (first | (go_simp; done) | (go_simp; with_reducible rfl)))
  try simp only [Act.put, List.setIfInBounds_toArray, List.set_cons_zero, List.set_cons_succ]
  refine wpAnyH_take (i := 16) (v := ?v12) (by simp only [List.getElem?_toArray, List.getElem?_cons_succ, List.getElem?_cons_zero]; rfl) (by kernel_rfl) (by kernel_rfl) (by kernel_rfl) (by exact fun _ _ _ h => h) (Or.inl ⟨by rfl, ?h12⟩) hHeld ?r12
  case h12 => (intro w hSw; (try dsimp only at hSw); (first | (go_simp; done) | (go_simp; with_reducible rfl)))
  try simp only [Act.put, List.setIfInBounds_toArray, List.set_cons_zero, List.set_cons_succ]
  refine wpAnyH_take (i := 17) (v := ?v13) (by simp only [List.getElem?_toArray, List.getElem?_cons_succ, List.getElem?_cons_zero]; rfl) (by kernel_rfl) (by kernel_rfl) (by kernel_rfl) (by exact fun _ _ _ h => h) (Or.inl ⟨by rfl, ?h13⟩) hHeld ?r13
  case h13 => (intro w hSw; (try dsimp only at hSw); (first | (go_simp; done) | (go_simp; with_reducible rfl)))
  try simp only [Act.put, List.setIfInBounds_toArray, List.set_cons_zero, List.set_cons_succ]
  refine wpAnyH_take (i := 18) (v := ?v14) (by simp only [List.getElem?_toArray, List.getElem?_cons_succ, List.getElem?_cons_zero]; rfl) (by kernel_rfl) (by kernel_rfl) (by kernel_rfl) (by exact fun _ _ _ h => h) (Or.inl ⟨by rfl, ?h14⟩) hHeld ?r14
  case h14 => (intro w hSw; (try dsimp only at hSw); (first | (go_simp; done) | (go_simp; with_reducible rfl)))
  try simp only [Act.put, List.setIfInBounds_toArray, List.set_cons_zero, List.set_cons_succ]
  refine wpAnyH_take (i := 19) (v := ?v15) (by simp only [List.getElem?_toArray, List.getElem?_cons_succ, List.getElem?_cons_zero]; rfl) (by kernel_rfl) (by kernel_rfl) (by kernel_rfl) (by exact fun _ _ _ h => h) (Or.inl ⟨by rfl, ?h15⟩) hHeld ?r15
  case h15 => (intro w hSw; (try dsimp only at hSw); (first | (go_simp; done) | (go_simp; with_reducible rfl)))
  try simp only [Act.put, List.setIfInBounds_toArray, List.set_cons_zero, List.set_cons_succ]
  refine wpAnyH_ready (rs := [20]) (by kernel_rfl) (by simp) (AllReadyH.cons (by simp only [List.getElem?_toArray, List.getElem?_cons_succ, List.getElem?_cons_zero]; rfl) (fun K hK => ?_) AllReadyH.nil)
  go_simp
  go_at_call 18; refine (same_zo S7.out.2.2.2.2.1 (nil_zo _) HZ.out).mono ?_; rintro e w8 ⟨rfl, hb⟩
  have S8 := Lib.hid (And.intro (S7.out.1.keep (hb)) (And.intro (S7.out.2.1.keep (hb)) (And.intro (S7.out.2.2.1.keep (hb)) (And.intro (S7.out.2.2.2.1.keep (hb)) (And.intro (S7.out.2.2.2.2.2.1.keep (hb)) (And.intro (S7.out.2.2.2.2.2.2.2.1.keep (hb)) (below_trans (S7.out.2.2.2.2.2.2.2.2) (hb))))))))
  have hN : w8.cell? ⟨gx, 0, none⟩ = some (.bool px) ∧ w8.cell? ⟨gx, 1, none⟩ = some (.slice Ax lx cx) ∧ w8.cell? ⟨gd, 0, none⟩ = some (.bool pd) ∧ w8.cell? ⟨gd, 1, none⟩ = some (.slice Ad ld cd) := ⟨S8.out.2.2.2.2.1.facts.1, S8.out.2.2.2.2.1.facts.2.1, S8.out.2.2.2.2.2.1.facts.1, S8.out.2.2.2.2.2.1.facts.2.1⟩
  clear hb hHeld
  go_wp2_with fail
  refine hK.out _ _ hN (fun hHeld => ?_); clear hK K hN; try simp only [Act.put, List.setIfInBounds_toArray, List.set_cons_zero, List.set_cons_succ]
  refine wpAnyH_take (i := 21) (v := ?v16) (by simp only [List.getElem?_toArray, List.getElem?_cons_succ, List.getElem?_cons_zero]; rfl) (by kernel_rfl) (by kernel_rfl) (by kernel_rfl) (by exact fun _ _ _ h => h) (Or.inl ⟨by rfl, ?h16⟩) hHeld ?r16
  case h16 => (intro w hSw; (try dsimp only at hSw); (first | (go_simp; done) | (go_simp; with_reducible rfl)))
  try simp only [Act.put, List.setIfInBounds_toArray, List.set_cons_zero, List.set_cons_succ]
  refine wpAnyH_take (i := 22) (v := ?v17) (by simp only [List.getElem?_toArray, List.getElem?_cons_succ, List.getElem?_cons_zero]; rfl) (by kernel_rfl) (by kernel_rfl) (by kernel_rfl) (by exact fun _ _ _ h => h) (Or.inl ⟨by rfl, ?h17⟩) hHeld ?r17
  case h17 => (intro w hSw; (try dsimp only at hSw); (first | (go_simp; done) | (go_simp; with_reducible rfl)))
  try simp only [Act.put, List.setIfInBounds_toArray, List.set_cons_zero, List.set_cons_succ]
  refine wpAnyH_take (i := 23) (v := ?v18) (by simp only [List.getElem?_toArray, List.getElem?_cons_succ, List.getElem?_cons_zero]; rfl) (by kernel_rfl) (by kernel_rfl) (by kernel_rfl) (by exact fun _ _ _ h => h) (Or.inl ⟨by rfl, ?h18⟩) hHeld ?r18
  case h18 => (intro w hSw; (try dsimp only at hSw); (first | (go_simp; done) | (go_simp; with_reducible rfl)))
  try simp only [Act.put, List.setIfInBounds_toArray, List.set_cons_zero, List.set_cons_succ]
  refine wpAnyH_done (by kernel_rfl) ?_ _
  clear hHeld
  go_upto_region 7 with (fail)
  have S9 := Lib.hid (And.intro (S8.out.1.keep (below_dr _ 1)) (And.intro (S8.out.2.1.keep (below_dr _ 1)) (And.intro (S8.out.2.2.1.keep (below_dr _ 1)) (And.intro (S8.out.2.2.2.1.keep (below_dr _ 1)) (And.intro (S8.out.2.2.2.2.1.keep (below_dr _ 1)) (And.intro (S8.out.2.2.2.2.2.1.keep (below_dr _ 1)) (below_trans (S8.out.2.2.2.2.2.2) (below_dr _ 1))))))))
  have HS0 : (w8.drewN 1).cell? ⟨w.heap.size, 0, none⟩ = some (.bool pa) ∧ (w8.drewN 1).cell? ⟨w.heap.size, 1, none⟩ = some (.slice Aa na ca) := ⟨S9.out.2.2.2.1.facts.1, S9.out.2.2.2.1.facts.2.1⟩
  have HS1 := HS0
  have HS2 := HS0
  have HS3 := HS0
  have HS4 := HS0
  have HS5 := HS0
  go_region_held3 (fun W => W.cell? ⟨w.heap.size, 0, none⟩ = some (.bool pa) ∧ W.cell? ⟨w.heap.size, 1, none⟩ = some (.slice Aa na ca)) (first | with_reducible exact HS1 | with_reducible exact HS2 | with_reducible exact HS3 | with_reducible exact HS4 | with_reducible exact HS5 | exact HS0)
    (first
      | (have hst := S13; clear hst; go_at_call 25; refine (I.text_d S13.out.2.2.2.2.2.2.1 (by decide)).mono ?_; rintro e w14 ⟨rfl, hb⟩; rw [HG.out.2.2]; have S14 := Lib.hid (And.intro (S13.out.1.keep (hb)) (And.intro (S13.out.2.1.keep (hb)) (And.intro (S13.out.2.2.1.keep (hb)) (And.intro (S13.out.2.2.2.1.keep (hb)) (And.intro (S13.out.2.2.2.2.1.keep (hb)) (And.intro (S13.out.2.2.2.2.2.1.keep (hb)) (below_trans (S13.out.2.2.2.2.2.2.2) (hb)))))))); have HS5 : w14.cell? ⟨w.heap.size, 0, none⟩ = some (.bool pa) ∧ w14.cell? ⟨w.heap.size, 1, none⟩ = some (.slice Aa na ca) := ⟨S14.out.2.2.2.1.facts.1, S14.out.2.2.2.1.facts.2.1⟩; clear hb)
      | (have hst := S12; clear hst; go_at_call 16; refine (I.of_d S12.out.2.2.1 (by decide)).mono ?_; rintro e w13 ⟨v, rfl, h, hb⟩; have S13 := Lib.hid (And.intro (S12.out.1.keep (hb)) (And.intro (S12.out.2.1.keep (hb)) (And.intro (S12.out.2.2.1.keep (hb)) (And.intro (S12.out.2.2.2.1.keep (hb)) (And.intro (S12.out.2.2.2.2.1.keep (hb)) (And.intro (S12.out.2.2.2.2.2.1.keep (hb)) (And.intro (h) (below_trans (S12.out.2.2.2.2.2.2) (hb))))))))); have HS4 : w13.cell? ⟨w.heap.size, 0, none⟩ = some (.bool pa) ∧ w13.cell? ⟨w.heap.size, 1, none⟩ = some (.slice Aa na ca) := ⟨S13.out.2.2.2.1.facts.1, S13.out.2.2.2.1.facts.2.1⟩; clear h hb)
      | (have hst := S11; clear hst; go_at_call 24; refine (text_z S11.out.1 S11.out.2.2.2.2.2.2.1 (by decide)).mono ?_; rintro e w12 ⟨rfl, hb⟩; rw [← HG.out.2.1, HG.out.2.2]; have S12 := Lib.hid (And.intro (S11.out.1.keep (hb)) (And.intro (S11.out.2.1.keep (hb)) (And.intro (S11.out.2.2.1.keep (hb)) (And.intro (S11.out.2.2.2.1.keep (hb)) (And.intro (S11.out.2.2.2.2.1.keep (hb)) (And.intro (S11.out.2.2.2.2.2.1.keep (hb)) (below_trans (S11.out.2.2.2.2.2.2.2) (hb)))))))); have HS3 : w12.cell? ⟨w.heap.size, 0, none⟩ = some (.bool pa) ∧ w12.cell? ⟨w.heap.size, 1, none⟩ = some (.slice Aa na ca) := ⟨S12.out.2.2.2.1.facts.1, S12.out.2.2.2.1.facts.2.1⟩; clear hb)
      | (have hst := S10; clear hst; go_at_call 14; refine (copy_z S10.out.2.1 (by have := HG.out.1; omega)).mono ?_; rintro e w11 ⟨v, rfl, h, hb⟩; have S11 := Lib.hid (And.intro (S10.out.1.keep (hb)) (And.intro (S10.out.2.1.keep (hb)) (And.intro (S10.out.2.2.1.keep (hb)) (And.intro (S10.out.2.2.2.1.keep (hb)) (And.intro (S10.out.2.2.2.2.1.keep (hb)) (And.intro (S10.out.2.2.2.2.2.1.keep (hb)) (And.intro (h.zn HG.out.1) (below_trans (S10.out.2.2.2.2.2.2) (hb))))))))); have HS2 : w11.cell? ⟨w.heap.size, 0, none⟩ = some (.bool pa) ∧ w11.cell? ⟨w.heap.size, 1, none⟩ = some (.slice Aa na ca) := ⟨S11.out.2.2.2.1.facts.1, S11.out.2.2.2.1.facts.2.1⟩; clear h hb)
      | (have hst := S9; clear hst; go_at_call 13; refine (big_no S9.out.2.1 S9.out.2.1 HG.out.1 HG.out.1).mono ?_; rintro e w10 ⟨rfl, hb⟩; have S10 := Lib.hid (And.intro (S9.out.1.keep (hb)) (And.intro (S9.out.2.1.keep (hb)) (And.intro (S9.out.2.2.1.keep (hb)) (And.intro (S9.out.2.2.2.1.keep (hb)) (And.intro (S9.out.2.2.2.2.1.keep (hb)) (And.intro (S9.out.2.2.2.2.2.1.keep (hb)) (below_trans (S9.out.2.2.2.2.2.2) (hb)))))))); have HS1 : w10.cell? ⟨w.heap.size, 0, none⟩ = some (.bool pa) ∧ w10.cell? ⟨w.heap.size, 1, none⟩ = some (.slice Aa na ca) := ⟨S10.out.2.2.2.1.facts.1, S10.out.2.2.2.1.facts.2.1⟩; clear hb))
  clear HS0 HS1 HS2 HS3 HS4 HS5
  go_wp2_with fail
  go_ret
  exact ⟨rfl, S14.out.2.2.2.2.2.2⟩
theorem zintTexts_main (w : World) (ht : Tab w) {a : Value} {pa : Bool} {xa : List Nat} (ha : Zl w a pa xa) (s : ByteArray) (hs : s.size ≤ 9223372036854775807) :
    Calls Tryz.prog 4 #[.string s, a] w fun e w' => e = .returned (.bool true) ∧ Below w.heap.size w w' := by
  by_cases la : xa.length ≤ 12
  · rcases err_cases (cutS s).2.data.toList with h | h | h
    · exact zintTexts_0s w ht ha s hs h la
    · exact zintTexts_1s w ht ha s hs h la
    · exact zintTexts_5s w ht ha s hs h la
  · have hg : ¬ (xa.length ≤ 12 ∧ xa.length ≤ 12) := fun h => la h.1
    rcases err_cases (cutS s).2.data.toList with h | h | h
    · exact zintTexts_0b w ht ha s hs h hg
    · exact zintTexts_1b w ht ha s hs h hg
    · exact zintTexts_5b w ht ha s hs h hg
theorem zintTexts_walk (w : World) (ht : Tab w) (s : ByteArray) (hs : s.size ≤ 9223372036854775807) {a : Value} {pa : Bool} {xa : List Nat} (ha : Zl w a pa xa) :
    Calls Tryz.prog 4 #[.string s, a] w fun e w' => e = .returned (.bool true) ∧ Below w.heap.size w w' := zintTexts_main w ht ha s hs
end Go.Proofs.YtgbfpimdnmmfpaaGreatDoor
