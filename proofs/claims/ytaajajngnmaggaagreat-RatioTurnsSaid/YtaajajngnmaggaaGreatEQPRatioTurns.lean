/-
  RatioTurns: a linear problem with all signs turned, bounds and all, chooses the same place and column, the other way up. Of all arguments, no condition of its own.
-/
import Derived.Test.YtaajajngnmaggaaGreatRows
import Derived.Test.YtaajajngnmaggaaGreatENJ1
namespace Go.Proofs.YtaajajngnmaggaaGreat.ratioTurns
open Go Go.ChangeShapes Go.WideShapes Go.ChangeAt Go.RowKit Pl
set_option linter.unusedVariables false
set_option maxRecDepth 1000000 in
theorem lifted (os : Os) (started : os.Started) (H : Type) (enc : TypeId × Value → H) :
    ReturnsInHanded {} Tryz.checked os 8 .any (Rows.ratioTurnsSpec.pre6 enc Tryz.prog Tryz.f8 Rows.ratioTurnsRow.domain false) (Rows.ratioTurnsSpec.post enc Tryz.prog Tryz.f8 false true false false) := by
  refine returnsInHanded_of_change_shaped (C := Tryz.checked) own started (by kernel_rfl) Tryz.func8
    (ChangeSpec.witness6 (enc := enc) (C := Tryz.checked) false ⟨#[], #[.agg #[.int .i64 0, .slice none 0 0, .slice none 0 0, .slice none 0 0, .slice none 0 0, .slice none 0 0, .slice none 0 0], .agg #[.slice none 0 0, .slice none 0 0], .agg #[.slice none 0 0, .slice none 0 0, .bool false, .bool false, .slice none 0 0, .slice none 0 0, .bool false]], []⟩ 8 (by kernel_rfl) (by kernel_rfl) (by kernel_rfl) (by kernel_rfl)) ?_
  intro W base args ds gs before hval0 hW hcnd hsz0 hsh _
  have hsz : (DataW.weightsEach Tryz.prog (Tryz.f8.params.toList ++ Rows.ratioTurnsSpec.plain.varTypes Tryz.prog) (ds ++ gs)).all (· ≤ reachBytes) = true := hsz0
  clear hsz0
  have hval : ∀ (j : Nat) t v, Tryz.f8.params[j]? = some t → args[j]? = some v → Value.okWide Tryz.prog W .any base t v := hval0
  have hW' := hW
  obtain ⟨p, q, hA0, hV, rfl, hfz, hnd⟩ := hW
  have hA : DataW.TrodAll enc Tryz.prog W 0 (fun _ => true) true Tryz.f8.params.toList args.toList ds p := hA0
  have hvt : Rows.ratioTurnsSpec.plain.varTypes Tryz.prog = [] := rfl
  rw [Tryz.params8, hvt] at hsz
  rw [Tryz.params8] at hA hval
  obtain ⟨v0, vs0, d0, ds0, p0, q0, hargs, rfl, rfl, h0, r0⟩ := trodAll_cons hA
  obtain ⟨v1, vs1, d1, ds1, p1, q1, rfl, rfl, rfl, h1, r1⟩ := trodAll_cons r0
  obtain ⟨v2, vs2, d2, ds2, p2, q2, rfl, rfl, rfl, h2, r2⟩ := trodAll_cons r1
  obtain ⟨rfl, rfl, rfl⟩ := trodAll_nil r2
  obtain rfl : args = #[v0, v1, v2] := by cases args; simp_all
  obtain ⟨rfl, rfl⟩ := trodVars_none hV
  have hlt : ∀ x ∈ (p0 ++ p1 ++ p2 ++ ([] : List MemPlace)), x.block < W.heap.size := fun x hx => hW'.lt x (by simpa using hx)
  have hwt : ∀ x ∈ DataW.weightsEach Tryz.prog [26, 75, 82] [d0, d1, d2], x ≤ reachBytes := fun x hx => of_decide_eq_true (List.all_eq_true.1 hsz x (by simpa using hx))
  obtain ⟨u0, hw0⟩ := each_cons hwt
  obtain ⟨u1, hw1⟩ := each_cons hw0
  obtain ⟨u2, hw2⟩ := each_cons hw1
  have k0 := h0
  obtain ⟨l0, g0, s0⟩ := lp_arg (hval 0 26 v0 rfl rfl) h0
  have k1 := h1
  obtain ⟨x1, y1, b1, t1, rfl, g1, q1, s1⟩ := basis_arg (hval 1 75 v1 rfl rfl) h1
  have k2 := h2
  obtain ⟨x2, y2, up2, sb2, As2, ls2, cs2, Bs2, ms2, ds_2, flip2, b2, t2, sh2, rfl, g2, q2, z2, s2⟩ := numbers_arg (hval 2 82 v2 rfl rfl) h2
  refine (I.turns_walk g0 (s0 u0).1 g1 q1 g2 (fun f hf => cnt_of ((s2 u2).1 f hf)) q2 (fun f hf => cnt_of ((s2 u2).2.1 f hf)) z2 (by have := (s2 u2).2.2; unfold Cnt at this; omega)).mono fun e W' ⟨he, hg⟩ => ?_
  subst he
  exact ⟨_, rfl, post_below (pa := p0 ++ (p1 ++ (p2 ++ ([])))) (pv := []) hW' (fun _ _ _ => (trodAll_cons_mk (shut_bool Tryz.underlying4 _) trodAll_mk0)) (fun sp hsp => (trodAll_cons_mk (stays (by kernel_rfl) (of_decide_eq_true (by kernel_rfl)) k0 hg (fun x hx => hlt x (by simp [hx])) (fun x hx => hsp _ (by simp [hx]))) (trodAll_cons_mk (stays (by kernel_rfl) (of_decide_eq_true (by kernel_rfl)) k1 hg (fun x hx => hlt x (by simp [hx])) (fun x hx => hsp _ (by simp [hx]))) (trodAll_cons_mk (stays (by kernel_rfl) (of_decide_eq_true (by kernel_rfl)) k2 hg (fun x hx => hlt x (by simp [hx])) (fun x hx => hsp _ (by simp [hx]))) trodAll_mk0)))) (fun _ _ => rfl) (by simp) hg (ok_one (by kernel_rfl) rfl (okWide_bool_mk Tryz.underlying4 _))⟩
theorem over : Rows.ratioTurnsRow.holds Tryz.pinned (OpenSpec.ofChange Rows.ratioTurnsSpec) :=
  OpenClaim.holds_of_wide 8 Tryz.f8 rfl rfl rfl rfl rfl rfl rfl ⟨rfl, rfl, rfl, rfl, rfl⟩ rfl rfl rfl rfl rfl (by kernel_rfl) Tryz.func8 (by kernel_rfl)
    (of_decide_eq_true (by kernel_rfl)) (by unfold Func.isWrapper; first | (rw [if_pos (by decide +kernel)]; kernel_rfl) | (rw [if_neg (by decide +kernel)]; exact ⟨rfl, rfl⟩))
    (fun os started H enc _ => lifted os started H enc)
theorem proved : Rows.RatioTurnsSaid := over
#print axioms proved
end Go.Proofs.YtaajajngnmaggaaGreat.ratioTurns
