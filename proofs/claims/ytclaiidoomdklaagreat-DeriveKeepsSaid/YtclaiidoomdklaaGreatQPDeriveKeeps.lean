import Derived.Test.YtclaiidoomdklaaGreatNA3
import Derived.Test.YtclaiidoomdklaaGreatNA2
/- Numbers keep the constraint of each bound of a linear problem just if the column's own number, theirs or the row's sum, is within it: for every input, no condition. -/
set_option maxRecDepth 100000
set_option maxHeartbeats 8000000
set_option linter.unusedVariables false
set_option linter.unusedSimpArgs false
namespace Go.Proofs.YtclaiidoomdklaaGreat.deriveKeeps
open Go Go.ChangeShapes Go.WideShapes Go.ChangeAt Go.RowKit Pl
set_option maxRecDepth 1000000 in
theorem lifted (os:Os) (started:os.Started) (H:Type) (enc:TypeId × Value->H):
 ReturnsInHanded {} Tryz.checked os 4 .any (Rows.deriveKeepsSpec.pre6 enc Tryz.prog Tryz.f4 Rows.deriveKeepsRow.domain false) (Rows.deriveKeepsSpec.post enc Tryz.prog Tryz.f4 false true false false):=by
 refine returnsInHanded_of_change_shaped (C:=Tryz.checked) own started (by kernel_rfl) Tryz.func4
  (ChangeSpec.witness6 (enc:=enc) (C:=Tryz.checked) false ⟨#[],#[.agg #[.int .i64 0,.slice none 0 0,.slice none 0 0,.slice none 0 0,.slice none 0 0,.slice none 0 0,.slice none 0 0],.slice none 0 0],[]⟩ 8 (by kernel_rfl) (by kernel_rfl) (by kernel_rfl) (by kernel_rfl)) ?_
 intro W base args ds gs before hval0 hW hcnd hsz0 hsh _
 have hsz:(DataW.weightsEach Tryz.prog (Tryz.f4.params.toList++Rows.deriveKeepsSpec.plain.varTypes Tryz.prog) (ds++gs)).all (·<=reachBytes)=true:=hsz0
 clear hsz0
 have hval:∀ (j:Nat) t v,Tryz.f4.params[j]?=some t->args[j]?=some v->Value.okWide Tryz.prog W .any base t v:=hval0
 have hW':=hW
 obtain ⟨p,q,hA0,hV,rfl,hfz,hnd⟩:=hW
 have hA:DataW.TrodAll enc Tryz.prog W 0 (fun _=>true) true Tryz.f4.params.toList args.toList ds p:=hA0
 have hvt:Rows.deriveKeepsSpec.plain.varTypes Tryz.prog=[]:=rfl
 rw [Tryz.params4,hvt] at hsz
 rw [Tryz.params4] at hA hval
 obtain ⟨v0,vs0,d0,ds0,p0,q0,hargs,rfl,rfl,h0,r0⟩:=trodAll_cons hA
 obtain ⟨v1,vs1,d1,ds1,p1,q1,rfl,rfl,rfl,h1,r1⟩:=trodAll_cons r0
 obtain ⟨rfl,rfl,rfl⟩:=trodAll_nil r1
 obtain rfl:args=#[v0,v1]:=by cases args;simp_all
 obtain ⟨rfl,rfl⟩:=trodVars_none hV
 have hlt:∀ x∈(p0++p1++([]:List MemPlace)),x.block<W.heap.size:=fun x hx=>hW'.lt x (by simpa using hx)
 have hwt:∀ x∈DataW.weightsEach Tryz.prog [26,24] [d0,d1],x<=reachBytes:=fun x hx=>of_decide_eq_true (List.all_eq_true.1 hsz x (by simpa using hx))
 obtain ⟨u0,hw0⟩:=each_cons hwt
 obtain ⟨u1,hw1⟩:=each_cons hw0
 have k0:=h0
 obtain ⟨l0,g0,s0⟩:=lp_arg (hval 0 26 v0 rfl rfl) h0
 have k1:=h1
 obtain ⟨a1,g1,s1⟩:=rats_arg (hval 1 24 v1 rfl rfl) h1
 refine (I.keeps_walk g0 (s0 u0).1 g1 (fun f hf=>cnt_of (s1 u1 f hf))).mono fun e W' ⟨he,hg⟩=>?_
 subst he
 exact ⟨_,rfl,post_below (pa:=p0++(p1++([]))) (pv:=[]) hW' (fun _ _ _=>(trodAll_cons_mk (shut_bool Tryz.underlying4 _) trodAll_mk0)) (fun sp hsp=>(trodAll_cons_mk (stays (by kernel_rfl) (of_decide_eq_true (by kernel_rfl)) k0 hg (fun x hx=>hlt x (by simp [hx])) (fun x hx=>hsp _ (by simp [hx]))) (trodAll_cons_mk (stays (by kernel_rfl) (of_decide_eq_true (by kernel_rfl)) k1 hg (fun x hx=>hlt x (by simp [hx])) (fun x hx=>hsp _ (by simp [hx]))) trodAll_mk0))) (fun _ _=>rfl) (by simp) hg (ok_one (by kernel_rfl) rfl (okWide_bool_mk Tryz.underlying4 _))⟩
theorem over:Rows.deriveKeepsRow.holds Tryz.pinned (OpenSpec.ofChange Rows.deriveKeepsSpec):=
 OpenClaim.holds_of_wide 4 Tryz.f4 rfl rfl rfl rfl rfl rfl rfl ⟨rfl,rfl,rfl,rfl,rfl⟩ rfl rfl rfl rfl rfl (by kernel_rfl) Tryz.func4 (by kernel_rfl)
  (of_decide_eq_true (by kernel_rfl)) (by unfold Func.isWrapper;first | (rw [if_pos (by decide+kernel)];kernel_rfl) | (rw [if_neg (by decide+kernel)];exact ⟨rfl,rfl⟩))
  (fun os started H enc _=>lifted os started H enc)
theorem proved:Rows.DeriveKeepsSaid:=over
#print axioms proved
end Go.Proofs.YtclaiidoomdklaaGreat.deriveKeeps
