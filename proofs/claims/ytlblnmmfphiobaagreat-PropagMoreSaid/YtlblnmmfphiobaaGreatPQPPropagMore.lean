import Derived.Test.YtlblnmmfphiobaaGreatPNA36
import Derived.Test.YtlblnmmfphiobaaGreatPNA35
set_option maxRecDepth 100000
set_option maxHeartbeats 8000000
set_option linter.unusedVariables false
set_option linter.unusedSimpArgs false
namespace Go.Proofs.YtlblnmmfphiobaaGreat.propagMore
open Go Go.ChangeShapes Go.WideShapes Go.ChangeAt Go.RowKit Pl
set_option maxRecDepth 1000000 in
theorem Sn (os:Os) (started:os.Started) (H:Type) (enc:TypeId × Value->H):
 ReturnsInHanded {} Tryz.checked os 5 .any (Rows.propagMoreSpec.pre6 enc Tryz.prog Tryz.f5 Rows.propagMoreRow.domain false) (Rows.propagMoreSpec.post enc Tryz.prog Tryz.f5 false true false false):=by
 refine returnsInHanded_of_change_shaped (C:=Tryz.checked) own started (by kernel_rfl) Tryz.func5
  (ChangeSpec.witness6 (enc:=enc) (C:=Tryz.checked) false ⟨#[],#[.agg #[.int .i64 0,.slice none 0 0,.slice none 0 0,.slice none 0 0,.slice none 0 0,.slice none 0 0,.slice none 0 0],.slice none 0 0,.agg #[.int .i64 0,.int .i64 0]],[]⟩ 8 (by kernel_rfl) (by kernel_rfl) (by kernel_rfl) (by kernel_rfl)) ?_
 intro W base args ds gs before hval0 hW hcnd hsz0 hsh _;have hsz:(DataW.weightsEach Tryz.prog (Tryz.f5.params.toList++Rows.propagMoreSpec.plain.varTypes Tryz.prog) (ds++gs)).all (·<=reachBytes)=true:=hsz0;clear hsz0;have hval:∀ (j:Nat) t v,Tryz.f5.params[j]?=some t->args[j]?=some v->Value.okWide Tryz.prog W .any base t v:=hval0;have hW':=hW;obtain ⟨p,q,hA0,hV,rfl,hfz,hnd⟩:=hW;have hA:DataW.TrodAll enc Tryz.prog W 0 (fun _=>true) true Tryz.f5.params.toList args.toList ds p:=hA0;have hvt:Rows.propagMoreSpec.plain.varTypes Tryz.prog=[]:=rfl;rw [Tryz.params5,hvt] at hsz;rw [Tryz.params5] at hA hval;obtain ⟨v0,vs0,d0,ds0,p0,q0,hargs,rfl,rfl,h0,r0⟩:=trodAll_cons hA;obtain ⟨v1,vs1,d1,ds1,p1,q1,rfl,rfl,rfl,h1,r1⟩:=trodAll_cons r0;obtain ⟨v2,vs2,d2,ds2,p2,q2,rfl,rfl,rfl,h2,r2⟩:=trodAll_cons r1;obtain ⟨rfl,rfl,rfl⟩:=trodAll_nil r2;obtain rfl:args=#[v0,v1,v2]:=by cases args;simp_all
 obtain ⟨rfl,rfl⟩:=trodVars_none hV;have hlt:∀ x∈(p0++p1++p2++([]:List MemPlace)),x.block<W.heap.size:=fun x hx=>hW'.lt x (by simpa using hx);have hwt:∀ x∈DataW.weightsEach Tryz.prog [26,23,70] [d0,d1,d2],x<=reachBytes:=fun x hx=>of_decide_eq_true (UO.1 hsz x (by simpa using hx));obtain ⟨u0,hw0⟩:=AV hwt;obtain ⟨u1,hw1⟩:=AV hw0;obtain ⟨u2,hw2⟩:=AV hw1;have k0:=h0;obtain ⟨l0,g0,s0⟩:=St (hval 0 26 v0 rfl rfl) h0;have k1:=h1;obtain ⟨f1,g1,s1⟩:=MH (hval 1 23 v1 rfl rfl) h1;have k2:=h2;obtain ⟨pa2,pb2,rfl⟩:=PQ (hval 2 70 v2 rfl rfl) h2;refine (I.MW g0 (s0 u0).1 g1).mono fun e W' ⟨he,hg⟩=>?_;subst he;exact ⟨_,rfl,K6 (pa:=p0++(p1++(p2++([])))) (pv:=[]) hW' (fun _ _ _=>(trodAll_cons_mk (shut_bool Tryz.underlying4 _) trodAll_mk0)) (fun sp hsp=>(trodAll_cons_mk (LK (by kernel_rfl) (of_decide_eq_true (by kernel_rfl)) k0 hg (fun x hx=>hlt x (by simp [hx])) (fun x hx=>hsp _ (by simp [hx]))) (trodAll_cons_mk (LK (by kernel_rfl) (of_decide_eq_true (by kernel_rfl)) k1 hg (fun x hx=>hlt x (by simp [hx])) (fun x hx=>hsp _ (by simp [hx]))) (trodAll_cons_mk (LK (by kernel_rfl) (of_decide_eq_true (by kernel_rfl)) k2 hg (fun x hx=>hlt x (by simp [hx])) (fun x hx=>hsp _ (by simp [hx]))) trodAll_mk0)))) (fun _ _=>rfl) (by simp) hg (ok_one (by kernel_rfl) rfl (okWide_bool_mk Tryz.underlying4 _))⟩
theorem closed:joinedFacts Tryz.pinned.checked.prog 5 Tryz.f5 Rows.propagMoreSpec Rows.propagMoreRow=true:=by kernel_rfl
theorem Ts:Tryz.pinned.checked.prog.funcNamed Rows.propagMoreRow.func=some 5:=by kernel_rfl
theorem over:Rows.propagMoreRow.holds Tryz.pinned (OpenSpec.ofChange Rows.propagMoreSpec):=
 OpenClaim.holds_of_wide 5 Tryz.f5 rfl rfl rfl rfl rfl rfl rfl ⟨rfl,rfl,rfl,rfl,rfl⟩ rfl rfl rfl rfl rfl Ts Tryz.func5 closed
  (of_decide_eq_true (by kernel_rfl)) (by unfold Func.isWrapper;first | (rw [if_pos (by decide+kernel)];kernel_rfl) | (rw [if_neg (by decide+kernel)];exact ⟨rfl,rfl⟩))
  (fun os started H enc _=>Sn os started H enc)
theorem proved:Rows.PropagMoreSaid:=over
#print axioms proved
end Go.Proofs.YtlblnmmfphiobaaGreat.propagMore
