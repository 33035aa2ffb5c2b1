import Derived.Test.YtclaiidoomdklaaGreatSNA23
set_option maxRecDepth 100000
set_option maxHeartbeats 8000000
set_option linter.unusedVariables false
set_option linter.unusedSimpArgs false
namespace Go.Proofs.YtclaiidoomdklaaGreat
section
section
open Go Go.RowKit Go.Proofs Pl
def Sane (l:LPx):Prop:=(∀ c∈l.cols,∀ t∈c,t.2.xs.length<=2305843009213693951/\t.2.ds.length<=2305843009213693951)/\∀ f,f∈l.lo∨f∈l.hi∨f∈l.cost->f.xs.length<=2305843009213693951/\f.ds.length<=2305843009213693951
def Fit30 (l:LPx):Prop:=Fit l/\l.lo.length<=30/\l.hi.length<=30/\l.cost.length<=30
theorem Rx.one {w:World} {g:Nat} {b:Bool} {A B:Option Addr} {l k m d:Nat} {f:Fx} (X:Bl w 37 g [.bool b,.slice A l k,.slice B m d]) (h:Fv w (.agg #[.bool b,.slice A l k,.slice B m d]) f):Rx w (.slice (some ⟨g,0,none⟩) 1 1) [f]:=by
 refine ⟨[⟨b,A,l,k,B,m,d⟩],⟨some ⟨g,0,none⟩,1,rfl,Nat.le_refl _,by unfold maxLen;decide,by simp,.inr ⟨g,0,rfl,X.lt,fun i u hi=>?_⟩⟩,rfl,fun i x y hx hy=>?_⟩
 · rw [Nat.zero_add];exact X.ld i (by simpa [flat,Rm.cs] using hi)
 · match i,hx,hy with
   | 0,hx,hy=>
    obtain rfl:=Option.some.inj hx
    obtain rfl:=Option.some.inj hy
    exact h
   | i+1,hx,_=>cases hx
namespace I
theorem great_l {w:World} {v:Value} {l:LPx} (h:LPv w v l) (hs:Sane l):
 Calls Tryz.prog 10 #[v] w fun e w'=>Saysb (fun r=>r=false->Fit30 l) e/\Yg w w':=by
 obtain ⟨aA,an,ac,bA,bn,bc,cA,cn,cc,dA,dn,dc,eA,en,ec,fA,fn,fc,rfl,hP,hla,hlb,hlc,hld,hle,hlf,hma,hmb,hmc,hmd,hme,hmf⟩:=h.open
 have HS:=Lib.hid hP
 have HL:=Yh6 hla hlb hlc hld hle hlf
 have HSN:=Lib.hid hs
 have hma2:an<=9223372036854775807:=by unfold maxLen at hma;omega
 clear hP hs hla hlb hlc hld hle hlf hma hmb hmc hmd hme hmf h
 change Calls Tryz.prog 10 #[.agg #[.int .i64 l.n,.slice aA an ac,.slice bA bn bc,.slice cA cn cc,.slice dA dn dc,.slice eA en ec,.slice fA fn fc]] w _
 go_enter Tryz.func10,Tryz.ntmps10
 go_upto_region 1 with (fail)
 have S0:=Yh2 (Bl.new w 26 [.int .i64 l.n,.slice aA an ac,.slice bA bn bc,.slice cA cn cc,.slice dA dn dc,.slice eA en ec,.slice fA fn fc]) (Ya w (.cells #[.int .i64 l.n,.slice aA an ac,.slice bA bn bc,.slice cA cn cc,.slice dA dn dc,.slice eA en ec,.slice fA fn fc] 26))
 have HA:=Yh6 (HS.p0.keep S0.q1) (HS.p1.keep S0.q1) (HS.p2.keep S0.q1) (HS.p3.keep S0.q1) (HS.p4.keep S0.q1) (HS.q5.keep S0.q1)
 clear HS
 have HBW:=Lib.hid S0.q1
 have HBL:=Lib.hid S0.p0
 clear S0
 generalize w.alloc _=W0 at HA HBW HBL ⊢
 have HC:Hid (∀ W,Yg W0 W->Ye7 W w.heap.size (.int .i64 l.n) (.slice aA an ac) (.slice bA bn bc) (.slice cA cn cc) (.slice dA dn dc) (.slice eA en ec) (.slice fA fn fc)):=fun W hb=>⟨Bl.ld (HBL.out.keep hb) 0 rfl,Bl.ld (HBL.out.keep hb) 1 rfl,Bl.ld (HBL.out.keep hb) 2 rfl,Bl.ld (HBL.out.keep hb) 3 rfl,Bl.ld (HBL.out.keep hb) 4 rfl,Bl.ld (HBL.out.keep hb) 5 rfl,Bl.ld (HBL.out.keep hb) 6 rfl⟩
 have B1:=Lib.hid (below_d W0)
 refine wp_region_held_drew (S:=fun W=>Ye7 W w.heap.size (.int .i64 l.n) (.slice aA an ac) (.slice bA bn bc) (.slice cA cn cc) (.slice dA dn dc) (.slice eA en ec) (.slice fA fn fc)) (by kernel_rfl) (HC.out _ B1.out) (fun Hh=>?_)
 generalize W0.drew=Wd at B1 Hh ⊢
 refine rgFree [0,1,3,4,6,7,8,10] (Yl 12 0) (fun HFR=>?_)
 refine rgRun 6 [0,1,3,4,7,8] Hh fun K hK=>?_
 repeat refine rgA ?_
 refine hK _ _ ?_;clear hK K
 refine rgO 2 fun K hK=>?_
 go_simp
 go_at_call 58;refine (weight_r (HA.p3.keep B1.out) (fun f hf=>HSN.q1 f (.inl hf))).mono ?_;rintro e wB2 ⟨⟨mB2,rfl⟩,hb⟩
 have B2:=Lib.hid (Yb B1.out hb)
 clear hb B1 Hh
 go_wp2_with fail
 refine rgK hK (HC.out _ B2.out) fun Hh=>?_;clear hK K
 refine rgO 5 fun K hK=>?_
 go_simp
 go_at_call 58;refine (weight_r (HA.p4.keep B2.out) (fun f hf=>HSN.q1 f (.inr (.inl hf)))).mono ?_;rintro e wB3 ⟨⟨mB3,rfl⟩,hb⟩
 have B3:=Lib.hid (Yb B2.out hb)
 clear hb B2 Hh
 go_wp2_with fail
 refine rgK hK (HC.out _ B3.out) fun Hh=>?_;clear hK K
 refine rgU 6 11 HFR Hh ?_
 refine rgO 9 fun K hK=>?_
 go_simp
 go_at_call 58;refine (weight_r (HA.q5.keep B3.out) (fun f hf=>HSN.q1 f (.inr (.inr hf)))).mono ?_;rintro e wB4 ⟨⟨mB4,rfl⟩,hb⟩
 have B4:=Lib.hid (Yb B3.out hb)
 clear hb B3 Hh
 go_wp2_with fail
 refine rgK hK (HC.out _ B4.out) fun Hh=>?_;clear hK K
 refine rgU 10 15 HFR Hh ?_
 refine rgT 11 Hh ?_
 refine Yw ?_
 clear Hh
 generalize IntKind.i64.wrap _=n0
 go_wp2_with fail
 go_loopw [3,4] (fun z3 z4 wr=>∃ (k:Nat) (n:Int),z3=.int .i64 n/\z4=.int .i64 (k:Int)/\k<=an/\Hid (Yg W0 wr/\∀ c∈l.cols.take k,c.length<=30/\∀ t∈c,t.2.xs.length+t.2.ds.length<=6)) (fun _ z _=>an - (intOf z).toNat)
 case atStart=>exact ⟨0,_,rfl,rfl,Nat.zero_le _,B4.out,by simp⟩
 case round=>
  obtain ⟨k,n,rfl,rfl,hk,H⟩:=hrel
  by_cases hlt:k<an
  · skip
    obtain ⟨ta,hta⟩:∃ t,l.cols[k]?=some t:=⟨_,List.getElem?_eq_getElem (by rw [HL.p0];exact hlt)⟩
    obtain ⟨ga,oa,qa,xa,e,hga,hva,za0⟩:=HA.p0.at_ hta
    rw [HL.p0] at e
    injection e with e1 e2 e3
    subst e1
    clear e2 e3 qa
    have HV:=Yh3 hva (List.mem_of_getElem? hta) (take_f hta)
    have HCa:Hid (∀ W,Yg W0 W->W.cell? ⟨ga,oa+k,none⟩=some (.slice xa.A xa.l xa.k)/\Ye7 W w.heap.size (.int .i64 l.n) (.slice (some ⟨ga,oa,none⟩) an ac) (.slice bA bn bc) (.slice cA cn cc) (.slice dA dn dc) (.slice eA en ec) (.slice fA fn fc)):=fun W hb=>⟨(hb.cell (p:=⟨ga,_,none⟩) hga).trans za0,Bl.ld (HBL.out.keep hb) 0 rfl,Bl.ld (HBL.out.keep hb) 1 rfl,Bl.ld (HBL.out.keep hb) 2 rfl,Bl.ld (HBL.out.keep hb) 3 rfl,Bl.ld (HBL.out.keep hb) 4 rfl,Bl.ld (HBL.out.keep hb) 5 rfl,Bl.ld (HBL.out.keep hb) 6 rfl⟩
    clear hga hta za0 hva
    have dk:(k:Int)<(an:Int):=Yo
    obtain ⟨za0,l0,l1,l2,l3,l4,l5,l6⟩:=HCa.out _ H.p0
    go_wp2_with fail
    refine (great_t (HV.p0.keep H.p0) (fun t ht=>HSN.p0 _ HV.p1 t ht)).mono ?_;rintro e w5 ⟨⟨r,rfl,hr⟩,hb⟩
    have H5:=Yh2 (Yb H.p0 hb) H.q1
    have HR:=Lib.hid hr
    clear hb hr H za0 l0 l1 l2 l3 l4 l5 l6
    cases r with
    | true=>
     go_wp2_with fail
     go_ret
     exact ⟨⟨true,rfl,by simp⟩,Yb HBW.out H5.p0⟩
    | false=>
     obtain ⟨za0,l0,l1,l2,l3,l4,l5,l6⟩:=HCa.out _ H5.p0
     go_wp2_with fail
     refine (weights_t (HV.p0.keep H5.p0) (Nat.le_trans (HR.out (by trivial)).1 Yd) (fun t ht=>HSN.p0 _ HV.p1 t ht)).mono ?_;rintro e w7 ⟨⟨m,rfl⟩,hb⟩
     have H7:=Yh2 (Yb H5.p0 hb) H5.q1
     clear hb H5 za0 l0 l1 l2 l3 l4 l5 l6
     go_wp2_with fail
     case roundEnd=>exact ⟨⟨k+1,_,rfl,by go_num,Yo,H7.p0,fun c hc=>by rw [HV.q2] at hc;rcases List.mem_append.1 hc with hc | hc;exact H7.q1 c hc;rw [List.mem_singleton.1 hc];exact HR.out (by trivial)⟩,by simp [intOf];omega⟩
  obtain rfl:k=an:=by omega
  have dk:¬ (k:Int)<(k:Int):=Yo
  have HALL:Hid (∀ c∈l.cols,c.length<=30/\∀ t∈c,t.2.xs.length+t.2.ds.length<=6):=by have h:=H.q1;rw [List.take_of_length_le (by rw [HL.p0];exact Nat.le_refl _)] at h;exact h
  obtain ⟨l0,l1,l2,l3,l4,l5,l6⟩:=HC.out _ H.p0
  by_cases d1:(18:Int)<n
  · skip
    go_wp2_with fail
    go_ret
    exact ⟨⟨true,rfl,by simp⟩,Yb HBW.out H.p0⟩
  by_cases d2:(14:Int)<(k:Int)
  · skip
    go_wp2_with fail
    go_ret
    exact ⟨⟨true,rfl,by simp⟩,Yb HBW.out H.p0⟩
  have H14:=Lib.hid (show k<=14 by omega)
  have B10:=Lib.hid H.p0
  clear H
  go_wp2_with fail
  refine (greatAll_r (HA.p3.keep B10.out) (fun f hf=>HSN.q1 f (.inl hf))).mono ?_;rintro e w11 ⟨⟨r1,rfl,hr⟩,hb⟩
  have B11:=Lib.hid (Yb B10.out hb)
  have HR1:=Lib.hid hr
  clear hr hb l0 l1 l2 l3 l4 l5 l6 B10
  obtain ⟨l0,l1,l2,l3,l4,l5,l6⟩:=HC.out _ B11.out
  cases r1 with
  | true=>
   go_wp2_with fail
   go_ret
   exact ⟨⟨true,rfl,by simp⟩,Yb HBW.out B11.out⟩
  | false=>
   go_wp2_with fail
   refine (greatAll_r (HA.p4.keep B11.out) (fun f hf=>HSN.q1 f (.inr (.inl hf)))).mono ?_;rintro e w12 ⟨⟨r2,rfl,hr⟩,hb⟩
   have B12:=Lib.hid (Yb B11.out hb)
   have HR2:=Lib.hid hr
   clear hr hb l0 l1 l2 l3 l4 l5 l6 B11
   obtain ⟨l0,l1,l2,l3,l4,l5,l6⟩:=HC.out _ B12.out
   cases r2 with
   | true=>
    go_wp2_with fail
    go_ret
    exact ⟨⟨true,rfl,by simp⟩,Yb HBW.out B12.out⟩
   | false=>
    go_wp2_with fail
    refine (greatAll_r (HA.q5.keep B12.out) (fun f hf=>HSN.q1 f (.inr (.inr hf)))).mono ?_;rintro e w13 ⟨⟨r3,rfl,hr⟩,hb⟩
    have B13:=Lib.hid (Yb B12.out hb)
    have HR3:=Lib.hid hr
    clear hr hb l0 l1 l2 l3 l4 l5 l6 B12
    obtain ⟨l0,l1,l2,l3,l4,l5,l6⟩:=HC.out _ B13.out
    go_wp2_with fail
    go_ret
    exact ⟨⟨_,rfl,fun hr3=>by subst hr3;exact ⟨⟨by rw [HL.p0];exact H14.out,fun c hc=>⟨(HALL.out c hc).1,fun t ht=>by have:=(HALL.out c hc).2 t ht;omega⟩,fun f hf=>by rcases hf with hf | hf | hf;have:=(HR1.out (by trivial)).2 f hf;omega;have:=(HR2.out (by trivial)).2 f hf;omega;have:=(HR3.out (by trivial)).2 f hf;omega⟩,(HR1.out (by trivial)).1,(HR2.out (by trivial)).1,(HR3.out (by trivial)).1⟩⟩,Yb HBW.out B13.out⟩
theorem great_u {w:World} {v:Value} {us:List Ux} (h:Uv w v us) (hs:∀ u∈us,u.f.xs.length<=2305843009213693951/\u.f.ds.length<=2305843009213693951):
 Calls Tryz.prog 11 #[v] w fun e w'=>Saysb (fun r=>r=false->us.length<=30/\∀ u∈us,u.f.xs.length+u.f.ds.length<=6) e/\Yg w w':=by
 obtain ⟨A,cap,rfl,q1,q2⟩:=h.shape
 obtain ⟨n,hn⟩:∃ n,us.length=n:=⟨_,rfl⟩
 rw [hn] at h q1 ⊢
 have hbig:n<=9223372036854775807:=by unfold maxLen at q2;omega
 have HS:=Yh3 h hs hn
 clear h hs hn q1 q2
 go_enter Tryz.func11,Tryz.ntmps11
 go_wp2_with fail
 go_loopw [3,4] (fun z1 z2 wr=>∃ (k:Nat) (m:Int),z1=.int .i64 m/\z2=.int .i64 (k:Int)/\k<=n/\Hid ((∀ u∈us.take k,u.f.xs.length+u.f.ds.length<=6)/\Yg w wr)) (fun _ z2 _=>n - (intOf z2).toNat)
 case atStart=>exact ⟨0,0,rfl,rfl,Nat.zero_le _,by simp,below_nil⟩
 case round=>
  obtain ⟨k,m,rfl,rfl,hk,H⟩:=hrel
  by_cases hlt:k<n
  · skip
    have hku:k<us.length:=by rw [HS.q2];exact hlt
    obtain ⟨t,ht⟩:∃ t,us[k]?=some t:=⟨_,List.getElem?_eq_getElem hku⟩
    obtain ⟨gu,ou,capu,x,e,hgu,hFt,x0,x1,x2,x3,x4⟩:=HS.p0.at_ ht
    injection e with e1 e2 e3
    subst e1
    have HC:Hid (∀ W,Yg w W->W.cell? ⟨gu,ou+k*5+2,none⟩=some (.bool x.b)/\W.cell? ⟨gu,ou+k*5+3,none⟩=some (.slice x.A x.l x.k)/\W.cell? ⟨gu,ou+k*5+4,none⟩=some (.slice x.B x.m x.d)):=fun W hb=>⟨(hb.cell (p:=⟨gu,_,none⟩) hgu).trans x2,(hb.cell (p:=⟨gu,_,none⟩) hgu).trans x3,(hb.cell (p:=⟨gu,_,none⟩) hgu).trans x4⟩
    have hfs:=HS.p1 t (List.mem_of_getElem? ht)
    have HX:=Yh3 hFt (take_f ht) hfs
    obtain ⟨s,hse⟩:∃ s,s=t.f.xs.length+t.f.ds.length:=⟨_,rfl⟩
    have HSE:=Lib.hid hse
    have dk:(k:Int)<(n:Int):=Yo
    clear ht hku e2 e3 hFt hfs capu x0 x1 x2 x3 x4 hse hgu
    obtain ⟨x2,x3,x4⟩:=HC.out _ H.q1
    go_wp2_with fail
    refine (words_qb (a:=x.num) (HX.p0.keep H.q1) (by have:=HX.q2;omega)).mono ?_;rintro e w4 ⟨rfl,hb⟩
    rw [show t.f.xs.length+t.f.ds.length=s from HSE.out.symm]
    have H4:=Yh2 H.p0 (Yb H.q1 hb)
    clear hb H x2 x3 x4
    by_cases h6:s<=6
    · skip
      have d6:¬ (6:Int)<(s:Int):=Yo
      obtain ⟨x2,x3,x4⟩:=HC.out _ H4.q1
      go_wp2_with fail
      refine (weight_r (fs:=[t.f]) (Rx.one (Bl.new w4 _ _) ((HX.p0.keep H4.q1).keep (Ya _ _))) (fun f hf=>by rw [List.mem_singleton.1 hf];exact HX.q2)).mono ?_;rintro e w5 ⟨⟨mm,rfl⟩,hb⟩
      have H5:=Yh2 H4.p0 (Yb (Yb H4.q1 (Ya _ _)) hb)
      clear hb H4 x2 x3 x4
      go_wp2_with fail
      case roundEnd=>
       refine ⟨⟨k+1,_,rfl,by go_num,Yo,fun u hu=>?_,H5.q1⟩,by simp [intOf];omega⟩
       rw [HX.p1] at hu
       rcases List.mem_append.1 hu with hu | hu
       · exact H5.p0 u hu
       · rw [List.mem_singleton.1 hu];rw [HSE.out] at h6;exact h6
    · have d6:(6:Int)<(s:Int):=by omega
      go_wp2_with fail
      go_ret
      exact ⟨⟨true,rfl,by simp⟩,H4.q1⟩
  have dk:¬ (k:Int)<(n:Int):=Yo
  have hall:Hid (∀ u∈us,u.f.xs.length+u.f.ds.length<=6):=by
   have h:=H.p0
   rw [List.take_of_length_le (by rw [HS.q2];omega)] at h
   exact h
  by_cases h30:n<=30
  · have d3:¬ (30:Int)<(n:Int):=by omega
    by_cases h18:(18:Int)<m
    · skip
      go_wp2_with fail
      go_ret
      exact ⟨⟨_,rfl,fun _=>hall.out⟩,H.q1⟩
    go_wp2_with fail
    go_ret
    exact ⟨⟨_,rfl,fun _=>hall.out⟩,H.q1⟩
  · have d3:(30:Int)<(n:Int):=by omega
    go_wp2_with fail
    go_ret
    exact ⟨⟨true,rfl,by simp⟩,H.q1⟩
end I
end
end
section
section
open Go Go.RowKit Go.Proofs Pl
section
variable {α:Type} {f:α->List Value} {ys:List α} {s:Nat} {w:World} {T:TypeId} {u:Value}
theorem run_append_lit {S:TypeId} {bytes:Nat} {z:Value} (hS:Tryz.prog.underlying S=some (.slice T)) (hI:(Tryz.prog.info? T).map (fun i=>(i.zero,i.size,i.bytes))=some (some z,s,bytes))
 (hby:0<s/\z.cells.size=s) (hf:∀ x,(f x).length=s) (hf1:∀ x,∀ u∈f x,u.oneCell'=true) (ty:TypeId) {g B:Nat} (X:Bl w T g []) (hB:B<=g) (hn:Rv w f u ys) (hl:ys.length*bytes<=140737488355328) (hl2:ys.length<=maxLen):
 ∃ A c w',(Builtin.append_ #[S,S] ty #[.slice (some ⟨g,0,none⟩) 0 0,u]).run Tryz.prog w=.ok (.slice A ys.length c) w'/\Rr w' B T s f (.slice A ys.length c) ys/\Yg w w':=by
 obtain ⟨i,hi,hz0,hz1,hz2⟩:=info_parts hI
 obtain ⟨A,cap,rfl,h1,h2,h3,h4⟩:=hn
 subst hz1;subst hz2
 have hown:w.ownsRow B T i.size (.slice (some ⟨g,0,none⟩) 0 0) 0 []:=⟨by simp,.inr ⟨g,0,#[],rfl,hB,X,Nat.le_refl _,Nat.zero_le _,by simp,by simp⟩⟩
 cases ys with
 | nil=>
  refine ⟨some ⟨g,0,none⟩,0,w,?_,hown,Below.refl _ _⟩
  cases A<;>simp [Builtin.append_,run_underlying hS,sizeOf,typeInfo,hi,Builtin.lenOf,Builtin.firstCells,storeCells,loadCells,loadCellsFrom]
 | cons y ys=>
  rcases h4 with h4 | ⟨b,off,rfl,hb,hc⟩
  · have:=flat_len hf (y::ys)
    rw [h4,List.length_cons] at this
    have h:=Nat.mul_pos (show 0<ys.length+1 by omega) hby.1
    simp only [List.length_nil] at this
    omega
  · have hnews:∀ (j:Nat) (u:Value),(flat f (y::ys))[j]?=some u->w.cell? ((⟨b,off,none⟩:Addr).add j)=some u:=fun j u hj=>by
     have e:(⟨b,off,none⟩:Addr).add j=⟨b,off+j,none⟩:=by unfold Addr.add;split<;>simp_all
     rw [e];exact hc j u hj
    have hr:=run_append_grow (P:=Tryz.prog) w S ty T i z hS hi hz0 ⟨g,0,none⟩ 0 0 [] (by simp) (fun j v h=>by simp at h) ⟨b,off,none⟩ (y::ys).length cap (flat f (y::ys)) (flat_len hf _) hnews (by simp) (by unfold maxLen at hl2;omega) (growslice_fits (by simp) (by rw [Nat.zero_add];exact hl))
    obtain ⟨v',w',hr',hown',-,-⟩:=run_append_own (P:=Tryz.prog) (w:=w) B S ty T i z i.size i.bytes hS hi hz0 rfl rfl hby.2 hby.1 _ 0 [] hown ⟨b,off,none⟩ (y::ys).length cap (flat f (y::ys)) (flat_len hf _) hnews (flat_cell hf1) (by rw [Nat.zero_add];exact hl2) (by rw [Nat.zero_add];exact hl) (Nat.le_trans hB (Nat.le_of_lt X.lt))
    rw [hr] at hr'
    injection hr' with e1 e2
    subst e1;subst e2
    rw [Nat.zero_add] at hr hown'
    rw [List.nil_append] at hown'
    refine ⟨_,_,_,hr,hown',⟨rfl,rfl,rfl,by show w.heap.size<=(w.heap.push _).size;simp,fun k hk=>?_⟩⟩
    exact Go.heap_alloc_old w.drew _ hk
theorem app_lit {S:TypeId} {bytes:Nat} {z:Value} (hS:Tryz.prog.underlying S=some (.slice T)) (hI:(Tryz.prog.info? T).map (fun i=>(i.zero,i.size,i.bytes))=some (some z,s,bytes))
 (hby:0<s/\z.cells.size=s) (hf:∀ x,(f x).length=s) (hf1:∀ x,∀ u∈f x,u.oneCell'=true) {o:Oper} {a:Act} {K:Act->World->Prop} {Q:Exit->Act->World->Prop} (sO xO:Operand)
 (ho:o.op=.call { callee:=.builtin .append,args:=#[sO,xO],argTypes:=#[S,S] }) {g B:Nat} (hs:a.eval sO=.slice (some ⟨g,0,none⟩) 0 0) (hx:a.eval xO=u)
 (X:Bl w T g []) (hB:B<=g) (hn:Rv w f u ys) (hl:ys.length*bytes<=140737488355328)
 (h:∀ A c w',Rr w' B T s f (.slice A ys.length c) ys->Yg w w'->K (a.put o.dst (.slice A ys.length c)) w'):o.wp Tryz.prog a w K Q:=by
 have hl2:ys.length<=maxLen:=by obtain ⟨_,_,-,h1,h2,-⟩:=hn;omega
 obtain ⟨A,c,w',hr,h2,h3⟩:=run_append_lit hS hI hby hf hf1 o.type X hB hn hl hl2
 unfold Oper.wp execOp
 simp only [ho,resolve,invoke,builtin,Sem.run_bind,Sem.run_pure,Result.andThen_ok,List.map_toArray,List.map_cons,List.map_nil,hs,hx,hr]
 exact h A c w' h2 h3
end
theorem bool_info:(Tryz.prog.info? 4).map (fun i=>(i.zero,i.size,i.bytes))=some (some (.bool false),1,1):=by kernel_rfl
theorem use_info:(Tryz.prog.info? 48).map (fun i=>(i.zero,i.size,i.bytes))=some (some (.agg #[.int .i64 0,.bool false,.bool false,.slice none 0 0,.slice none 0 0]),5,72):=by kernel_rfl
theorem terms_info:(Tryz.prog.info? 32).map (fun i=>(i.zero,i.size,i.bytes))=some (some (.slice none 0 0),1,24):=by kernel_rfl
end
end
section
section
open Go Go.RowKit Go.Proofs Pl
def Apart (v u:Value):Prop:=∀ k,v.ownBlock=some k->u.ownBlock≠some k
theorem Apart.symm {v u:Value} (h:Apart v u):Apart u v:=fun k h1 h2=>h k h2 h1
section
variable {α β:Type} {f:α->List Value} {f':β->List Value} {xs:List α} {ys:List β} {x:α} {s s' B:Nat} {w w':World} {T T':TypeId} {v v' u:Value}
theorem apart_nil:Apart (.slice none 0 0) u:=fun k h=>by simp [Value.ownBlock] at h
theorem Rr.stay (h:Rr w B T' s' f' u ys) (ha:Apart v u) (hk:∀ g,g<w.heap.size->v.ownBlock≠some g->w'.heap[g]?=w.heap[g]?):Rr w' B T' s' f' u ys:=by
 refine ⟨h.1,?_⟩
 rcases h.2 with hn | ⟨g,cap,cur,rfl,hb,hg,hr⟩
 · exact .inl hn
 · refine .inr ⟨g,cap,cur,rfl,hb,?_,hr⟩
   rw [hk g (Array.getElem?_eq_some_iff.1 hg).1 fun e=>ha g e (by simp [Value.ownBlock])]
   exact hg
theorem Rr.apart (h:Rr w B T' s' f' u ys) (ha:Apart v u) (hw:∀ k,v'.ownBlock=some k->v.ownBlock=some k∨w.heap.size<=k):Apart v' u:=fun k h1 h2=>by
 rcases hw k h1 with h3 | h3
 · exact ha k h3 h2
 · exact absurd (World.ownsRow.lt h k h2).2 Yo
theorem run_append_at {S ty:TypeId} {i:TypeInfo} {z:Value} (hS:Tryz.prog.underlying S=some (.slice T)) (hi:Tryz.prog.info? T=some i) (hz:i.zero=some z)
 {zs:List Value} (hown:w.ownsRow B T i.size v xs.length zs) {a:Addr} {news:List Value} (hl:news.length=1*i.size) (hnews:∀ (j:Nat) (u:Value),news[j]?=some u->w.cell? (a.add j)=some u) (h1:∀ u∈news,u.oneCell'=true)
 (hbig:xs.length<=1048576) (hby:(xs.length+1)*i.bytes<=140737488355328)
 {w':World} (hr:(Builtin.append_ #[S,S] ty #[v,.slice (some a) 1 1]).run Tryz.prog w=.ok v' w'):∀ k,v'.ownBlock=some k->v.ownBlock=some k∨w.heap.size<=k:=fun k hk=>by
 rcases hown.2 with ⟨rfl,he⟩ | ⟨g,cap,cur,rfl,hbg,hg,hnc,hcm,hcs,htake⟩
 · have h2:=run_append_nil (P:=Tryz.prog) w S ty T i z hS hi hz a 1 1 news hl hnews Yo Yo (by have:=hby;rw [he] at this;omega)
   rw [h2] at hr
   injection hr with e1 e2
   rw [<- e1] at hk
   simp [Value.ownBlock] at hk
   exact .inr Yo
 · by_cases hroom:xs.length+1<=cap
   · have hfit:xs.length*i.size+news.length<=cur.size:=by rw [hl,hcs,<- Nat.add_mul];exact Nat.mul_le_mul_right _ hroom
     have h2:=run_append_room (P:=Tryz.prog) w S ty T i hS hi g xs.length cap cur hg a 1 1 news hl hnews h1 hroom hfit
     rw [h2] at hr
     injection hr with e1 e2
     rw [<- e1] at hk
     simp [Value.ownBlock] at hk
     exact .inl (by simp [Value.ownBlock,hk])
   · have h2:=run_append_grow (P:=Tryz.prog) w S ty T i z hS hi hz ⟨g,0,none⟩ xs.length cap zs hown.1 (hown.cells (g:=g) rfl) a 1 1 news hl hnews Yo Yo (growslice_fits Yo hby)
     rw [h2] at hr
     injection hr with e1 e2
     rw [<- e1] at hk
     simp [Value.ownBlock] at hk
     exact .inr Yo
theorem app_at {S:TypeId} {bytes:Nat} {z:Value} (hS:Tryz.prog.underlying S=some (.slice T)) (hI:(Tryz.prog.info? T).map (fun i=>(i.zero,i.size,i.bytes))=some (some z,s,bytes))
 (hby:0<s/\z.cells.size=s/\bytes<=128) (hf:∀ x,(f x).length=s) (hf1:∀ x,∀ u∈f x,u.oneCell'=true) {o:Oper} {a:Act} {K:Act->World->Prop} {Q:Exit->Act->World->Prop} (sO xO:Operand)
 (ho:o.op=.call { callee:=.builtin .append,args:=#[sO,xO],argTypes:=#[S,S] }) {w0:World} {gn:Nat} (hs:a.eval sO=v) (hx:a.eval xO=.slice (some ⟨gn,0,none⟩) 1 1)
 (hown:Rr w w0.heap.size T s f v xs) (hn:Bl w T gn (f x)) (hl:xs.length<=1048576) (hb:Yg w0 w)
 (h:∀ v' w',Rr w' w0.heap.size T s f v' (xs++[x])->Yg w0 w'->(∀ T',T≠T'->KeepT T' w w')->(∀ g,g<w.heap.size->v.ownBlock≠some g->w'.heap[g]?=w.heap[g]?)->(∀ k,v'.ownBlock=some k->v.ownBlock=some k∨w.heap.size<=k)->K (a.put o.dst v') w'):o.wp Tryz.prog a w K Q:=by
 obtain ⟨i0,hi0,hz0,hz1,hz2⟩:=info_parts hI
 subst hz1
 have h48:(xs.length+1)*i0.bytes<=140737488355328:=by rw [hz2];have:=Nat.mul_le_mul (show xs.length+1<=1048577 by omega) hby.2.2;omega
 have hnl:(f x).length=1*i0.size:=by rw [hf];omega
 obtain ⟨v',w',hr,h1,h2,-⟩:=run_append_own (P:=Tryz.prog) (w:=w) w0.heap.size S o.type T i0 z i0.size i0.bytes hS hi0 hz0 rfl rfl hby.2.1 hby.1 v xs.length (flat f xs) hown ⟨gn,0,none⟩ 1 1 (f x) hnl (fun j u hj=>hn.cell hj) (hf1 x) (by unfold maxLen;omega) h48 hb.size
 have hwh:=run_append_at hS hi0 hz0 (xs:=xs) hown hnl (fun j u hj=>hn.cell hj) (hf1 x) hl h48 hr
 unfold Oper.wp execOp
 simp only [ho,resolve,invoke,builtin,Sem.run_bind,Sem.run_pure,Result.andThen_ok,List.map_toArray,List.map_cons,List.map_nil,hs,hx,hr]
 refine h v' w' ?_ (hb.grown h2 hb.size (fun k hk=>(World.ownsRow.lt hown k hk).1)) (fun T' hT=>own_keepT_of hown h2 hT) (fun g hg hne=>h2.block g hg (fun e=>hne e.symm)) hwh
 unfold Rr
 rw [flat_app,flat_one_,List.length_append]
 exact h1
end
end
end
end Go.Proofs.YtclaiidoomdklaaGreat
