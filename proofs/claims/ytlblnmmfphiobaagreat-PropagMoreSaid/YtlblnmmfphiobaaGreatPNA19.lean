import Derived.Test.YtlblnmmfphiobaaGreatPNA18
set_option maxRecDepth 100000
set_option maxHeartbeats 8000000
set_option linter.unusedVariables false
set_option linter.unusedSimpArgs false
namespace Go.Proofs.YtlblnmmfphiobaaGreat
section
open Go Go.RowKit Go.Proofs Pl
section
variable {T e:TypeId} {w w0:World} {g h B:Nat} {us vs:List Value} {x0 x1 x2:Value}
def Gj (w:World) (g:Nat) (x0 x1 x2:Value):World:=(((w.setCell ⟨g,0,none⟩ x0).setCell ⟨g,1,none⟩ x1).setCell ⟨g,2,none⟩ x2)
theorem Bl.set3 (X:Bl w T g us) (hl:us.length=3) (x0 x1 x2:Value):Bl (Gj w g x0 x1 x2) T g [x0,x1,x2]:=by
 have:=((X.set 0 x0).set 1 x1).set 2 x2
 match us,hl with
 | [_,_,_],_=>exact this
theorem Bl.keep3 (X:Bl w T g us) (hne:T≠e) (x0 x1 x2:Value):Ak e w (Gj w g x0 x1 x2):=
 ((X.keepT1 hne 0 x0).trans ((X.set 0 x0).keepT1 hne 1 x1)).trans (((X.set 0 x0).set 1 x1).keepT1 hne 2 x2)
theorem Bl.other3 (X:Bl w T h vs) (hp:g≠h) (x0 x1 x2:Value):Bl (Gj w g x0 x1 x2) T h vs:=
 ((X.other (p:=⟨g,0,none⟩) hp x0).other (p:=⟨g,1,none⟩) hp x1).other (p:=⟨g,2,none⟩) hp x2
theorem C4 (hb:Below B w0 w) (hg:B<=g) (x0 x1 x2:Value):Below B w0 (Gj w g x0 x1 x2):=
 ((hb.setCell (p:=⟨g,0,none⟩) hg x0).setCell (p:=⟨g,1,none⟩) hg x1).setCell (p:=⟨g,2,none⟩) hg x2
end
theorem Rr.lit1 {α:Type} {f:α->List Value} {s:Nat} (w:World) (B:Nat) (T:TypeId) (x:α) (hB:B<=w.heap.size) (hf:∀ x,(f x).length=s) (h0:0<s):Rr (w.alloc (.cells (f x).toArray T)) B T s f (.slice (some ⟨w.heap.size,0,none⟩) 1 1) [x]:=by
 exact ⟨by simp [Ca,hf],.inr ⟨w.heap.size,1,(f x).toArray,rfl,hB,World.alloc_heap_new w _,TL _,by unfold maxLen;decide,by simp [hf],by have e:=hf x;subst e;simp [Ca]⟩⟩
theorem LPv.open {w:World} {v:Value} {l:LPx} (h:LPv w v l):∃ aA an ac bA bn bc cA cn cc dA dn dc eA en ec fA fn fc,v=.agg #[.int .i64 l.n,.slice aA an ac,.slice bA bn bc,.slice cA cn cc,.slice dA dn dc,.slice eA en ec,.slice fA fn fc]/\
 (Gx w (.slice aA an ac) l.cols/\Ex w (.slice bA bn bc) l.hasLo/\Ex w (.slice cA cn cc) l.hasHi/\Rx w (.slice dA dn dc) l.lo/\Rx w (.slice eA en ec) l.hi/\Rx w (.slice fA fn fc) l.cost)/\
 l.cols.length=an/\l.hasLo.length=bn/\l.hasHi.length=cn/\l.lo.length=dn/\l.hi.length=en/\l.cost.length=fn/\(an<=maxLen/\bn<=maxLen/\cn<=maxLen/\dn<=maxLen/\en<=maxLen/\fn<=maxLen):=by
 obtain ⟨⟨n,⟨aA,an,ac⟩,⟨bA,bn,bc⟩,⟨cA,cn,cc⟩,⟨dA,dn,dc⟩,⟨eA,en,ec⟩,⟨fA,fn,fc⟩⟩,rfl,h1,h2,h3,h4,h5,h6,h7⟩:=h;have h1:n=l.n:=h1;subst h1;have h2:Gx w (.slice aA an ac) l.cols:=h2;have h3:Ex w (.slice bA bn bc) l.hasLo:=h3;have h4:Ex w (.slice cA cn cc) l.hasHi:=h4;have h5:Rx w (.slice dA dn dc) l.lo:=h5;have h6:Rx w (.slice eA en ec) l.hi:=h6;have h7:Rx w (.slice fA fn fc) l.cost:=h7;obtain ⟨_,_,e1,k1,k1'⟩:=h2.shape;obtain ⟨_,_,e2,k2,k2'⟩:=h3.shape;obtain ⟨_,_,e3,k3,k3'⟩:=h4.shape;obtain ⟨_,_,e4,k4,k4'⟩:=h5.shape;obtain ⟨_,_,e5,k5,k5'⟩:=h6.shape;obtain ⟨_,_,e6,k6,k6'⟩:=h7.shape;injection e1 with _ e1 _
 injection e2 with _ e2 _
 injection e3 with _ e3 _
 injection e4 with _ e4 _
 injection e5 with _ e5 _
 injection e6 with _ e6 _
 exact ⟨aA,an,ac,bA,bn,bc,cA,cn,cc,dA,dn,dc,eA,en,ec,fA,fn,fc,rfl,⟨h2,h3,h4,h5,h6,h7⟩,e1.symm,e2.symm,e3.symm,e4.symm,e5.symm,e6.symm,Yo,Yo,Yo,Yo,Yo,Yo⟩
theorem SU {z:Int} (h:z.natAbs<=1000000):Bu z:=by unfold Bu;omega
theorem IM {z:Int} (h:z.natAbs<=1000000):Sz 1 (z:Rat):=⟨by rw [Bz];show z.natAbs<_;omega,by rw [Bz];show 1<_;decide⟩
namespace I
theorem Iq {w:World} {z:Int} (h:z.natAbs<=1000000):
 Calls Tryz.prog 137 #[.int .i64 z] w fun e w'=>∃ v,e=.returned v/\Qr w w' v (z:Rat):=by
 have HL:=Yh2 (SU h) (IM h);clear h;go_enter Tryz.func137,Tryz.ntmps137;go_upto_region 1 with (fail)
 have S1:=Yh2 (Bl.new w 36 [.bool false,.slice none 0 0,.slice none 0 0]) (Ya w (.cells #[.bool false,.slice none 0 0,.slice none 0 0] 36));generalize w.alloc _=W0 at S1 ⊢;go_wp2_with fail;refine (IW HL.p0).mono ?_;rintro e w2 ⟨v,rfl,h,hb⟩;have S2:=Yh3 (S1.p0.keep hb) h (Yb S1.q1 hb);clear h hb S1;go_wp2_with fail;refine (P0 S2.p1 Yd HL.q1 Yd).mono ?_;rintro e w3 ⟨v,rfl,h⟩;obtain ⟨pq,Aq,lq,cq,Av,lv,cv,rfl⟩:=h.parts;have S3:=Yh3 (S2.p0.keep h.below) (h.from S2.q2) (Yb S2.q2 h.below);clear h S2;have f0:=Bl.fr S3.p0 0;have f1:=Bl.fr S3.p0 1;have f2:=Bl.fr S3.p0 2;have r0:=Bl.ld S3.p0 0 rfl;have r1:=Bl.ld S3.p0 1 rfl;have r2:=Bl.ld S3.p0 2 rfl;go_wp2_with fail;clear f0 f1 f2 r0 r1 r2;refine AP (S3.p0.set3 rfl _ _ _) (fun W hW=>by have d0:=hW 0 _ rfl;have d1:=hW 1 _ rfl;have d2:=hW 2 _ rfl;simp [results,Tryz.results137,go_sem,d0,d1,d2];try rfl) rfl ?_;exact ⟨_,rfl,S3.p1.keepT (S3.p0.keep3 Yd _ _ _) (C4 S3.q2 (TL _) _ _ _)⟩
theorem Mg {w:World} {row:Int}:
 Calls Tryz.prog 136 #[.int .i64 row] w fun e w'=>∃ v,e=.returned v/\Tw w w' v [(row,fq (-1))]:=by
 go_enter Tryz.func136,Tryz.ntmps136;go_wp2_with fail;refine (Iq Yd).mono ?_;rintro e w2 ⟨v,rfl,h⟩;have H:=Lib.hid h.fw;clear h;obtain ⟨A,l,c,B,k,d,rfl⟩:=H.out.fv.parts;obtain ⟨b,hbb⟩:∃ b,b=(fq ((-1:Int):Rat)).b:=⟨_,rfl⟩;rw [<- hbb] at H ⊢
 have HX:Hid (Tw w (w2.alloc (.cells #[.int .i64 row,.bool b,.slice A l c,.slice B k d] 63)) (.slice (some ⟨w2.heap.size,0,none⟩) 1 1) [(row,fq (-1))]):=
  ⟨[⟨row,b,A,l,c,B,k,d,-1⟩],Rr.lit1 (f:=Tm.cs) w2 w.heap.size 63 ⟨row,b,A,l,c,B,k,d,-1⟩ H.out.below.size Tm.len Yd,Bd.nil.app (x:=(⟨row,b,A,l,c,B,k,d,-1⟩:Tm)) (y:=(row,fq (-1))) ⟨rfl,(Ha (-1)).symm,H.out.keep (Ya _ _)⟩,Yb H.out.below (Ya _ _)⟩
 clear hbb;go_wp2_with fail;go_ret;exact ⟨_,rfl,HX.out⟩
theorem Gy {w:World} {a:Value} {f:Fx} (h:Fv w a f) (hx:f.xs.length<=6/\f.ds.length<=6):
 Calls Tryz.prog 138 #[a] w fun e w'=>e=.returned (.bool (decide (f=fq f.q)))/\Yg w w':=by
 obtain ⟨A,l,c,B,k,d,rfl⟩:=h.parts;have HS:=Yh2 h hx;clear h hx;go_enter Tryz.func138,Tryz.ntmps138;go_upto_region 1 with (fail)
 have S0:=Yh2 (Bl.new w 36 [.bool f.b,.slice A l c,.slice B k d]) (Ya w (.cells #[.bool f.b,.slice A l c,.slice B k d] 36));have HS:=Yh2 (HS.p0.keep S0.q1) HS.q1;generalize w.alloc _=W0 at S0 HS ⊢;have HC:Hid (∀ W,Yg W0 W->Ye3 W w.heap.size (.bool f.b) (.slice A l c) (.slice B k d)):=fun W hb=>⟨Bl.ld (S0.p0.keep hb) 0 rfl,Bl.ld (S0.p0.keep hb) 1 rfl,Bl.ld (S0.p0.keep hb) 2 rfl⟩;have HQ:=Lib.hid (HS.p0.qv HS.p1 HS.q2);have HZ:=Lib.hid (HQ.out.sz Yd);refine wp_region_held_drew (S:=fun W=>Ye3 W w.heap.size (.bool f.b) (.slice A l c) (.slice B k d)) (by kernel_rfl) (HC.out _ (Ax _)) (fun Hh=>?_);have B1:=Lib.hid (Ax W0);generalize W0.drew=Wd at B1 Hh ⊢;refine Ct [0,1] (Yl 6 0) (fun HFR=>?_);refine rgU 0 3 HFR Hh ?_;refine rgU 1 4 HFR Hh ?_;refine rgO 2 fun K hK=>?_;go_simp;go_at_call 37;refine (PX (HQ.out.keep B1.out) Yd Yd).mono ?_;rintro e w2 ⟨v2,rfl,h2,hb⟩;have B2:=Lib.hid (Yb B1.out hb);have H2:=Lib.hid h2;clear h2 hb B1 Hh;go_wp2_with fail;refine rgK hK (HC.out _ B2.out) fun Hh=>?_;clear hK K;refine rgO 3 fun K hK=>?_;go_simp;go_at_call 40;refine (P0 H2.out Yd HZ.out Yd).mono ?_;rintro e w3 ⟨v3,rfl,h3⟩;have B3:=Lib.hid (Yb B2.out h3.below);have H3:=Lib.hid h3.fw;clear h3 B2 Hh;go_wp2_with fail;refine rgK hK (HC.out _ B3.out) fun Hh=>?_;clear hK K;refine rgO 4 fun K hK=>?_;go_simp;go_at_call 65;refine (_root_.Go.Proofs.YtlblnmmfphiobaaGreat.C6 (HS.p0.keep B3.out) H3.out.fv).mono ?_;rintro e w4 ⟨rfl,hb⟩;have B4:=Lib.hid (Yb B3.out hb);clear hb B3 Hh;go_wp2_with fail;refine rgK hK (HC.out _ B4.out) fun Hh=>?_;clear hK K;refine rgT 5 Hh ?_;refine Yw ?_;clear Hh;go_wp2_with fail;go_ret;exact ⟨rfl,Yb S0.q1 B4.out⟩
end I
def Sw (l:LPx):Prop:=(∀ c∈l.cols,∀ t∈c,t.2.xs.length<=2305843009213693951/\t.2.ds.length<=2305843009213693951)/\∀ f,f∈l.lo∨f∈l.hi∨f∈l.cost->f.xs.length<=2305843009213693951/\f.ds.length<=2305843009213693951
def Rh (l:LPx):Prop:=Fit l/\l.lo.length<=30/\l.hi.length<=30/\l.cost.length<=30
namespace I
theorem Q2 {w:World} {v:Value} {l:LPx} (h:LPv w v l) (hs:Sw l):
 Calls Tryz.prog 13 #[v] w fun e w'=>GK (fun r=>r=false->Rh l) e/\Yg w w':=by
 obtain ⟨aA,an,ac,bA,bn,bc,cA,cn,cc,dA,dn,dc,eA,en,ec,fA,fn,fc,rfl,hP,hla,hlb,hlc,hld,hle,hlf,hma,hmb,hmc,hmd,hme,hmf⟩:=h.open;have HS:=Lib.hid hP;have HL:=Yh6 hla hlb hlc hld hle hlf;have HSN:=Lib.hid hs;have hma2:an<=9223372036854775807:=by unfold maxLen at hma;omega
 clear hP hs hla hlb hlc hld hle hlf hma hmb hmc hmd hme hmf h;change Calls Tryz.prog 13 #[.agg #[.int .i64 l.n,.slice aA an ac,.slice bA bn bc,.slice cA cn cc,.slice dA dn dc,.slice eA en ec,.slice fA fn fc]] w _;go_enter Tryz.func13,Tryz.ntmps13;go_upto_region 1 with (fail)
 have S0:=Yh2 (Bl.new w 26 [.int .i64 l.n,.slice aA an ac,.slice bA bn bc,.slice cA cn cc,.slice dA dn dc,.slice eA en ec,.slice fA fn fc]) (Ya w (.cells #[.int .i64 l.n,.slice aA an ac,.slice bA bn bc,.slice cA cn cc,.slice dA dn dc,.slice eA en ec,.slice fA fn fc] 26));have HA:=Yh6 (HS.p0.keep S0.q1) (HS.p1.keep S0.q1) (HS.p2.keep S0.q1) (HS.p3.keep S0.q1) (HS.p4.keep S0.q1) (HS.q5.keep S0.q1);clear HS;have HBW:=Lib.hid S0.q1;have HBL:=Lib.hid S0.p0;clear S0;generalize w.alloc _=W0 at HA HBW HBL ⊢;have HC:Hid (∀ W,Yg W0 W->Ye7 W w.heap.size (.int .i64 l.n) (.slice aA an ac) (.slice bA bn bc) (.slice cA cn cc) (.slice dA dn dc) (.slice eA en ec) (.slice fA fn fc)):=fun W hb=>⟨Bl.ld (HBL.out.keep hb) 0 rfl,Bl.ld (HBL.out.keep hb) 1 rfl,Bl.ld (HBL.out.keep hb) 2 rfl,Bl.ld (HBL.out.keep hb) 3 rfl,Bl.ld (HBL.out.keep hb) 4 rfl,Bl.ld (HBL.out.keep hb) 5 rfl,Bl.ld (HBL.out.keep hb) 6 rfl⟩;have B1:=Lib.hid (Ax W0);refine wp_region_held_drew (S:=fun W=>Ye7 W w.heap.size (.int .i64 l.n) (.slice aA an ac) (.slice bA bn bc) (.slice cA cn cc) (.slice dA dn dc) (.slice eA en ec) (.slice fA fn fc)) (by kernel_rfl) (HC.out _ B1.out) (fun Hh=>?_);generalize W0.drew=Wd at B1 Hh ⊢;refine Ct [0,1,3,4,6,7,8,10] (Yl 12 0) (fun HFR=>?_);refine AL 6 [0,1,3,4,7,8] Hh fun K hK=>?_
 repeat refine rgA ?_
 refine hK _ _ ?_;clear hK K;refine rgO 2 fun K hK=>?_;go_simp;go_at_call 66;refine (DL (HA.p3.keep B1.out) (fun f hf=>HSN.q1 f (.inl hf))).mono ?_;rintro e wB2 ⟨⟨mB2,rfl⟩,hb⟩;have B2:=Lib.hid (Yb B1.out hb);clear hb B1 Hh;go_wp2_with fail;refine rgK hK (HC.out _ B2.out) fun Hh=>?_;clear hK K;refine rgO 5 fun K hK=>?_;go_simp;go_at_call 66;refine (DL (HA.p4.keep B2.out) (fun f hf=>HSN.q1 f (.inr (.inl hf)))).mono ?_;rintro e wB3 ⟨⟨mB3,rfl⟩,hb⟩;have B3:=Lib.hid (Yb B2.out hb);clear hb B2 Hh;go_wp2_with fail;refine rgK hK (HC.out _ B3.out) fun Hh=>?_;clear hK K;refine rgU 6 11 HFR Hh ?_;refine rgO 9 fun K hK=>?_;go_simp;go_at_call 66;refine (DL (HA.q5.keep B3.out) (fun f hf=>HSN.q1 f (.inr (.inr hf)))).mono ?_;rintro e wB4 ⟨⟨mB4,rfl⟩,hb⟩;have B4:=Lib.hid (Yb B3.out hb);clear hb B3 Hh;go_wp2_with fail;refine rgK hK (HC.out _ B4.out) fun Hh=>?_;clear hK K;refine rgU 10 15 HFR Hh ?_;refine rgT 11 Hh ?_;refine Yw ?_;clear Hh;generalize IntKind.i64.wrap _=n0;go_wp2_with fail;go_loopw [3,4] (fun z3 z4 wr=>∃ (k:Nat) (n:Int),z3=.int .i64 n/\z4=.int .i64 (k:Int)/\k<=an/\Hid (Yg W0 wr/\∀ c∈l.cols.take k,c.length<=30/\∀ t∈c,t.2.xs.length+t.2.ds.length<=6)) (fun _ z _=>an - (intOf z).toNat)
 case atStart=>exact ⟨0,_,rfl,rfl,Un _,B4.out,by simp⟩
 case round=>
  obtain ⟨k,n,rfl,rfl,hk,H⟩:=hrel;by_cases hlt:k<an
  · skip;obtain ⟨ta,hta⟩:∃ t,l.cols[k]?=some t:=⟨_,List.getElem?_eq_getElem (by rw [HL.p0];exact hlt)⟩;obtain ⟨ga,oa,qa,xa,e,hga,hva,za0⟩:=HA.p0.at_ hta;rw [HL.p0] at e;injection e with e1 e2 e3
    subst e1;clear e2 e3 qa;have HV:=Yh3 hva (TO hta) (CZ hta);have HCa:Hid (∀ W,Yg W0 W->W.cell? ⟨ga,oa+k,none⟩=some (.slice xa.A xa.l xa.k)/\Ye7 W w.heap.size (.int .i64 l.n) (.slice (some ⟨ga,oa,none⟩) an ac) (.slice bA bn bc) (.slice cA cn cc) (.slice dA dn dc) (.slice eA en ec) (.slice fA fn fc)):=fun W hb=>⟨(hb.cell (p:=⟨ga,_,none⟩) hga).trans za0,Bl.ld (HBL.out.keep hb) 0 rfl,Bl.ld (HBL.out.keep hb) 1 rfl,Bl.ld (HBL.out.keep hb) 2 rfl,Bl.ld (HBL.out.keep hb) 3 rfl,Bl.ld (HBL.out.keep hb) 4 rfl,Bl.ld (HBL.out.keep hb) 5 rfl,Bl.ld (HBL.out.keep hb) 6 rfl⟩;clear hga hta za0 hva;have dk:(k:Int)<(an:Int):=Yo;obtain ⟨za0,l0,l1,l2,l3,l4,l5,l6⟩:=HCa.out _ H.p0;go_wp2_with fail;refine (QA (HV.p0.keep H.p0) (fun t ht=>HSN.p0 _ HV.p1 t ht)).mono ?_;rintro e w5 ⟨⟨r,rfl,hr⟩,hb⟩;have H5:=Yh2 (Yb H.p0 hb) H.q1;have HR:=Lib.hid hr;clear hb hr H za0 l0 l1 l2 l3 l4 l5 l6
    cases r with
    | true=>
     go_wp2_with fail;go_ret;exact ⟨⟨true,rfl,by simp⟩,Yb HBW.out H5.p0⟩
    | false=>
     obtain ⟨za0,l0,l1,l2,l3,l4,l5,l6⟩:=HCa.out _ H5.p0;go_wp2_with fail;refine (Ie (HV.p0.keep H5.p0) (TP (HR.out (by trivial)).1 Yd) (fun t ht=>HSN.p0 _ HV.p1 t ht)).mono ?_;rintro e w7 ⟨⟨m,rfl⟩,hb⟩;have H7:=Yh2 (Yb H5.p0 hb) H5.q1;clear hb H5 za0 l0 l1 l2 l3 l4 l5 l6;go_wp2_with fail
     case roundEnd=>exact ⟨⟨k+1,_,rfl,by go_num,Yo,H7.p0,fun c hc=>by rw [HV.q2] at hc;rcases Uw.1 hc with hc | hc;exact H7.q1 c hc;rw [Uj.1 hc];exact HR.out (by trivial)⟩,by simp [intOf];omega⟩
  obtain rfl:k=an:=by omega
  have dk:¬ (k:Int)<(k:Int):=Yo;have HALL:Hid (∀ c∈l.cols,c.length<=30/\∀ t∈c,t.2.xs.length+t.2.ds.length<=6):=by have h:=H.q1;rw [Ud (by rw [HL.p0];exact TL _)] at h;exact h
  obtain ⟨l0,l1,l2,l3,l4,l5,l6⟩:=HC.out _ H.p0;by_cases d1:(18:Int)<n
  · skip;go_wp2_with fail;go_ret;exact ⟨⟨true,rfl,by simp⟩,Yb HBW.out H.p0⟩
  by_cases d2:(14:Int)<(k:Int)
  · skip;go_wp2_with fail;go_ret;exact ⟨⟨true,rfl,by simp⟩,Yb HBW.out H.p0⟩
  have H14:=Lib.hid (show k<=14 by omega);have B10:=Lib.hid H.p0;clear H;go_wp2_with fail;refine (EC (HA.p3.keep B10.out) (fun f hf=>HSN.q1 f (.inl hf))).mono ?_;rintro e w11 ⟨⟨r1,rfl,hr⟩,hb⟩;have B11:=Lib.hid (Yb B10.out hb);have HR1:=Lib.hid hr;clear hr hb l0 l1 l2 l3 l4 l5 l6 B10;obtain ⟨l0,l1,l2,l3,l4,l5,l6⟩:=HC.out _ B11.out
  cases r1 with
  | true=>
   go_wp2_with fail;go_ret;exact ⟨⟨true,rfl,by simp⟩,Yb HBW.out B11.out⟩
  | false=>
   go_wp2_with fail;refine (EC (HA.p4.keep B11.out) (fun f hf=>HSN.q1 f (.inr (.inl hf)))).mono ?_;rintro e w12 ⟨⟨r2,rfl,hr⟩,hb⟩;have B12:=Lib.hid (Yb B11.out hb);have HR2:=Lib.hid hr;clear hr hb l0 l1 l2 l3 l4 l5 l6 B11;obtain ⟨l0,l1,l2,l3,l4,l5,l6⟩:=HC.out _ B12.out
   cases r2 with
   | true=>
    go_wp2_with fail;go_ret;exact ⟨⟨true,rfl,by simp⟩,Yb HBW.out B12.out⟩
   | false=>
    go_wp2_with fail;refine (EC (HA.q5.keep B12.out) (fun f hf=>HSN.q1 f (.inr (.inr hf)))).mono ?_;rintro e w13 ⟨⟨r3,rfl,hr⟩,hb⟩;have B13:=Lib.hid (Yb B12.out hb);have HR3:=Lib.hid hr;clear hr hb l0 l1 l2 l3 l4 l5 l6 B12;obtain ⟨l0,l1,l2,l3,l4,l5,l6⟩:=HC.out _ B13.out;go_wp2_with fail;go_ret;exact ⟨⟨_,rfl,fun hr3=>by subst hr3;exact ⟨⟨by rw [HL.p0];exact H14.out,fun c hc=>⟨(HALL.out c hc).1,fun t ht=>by have:=(HALL.out c hc).2 t ht;omega⟩,fun f hf=>by rcases hf with hf | hf | hf;have:=(HR1.out (by trivial)).2 f hf;omega;have:=(HR2.out (by trivial)).2 f hf;omega;have:=(HR3.out (by trivial)).2 f hf;omega⟩,(HR1.out (by trivial)).1,(HR2.out (by trivial)).1,(HR3.out (by trivial)).1⟩⟩,Yb HBW.out B13.out⟩
end I
theorem Fj:(Tryz.prog.info? 4).map (fun i=>(i.zero,i.size,i.bytes))=some (some (.bool false),1,1):=by kernel_rfl
theorem PL:(Tryz.prog.info? 46).map (fun i=>(i.zero,i.size,i.bytes))=some (some (.agg #[.int .i64 0,.bool false,.bool false,.slice none 0 0,.slice none 0 0]),5,72):=by kernel_rfl
theorem Ey:(Tryz.prog.info? 54).map (fun i=>(i.zero,i.size,i.bytes))=some (some (.slice none 0 0),1,24):=by kernel_rfl
def Ub (w0 w:World) (v:Value) (us:List Ux):Prop:=∃ xs:List Um,Rr w w0.heap.size 46 5 Um.cs v xs/\Bd (fun x t=>x.c=t.c/\x.u=t.u/\Fw w0 w x.num t.f) xs us/\Yg w0 w
theorem Ub.uv {w0 w:World} {v:Value} {us:List Ux} (h:Ub w0 w v us):Uv w v us:=by
 obtain ⟨xs,h1,h2,-⟩:=h;exact ⟨xs,h1.rv,h2.imp fun x t ht=>⟨ht.1,ht.2.1,ht.2.2.fv⟩⟩
theorem Ub.keep {w0 w w':World} {v:Value} {us:List Ux} (h:Ub w0 w v us) (hb:Below w.heap.size w w'):Ub w0 w' v us:=by
 obtain ⟨xs,h1,h2,h3⟩:=h;exact ⟨xs,h1.keep hb,h2.imp fun x t ht=>⟨ht.1,ht.2.1,ht.2.2.keep hb⟩,Yb h3 hb⟩
theorem Ub.nil {w0 w:World} (hb:Below w0.heap.size w0 w):Ub w0 w (.slice none 0 0) []:=⟨[],Rr.nil _ _ _ _ _,Bd.nil,hb⟩
end
end Go.Proofs.YtlblnmmfphiobaaGreat
