import Derived.Test.YtlblnmmfphiobaaGreatPNA32
import Derived.Test.YtlblnmmfphiobaaGreatPNA33
set_option maxRecDepth 100000
set_option maxHeartbeats 8000000
set_option linter.unusedVariables false
set_option linter.unusedSimpArgs false
namespace Go.Proofs.YtlblnmmfphiobaaGreat
section
open Go Go.RowKit Go.Proofs Pl
theorem Dl.mono6 {l:LPx} {M:Nat} (h:Dl 6 l) (hM:6<=M):Dl M l:=⟨⟨h.1.1,h.1.2.1,fun f hf=>by have:=h.1.2.2 f hf;omega⟩,h.2⟩
theorem al16:alX [true,false] 1 l16 []=((AO [true,false] l16).1,(AO [true,false] l16).2.1):=by
 rw [alX]
 split<;>simp [alX]
theorem JV {o:Option Ti} (h:Ka o=true):∃ t,o=some t/\t.col=0/\t.up=true/\t.rd=true/\t.v=2:=by
 unfold Ka at h
 split at h
 · cases h
 · rename_i t;simp only [TZ,decide_eq_true_eq] at h;exact ⟨t,rfl,h.1.1.1,h.1.1.2,h.1.2,h.2⟩
theorem ON {w:World} {g:Nat} (X:Bl w 4 g [.bool true,.bool false]):Ex w (.slice (some ⟨g,0,none⟩) 2 2) [true,false]:=Bl.rv (f:=bcs) (xs:=[true,false]) X rfl (by unfold maxLen;decide)
namespace I
set_option maxHeartbeats 16000000 in
theorem Ph {w:World}:Calls Tryz.prog 12 #[] w fun e w'=>e=.returned (.bool true)/\Below w.heap.size w w':=by
 go_enter Tryz.func12,Tryz.ntmps12;go_wp2_with fail;refine JM.mono ?_;rintro e w1 ⟨u,rfl,hl,hb⟩;obtain ⟨aA,an,ac,bA,bn,bc,cA,cn,cc,dA,dn,dc,eA,en,ec,fA,fn,fc,rfl,-⟩:=hl.open;obtain ⟨n16,hn16⟩:∃ n,l16.n=n:=⟨_,rfl⟩;rw [hn16] at hl ⊢;obtain ⟨t,ht,hc,hu,hr,hv⟩:=JV Qq;have HT:=Yh5 ht hc hu hr hv;clear ht hc hu hr hv;have hal:=Ya w1 (.cells #[.bool true,.bool false] 4);have H1:=Yh3 (hl.keep hal) (ON (Bl.new w1 4 [.bool true,.bool false])) (Yb hb hal);clear hl hb hal;have hti:=Hm (M:=6) (row:=0) (col:=0) (up:=true) H1.p0 H1.p1 PW Yd Yd HT.p0;go_wp2_with fail;refine hti.mono ?_;rintro e w2 hD;clear hti
 rcases hD with ⟨hno,-,-⟩ | ⟨t2,vT,hyes,rfl,hT,hb⟩
 · cases hno
 injection hyes with hyes
 subst hyes;obtain ⟨p,A,l_,k_,B,m_,d,U,n_,cp,rfl,hq,-⟩:=hT;rw [HT.p1,HT.p2,HT.p3];have hf:=hq.fw.fv;rw [HT.q4] at hf;have hf:Fv w2 (.agg #[.bool p,.slice A l_ k_,.slice B m_ d]) (zq 2):=hf;have H2:=Yh2 hf (Yb H1.q2 hb);clear hq hf hb H1 HT;go_upto_region 2 with (fail)
 have hal:=Ya w2 (.cells #[.int .i64 0,.bool true,.bool p,.slice A l_ k_,.slice B m_ d,.slice U n_ cp,.bool true] 39);have H3:=Yh3 (H2.p0.keep hal) (Bl.new w2 39 [.int .i64 0,.bool true,.bool p,.slice A l_ k_,.slice B m_ d,.slice U n_ cp,.bool true]) (Yb H2.q1 hal);clear hal H2;generalize w2.heap.size=g1 at H3 ⊢;generalize w2.alloc _=W3 at H3 ⊢;go_wp2_with fail;refine JM.mono ?_;rintro e w4 ⟨u,rfl,hl,hb⟩;clear hn16;obtain ⟨aA,an,ac,bA,bn,bc,cA,cn,cc,dA,dn,dc,eA,en,ec,fA,fn,fc,rfl,-⟩:=hl.open;have H4:=Yh3 (H3.p0.keep hb) (H3.p1.keep hb) (Yb H3.q2 hb);clear H3 hb;obtain ⟨n17,hn16⟩:∃ n,l16.n=n:=⟨_,rfl⟩;rw [hn16] at hl ⊢;have hal:=Ya w4 (.cells #[.bool true,.bool false] 4);have H5:=Yh5 (hl.keep hal) (ON (Bl.new w4 4 [.bool true,.bool false])) (H4.p0.keep hal) (H4.p1.keep hal) (Yb H4.q2 hal);clear hl hal H4;have hall:=Js (M:=10000000) (p:=1) H5.p0 H5.p1 IK (PW.mono6 Yd) (by rfl) Yd ((Iv.start IK PW Yd).good Yd Yd) Yd Yd;rw [al16,show ((1:Nat):Int)=1 from rfl] at hall;clear hn16;go_wp2_with fail;refine hall.mono ?_;rintro e w6 ⟨x,y,rfl,hx,hy,hb⟩;clear hall;obtain ⟨hp1,hp2,hp3⟩:=RI;have hright:=(CM (flags:=[true,false]) IK).1;obtain ⟨l2,hl2⟩:∃ z,(AO [true,false] l16).1=z:=⟨_,rfl⟩;obtain ⟨t2,ht2⟩:∃ z,(AO [true,false] l16).2.1=z:=⟨_,rfl⟩;rw [hl2] at hx hp2 hp3 hright;rw [ht2] at hy hp1;clear hl2 ht2
 obtain ⟨f7,hf7,hq7⟩:∃ f,l2.hi[1]?=some f/\f.q=7:=by
  rcases e:l2.hi[1]? with - | f
  · rw [e] at hp3;cases hp3
  · rw [e] at hp3;injection hp3 with hp3;exact ⟨f,rfl,hp3⟩
 obtain rfl:f7=zq 7:=by rw [DT hright (TO hf7),hq7];rfl
 clear hp3 hq7 hright;have hlp:=hx.lpv;obtain ⟨aA,an,ac,bA,bn,bc,cA,cn,cc,dA,dn,dc,eA,en,ec,fA,fn,fc,rfl,hP,hla,hlb,hlc,hld,hle,hlf,hma,hmb,hmc,hmd,hme,hmf⟩:=hlp.open;obtain ⟨Uy,cy,rfl⟩:=hy.shape;rw [hp1];obtain ⟨oc,pc,_,e,hoc,z0⟩:=hP.2.2.1.at_ hp2;rw [hlc] at e;injection e with e1 e2 e3
 subst e1;clear e2 e3;obtain ⟨oe,pe,_,xe,e,hoe,hve,z1,z2,z3⟩:=hP.2.2.2.2.1.at_ hf7;rw [hle] at e;injection e with e1 e2 e3
 subst e1;clear e2 e3;have hc0:0<cn:=by rw [<- hlc];exact (List.getElem?_eq_some_iff.1 hp2).1
 have he1:1<en:=by rw [<- hle];exact (List.getElem?_eq_some_iff.1 hf7).1
 go_upto_region 3 with (fail)
 have hal:=Ya w6 (.cells #[.int .i64 l2.n,.slice aA an ac,.slice bA bn bc,.slice (some ⟨oc,pc,none⟩) cn cc,.slice dA dn dc,.slice (some ⟨oe,pe,none⟩) en ec,.slice fA fn fc] 26);have hbb:=Yb hb hal;have H7:=Yh5 (Bl.new w6 26 [.int .i64 l2.n,.slice aA an ac,.slice bA bn bc,.slice (some ⟨oc,pc,none⟩) cn cc,.slice dA dn dc,.slice (some ⟨oe,pe,none⟩) en ec,.slice fA fn fc]) (H5.p3.keep hbb) (H5.p2.keep hbb) (hve.keep hal) (Yb H5.q4 hbb)
 have HE:Hid (∀ W,Yg w6 W->W.cell? ⟨oc,pc,none⟩=some (.bool true)/\W.cell? ⟨oe,pe+3,none⟩=some (.bool xe.b)/\W.cell? ⟨oe,pe+3+1,none⟩=some (.slice xe.A xe.l xe.k)/\W.cell? ⟨oe,pe+3+2,none⟩=some (.slice xe.B xe.m xe.d)):=fun W b=>by
  have y0:=(b.cell (p:=⟨oc,_,none⟩) hoc).trans z0;have y1:=(b.cell (p:=⟨oe,_,none⟩) hoe).trans z1;have y2:=(b.cell (p:=⟨oe,_,none⟩) hoe).trans z2;have y3:=(b.cell (p:=⟨oe,_,none⟩) hoe).trans z3;simp only [UE,Nat.one_mul] at y0 y1 y2 y3;exact ⟨y0,y1,y2,y3⟩
 have HEW:=Yh2 hal (Yb H5.q4 hb);clear hal hbb hb hP hlp hx hy hla hlb hlc hld hle hlf hma hmb hmc hmd hme hmf hp1 hp2 hf7 hoc hoe hve z0 z1 z2 z3 H5;have hci:(0:Int)<(cn:Int):=Yo;have hei:(1:Int)<(en:Int):=Yo;skip;obtain ⟨g3,hg3⟩:∃ g,g=w6.heap.size:=⟨_,rfl⟩;rw [hg3.symm] at H7 ⊢;obtain ⟨W7,hW7⟩:∃ X,X=w6.alloc (.cells #[.int .i64 l2.n,.slice aA an ac,.slice bA bn bc,.slice (some ⟨oc,pc,none⟩) cn cc,.slice dA dn dc,.slice (some ⟨oe,pe,none⟩) en ec,.slice fA fn fc] 26):=⟨_,rfl⟩;rw [hW7.symm] at H7 HEW ⊢;clear hg3 hW7
 have HC:Hid (∀ W,Yg W7 W->W.cell? ⟨g1,0,none⟩=some (.int .i64 0)/\W.cell? ⟨g1,1,none⟩=some (.bool true)/\W.cell? ⟨g1,2,none⟩=some (.bool p)/\W.cell? ⟨g1,3,none⟩=some (.slice A l_ k_)/\W.cell? ⟨g1,4,none⟩=some (.slice B m_ d)/\W.cell? ⟨g1,6,none⟩=some (.bool true)/\W.cell? ⟨g3,3,none⟩=some (.slice (some ⟨oc,pc,none⟩) cn cc)/\W.cell? ⟨g3,5,none⟩=some (.slice (some ⟨oe,pe,none⟩) en ec)/\W.cell? ⟨oc,pc,none⟩=some (.bool true)/\W.cell? ⟨oe,pe+3,none⟩=some (.bool xe.b)/\W.cell? ⟨oe,pe+3+1,none⟩=some (.slice xe.A xe.l xe.k)/\W.cell? ⟨oe,pe+3+2,none⟩=some (.slice xe.B xe.m xe.d)):=fun W b=>by
  obtain ⟨e0,e1,e2,e3⟩:=HE.out W (Yb HEW.p0 b);exact ⟨Bl.ld (H7.p1.keep b) 0 rfl,Bl.ld (H7.p1.keep b) 1 rfl,Bl.ld (H7.p1.keep b) 2 rfl,Bl.ld (H7.p1.keep b) 3 rfl,Bl.ld (H7.p1.keep b) 4 rfl,Bl.ld (H7.p1.keep b) 6 rfl,Bl.ld (H7.p0.keep b) 3 rfl,Bl.ld (H7.p0.keep b) 5 rfl,e0,e1,e2,e3⟩
 refine BA (fun W=>Yg W7 W/\W.cell? ⟨g1,0,none⟩=some (.int .i64 0)/\W.cell? ⟨g1,1,none⟩=some (.bool true)/\W.cell? ⟨g1,2,none⟩=some (.bool p)/\W.cell? ⟨g1,3,none⟩=some (.slice A l_ k_)/\W.cell? ⟨g1,4,none⟩=some (.slice B m_ d)/\W.cell? ⟨g1,6,none⟩=some (.bool true)/\W.cell? ⟨g3,3,none⟩=some (.slice (some ⟨oc,pc,none⟩) cn cc)/\W.cell? ⟨g3,5,none⟩=some (.slice (some ⟨oe,pe,none⟩) en ec)/\W.cell? ⟨oc,pc,none⟩=some (.bool true)/\W.cell? ⟨oe,pe+3,none⟩=some (.bool xe.b)/\W.cell? ⟨oe,pe+3+1,none⟩=some (.slice xe.A xe.l xe.k)/\W.cell? ⟨oe,pe+3+2,none⟩=some (.slice xe.B xe.m xe.d)) (fun _ _=>True) (fun _ _=>False) 0 [⟨[],[(0,19),(1,20),(2,21),(3,22),(4,23),(5,24),(6,25),(7,26),(8,27),(9,28),(10,29),(11,30),(12,31),(13,32),(14,33),(15,34),(16,35)],[],[(17,36,fun v W=>∃ p A l c B k d,v=.agg #[.bool p,.slice A l c,.slice B k d]/\Fv W (.agg #[.bool p,.slice A l c,.slice B k d]) (zq 2))]⟩,⟨[(17,36)],[(0,19),(1,20),(2,21),(3,22),(4,23),(5,24),(6,25),(7,26),(8,27),(9,28),(10,29),(11,30),(12,31),(13,32),(14,33),(15,34),(16,35)],[],[(18,37,fun v W=>v=.bool true)]⟩,⟨[(18,37)],[(0,19),(1,20),(2,21),(3,22),(4,23),(5,24),(6,25),(7,26),(8,27),(9,28),(10,29),(11,30),(12,31),(13,32),(14,33),(19,38),(20,39),(21,40),(22,41),(23,42),(24,43),(25,44),(26,45),(27,46),(28,47),(29,48),(30,49),(31,50),(32,51),(33,52),(34,53),(35,54),(36,55),(37,56),(38,57),(39,58)],[],[(40,59,fun v W=>∃ p A l c B k d,v=.agg #[.bool p,.slice A l c,.slice B k d]/\Fv W (.agg #[.bool p,.slice A l c,.slice B k d]) (zq 7))]⟩,⟨[(18,37),(40,59)],[(0,19),(1,20),(2,21),(3,22),(4,23),(5,24),(6,25),(7,26),(8,27),(9,28),(10,29),(11,30),(12,31),(13,32),(14,33),(19,38),(20,39),(21,40),(22,41),(23,42),(24,43),(25,44),(26,45),(27,46),(28,47),(29,48),(30,49),(31,50),(32,51),(33,52),(34,53),(35,54),(36,55),(37,56),(38,57),(39,58)],[],[(41,60,fun v W=>v=.bool true)]⟩,⟨[(18,37),(41,60)],[(0,19),(1,20),(2,21),(3,22),(4,23),(5,24),(6,25),(7,26),(8,27),(9,28),(10,29),(11,30),(12,31),(13,32),(14,33),(19,38),(20,39),(21,40),(22,41),(23,42),(24,43),(25,44),(26,45),(27,46),(28,47),(29,48),(30,49),(31,50),(32,51),(33,52),(34,53),(35,54),(42,61),(43,0)],[],[]⟩] [] [] ⟨[(17,36),(18,37),(40,59),(41,60)],[(0,19),(1,20),(2,21),(3,22),(4,23),(5,24),(6,25),(7,26),(8,27),(9,28),(10,29),(11,30),(12,31),(13,32),(14,33),(15,34),(16,35),(19,38),(20,39),(21,40),(22,41),(23,42),(24,43),(25,44),(26,45),(27,46),(28,47),(29,48),(30,49),(31,50),(32,51),(33,52),(34,53),(35,54),(36,55),(37,56),(38,57),(39,58),(42,61),(43,0)],[],[]⟩ ⟨Aj,HC.out _ Aj⟩ (trivial) (fun _ _ h b=>⟨Yb h.1 b,HC.out _ (Yb h.1 b)⟩) (fun _ _ _ h _=>h) ⟨fun _ _ _ ⟨p,A,l,c,B,k,d,e,h⟩ b=>⟨p,A,l,c,B,k,d,e,h.keep b⟩,fun _ _ _ _ h=>h.elim,⟨fun _ _ _ h _=>h,fun _ _ _ _ h=>h.elim,⟨fun _ _ _ ⟨p,A,l,c,B,k,d,e,h⟩ b=>⟨p,A,l,c,B,k,d,e,h.keep b⟩,fun _ _ _ _ h=>h.elim,⟨fun _ _ _ h _=>h,fun _ _ _ _ h=>h.elim,trivial⟩⟩⟩⟩ ⟨?_,?_,?_,?_,?_,trivial⟩ trivial trivial ?_
 · rintro W hS;refine gvN ?_;(repeat first|refine flA ?_|refine flB ?_);refine flN (flN ?_);refine flK (fun K hK=>?_) flL;go_simp;go_at_call 26;refine (Ci (z:=2) Yd).mono ?_;rintro e W2 ⟨v,rfl,h⟩;obtain ⟨p,A,l_,c,B,k_,d,rfl⟩:=h.qo.parts;have hb:=h.below;have h:Fv _ _ (zq 2):=h.fw.fv;go_wp2_with fail;exact hK.out _ _ ⟨⟨_,_,_,_,_,_,_,rfl,h⟩,hb⟩
 · rintro W hS v17 ⟨p17,A17,l17,c17,B17,k17,d17,rfl,h17⟩;refine gvN ?_;(repeat first|refine flA ?_|refine flB ?_);refine flN (flN ?_);refine flK (fun K hK=>?_) flL;go_simp;have hs2:=C6 (a:=.agg #[.bool p,.slice A l_ k_,.slice B m_ d]) (H7.p2.keep hS.1) h17;rw [decide_eq_true rfl] at hs2;go_at_call 65;refine hs2.mono ?_;rintro e W2 ⟨rfl,hb⟩;go_wp2_with fail;exact hK.out _ _ ⟨rfl,hb⟩
 · rintro W hS v18 rfl;refine gvN ?_;(repeat first|refine flA ?_|refine flB ?_);refine flN (flN ?_);refine flK (fun K hK=>?_) flL;go_simp;go_at_call 26;refine (Ci (z:=7) Yd).mono ?_;rintro e W2 ⟨v,rfl,h⟩;obtain ⟨p,A,l_,c,B,k_,d,rfl⟩:=h.qo.parts;have hb:=h.below;have h:Fv _ _ (zq 7):=h.fw.fv;go_wp2_with fail;exact hK.out _ _ ⟨⟨_,_,_,_,_,_,_,rfl,h⟩,hb⟩
 · rintro W hS v18 rfl v40 ⟨p40,A40,l40,c40,B40,k40,d40,rfl,h40⟩;refine gvN ?_;(repeat first|refine flA ?_|refine flB ?_);refine flN (flN ?_);refine flK (fun K hK=>?_) flL;go_simp;have hs2:=C6 (a:=xe.num) (H7.p3.keep hS.1) h40;rw [decide_eq_true rfl] at hs2;go_at_call 65;refine hs2.mono ?_;rintro e W2 ⟨rfl,hb⟩;go_wp2_with fail;exact hK.out _ _ ⟨rfl,hb⟩
 · rintro W hS v18 rfl v41 rfl;refine gvN ?_;(repeat first|refine flA ?_|refine flB ?_);refine flN (flN ?_);exact flL
 rintro W hS - v17 ⟨p17,A17,l17,c17,B17,k17,d17,rfl,h17⟩ v18 rfl v40 ⟨p40,A40,l40,c40,B40,k40,d40,rfl,h40⟩ v41 rfl;have hS:=hS flY;refine gvN ?_;(repeat first|refine flA ?_|refine flB ?_);refine flN (flN ?_);have HB:=Lib.hid (Yb H7.q4 hS.1);clear hS;go_wp2_with fail;go_ret;exact ⟨rfl,HB.out⟩
theorem SO {w:World} {v:Value} {l:LPx} {Fl:Option Addr} {m Fk:Nat} (h:LPv w v l) (hf:Fit l):
 Calls Tryz.prog 16 #[v,.slice Fl m Fk] w fun e w'=>GK (fun r=>r=true↔AA l/\(m:Int)=l.n) e/\Yg w w':=by
 have hlp:=h;obtain ⟨aA,an,ac,bA,bn,bc,cA,cn,cc,dA,dn,dc,eA,en,ec,fA,fn,fc,rfl,hP,hla,hlb,hlc,hld,hle,hlf,hma,hmb,hmc,hmd,hme,hmf⟩:=h.open;have HS:=Yh2 hlp hf;clear hP hlp hf hla hlb hlc hld hle hlf hma hmb hmc hmd hme hmf h;change Calls Tryz.prog 16 #[.agg #[.int .i64 l.n,.slice aA an ac,.slice bA bn bc,.slice cA cn cc,.slice dA dn dc,.slice eA en ec,.slice fA fn fc],.slice Fl m Fk] w _;go_enter Tryz.func16,Tryz.ntmps16;go_upto_region 1 with (fail)
 obtain ⟨hX,hB⟩:=GO w 26 [.int .i64 l.n,.slice aA an ac,.slice bA bn bc,.slice cA cn cc,.slice dA dn dc,.slice eA en ec,.slice fA fn fc];have HX:=Yh2 hX hB;clear hX hB;generalize w.alloc _=W0 at HX ⊢;have a0:=Bl.ld HX.p0 0 rfl;have a1:=Bl.ld HX.p0 1 rfl;have a2:=Bl.ld HX.p0 2 rfl;have a3:=Bl.ld HX.p0 3 rfl;have a4:=Bl.ld HX.p0 4 rfl;have a5:=Bl.ld HX.p0 5 rfl;have a6:=Bl.ld HX.p0 6 rfl;go_wp2_with fail;refine (QW (HS.p0.keep HX.q1) HS.q1).mono ?_;rintro e w1 ⟨⟨r,rfl,hr⟩,hb⟩;have H1:=Yh3 (HX.p0.keep hb) (Yb HX.q1 hb) hr;clear hb hr HX a0 a1 a2 a3 a4 a5 a6
 cases r with
 | false=>
  go_wp2_with fail;go_ret;exact ⟨⟨false,rfl,⟨fun h=>(by cases h),fun h=>H1.q2.mpr h.1⟩⟩,H1.p1⟩
 | true=>
  have a0:=Bl.ld H1.p0 0 rfl;obtain ⟨b,hb⟩:∃ b,((m:Int)==l.n)=b:=⟨_,rfl⟩;have HBB:Hid (b=true↔(m:Int)=l.n):=by rw [<- hb];exact beq_iff_eq
  cases b with
  | false=>
   go_wp2_with fail;go_ret;exact ⟨⟨false,rfl,⟨fun h=>(by cases h),fun h=>HBB.out.mpr h.2⟩⟩,H1.p1⟩
  | true=>
   go_wp2_with fail;go_ret;exact ⟨⟨true,rfl,⟨fun _=>⟨H1.q2.mp (by trivial),HBB.out.mp (by trivial)⟩,fun _=>rfl⟩⟩,H1.p1⟩
end I
def EH (l:LPx):Prop:=∃ i,i<l.cols.length/\Co l i=true
section
variable {flags:List Bool} {l:LPx} {ts:List Ti} {a b:Nat}
theorem Qf (p:Nat):∀ (l:LPx) (ts:List Ti),alX flags p l ts=((alX flags p l []).1,ts++(alX flags p l []).2):=by
 induction p with
 | zero=>intro l ts;simp [alX]
 | succ p ih=>
  intro l ts;rw [alX,alX]
  split
  · simp
  · rw [ih _ (ts++_),ih _ ([]++_)];simp
theorem Hl {s:PSt} {p:Nat × Nat × Bool} {t:Ti} (hs:¬ s.2.2=true) (ht:AZ s.1 flags (p.1:Int) (p.2.1:Int) p.2.2=some t):CO flags s p=(Ce s.1 p.2.1 p.2.2 (fq t.v),s.2.1++[t],Co (Ce s.1 p.2.1 p.2.2 (fq t.v)) p.2.1):=by rw [CO,if_neg hs,ht]
theorem Ns (hN:l.n.toNat<=l.cols.length) {R:Nat}:∀ {ps:List (Nat × Nat × Bool)},(∀ p∈ps,p.2.1<l.cols.length)->(stX flags l ps).2.2=true->(stX flags l ps).1.cols=l.cols/\EH (stX flags l ps).1:=by
 intro ps
 have hcols:∀ qs:List (Nat × Nat × Bool),(stX flags l qs).1.cols=l.cols:=fun qs=>by
  induction qs using Ds with
  | h0=>rfl
  | h1 qs q ih=>
   rw [Dc,CO]
   split
   · exact ih
   · split
     · exact ih
     · simp only [CE];exact ih
 induction ps using Ds with
 | h0=>intro _ h;cases h
 | h1 ps p ih=>
  intro hp h;refine ⟨hcols _,?_⟩;rw [Dc] at h ⊢;by_cases hs:(stX flags l ps).2.2=true
  · rw [Fd hs];exact (ih (fun q hq=>hp q (VU _ hq)) hs).2
  · rcases ht:AZ (stX flags l ps).1 flags (p.1:Int) (p.2.1:Int) p.2.2 with - | t
    · have e:CO flags (stX flags l ps) p=stX flags l ps:=by rw [CO,if_neg hs,ht]
      rw [e] at h;exact absurd h hs
    · have e:=Hl hs ht;rw [e] at h ⊢;exact ⟨p.2.1,by simp only [CE];rw [hcols];exact hp p (Wf _ (List.mem_singleton_self p)),h⟩
theorem RW {N R:Nat}:∀ p∈CF N R,p.2.1<N:=by
 have hc:∀ {r c:Nat},∀ p∈DY r c,p.2.1<c:=fun {r c}=>by
  induction c with
  | zero=>intro p hp;cases hp
  | succ c ih=>
   intro p hp;rw [DY,Uw] at hp
   rcases hp with hp | hp
   · have:=ih p hp;omega
   · simp only [Et,Ue,Vj,or_false] at hp
     rcases hp with rfl | rfl<;>simp
 induction R with
 | zero=>intro p hp;cases hp
 | succ R ih=>
  intro p hp;rw [CF,Uw] at hp
  rcases hp with hp | hp
  · exact ih p hp
  · exact hc p hp
theorem KF (hr:AA l) (h:(AO flags l).2.2=true):EH (AO flags l).1:=by
 have hn:=hr.1;exact (Ns (R:=0) Yo (fun p hp=>TV (RW p hp) Yo) h).2
theorem Q7:∀ {ps:List (Nat × Nat × Bool)},(stX flags l ps).2.1=[]->stX flags l ps=(l,[],false):=by
 intro ps
 induction ps using Ds with
 | h0=>intro _;rfl
 | h1 ps p ih=>
  intro h;rw [Dc] at h ⊢;by_cases hs:(stX flags l ps).2.2=true
  · rw [Fd hs] at h;have:=ih h;rw [this] at hs
    cases hs
  · rcases ht:AZ (stX flags l ps).1 flags (p.1:Int) (p.2.1:Int) p.2.2 with - | t
    · have e:CO flags (stX flags l ps) p=stX flags l ps:=by rw [CO,if_neg hs,ht]
      rw [e] at h ⊢;exact ih h
    · rw [Hl hs ht] at h;simp at h
theorem Ip:∀ (a:Nat) (l:LPx) (ts:List Ti),AA l->¬ EH (alX flags a l ts).1->alX flags (a+b) l ts=alX flags b (alX flags a l ts).1 (alX flags a l ts).2
 | 0,l,ts,_,_=>by rw [Vw];rfl
 | a+1,l,ts,hr,hc=>by
  rw [show a+1+b=(a+b)+1 by omega];rw [alX] at hc;rw [alX,alX];by_cases hs:(AO flags l).2.2=true∨(AO flags l).2.1=[]
  · rw [if_pos hs] at hc;rw [if_pos hs,if_pos hs]
    rcases hs with hs | hs
    · exact absurd (KF hr hs) hc
    · have e:=Q7 hs;have e:AO flags l=(l,[],false):=e;rw [e]
      cases b with
      | zero=>rfl
      | succ b=>rw [alX,e];simp
  · rw [if_neg hs] at hc;rw [if_neg hs,if_neg hs];exact Ip a _ _ (CM hr).1 hc
theorem OX (hr:AA l) (hc:¬ EH (alX flags a l []).1):(alX flags b (alX flags a l []).1 []).1=(alX flags (a+b) l []).1/\(alX flags a l []).2++(alX flags b (alX flags a l []).1 []).2=(alX flags (a+b) l []).2:=by
 have h:=Ip (b:=b) a l [] hr hc;rw [Qf b] at h;rw [h];exact ⟨rfl,rfl⟩
theorem Fc:∀ (p:Nat) (l:LPx) (ts:List Ti),AA l->AA (alX flags p l ts).1/\(alX flags p l ts).1.n=l.n/\(alX flags p l ts).1.cols=l.cols
 | 0,l,ts,hr=>⟨hr,rfl,rfl⟩
 | p+1,l,ts,hr=>by
  obtain ⟨h1,h2,h3⟩:=CM (flags:=flags) hr;rw [alX]
  split
  · exact ⟨h1,h2,h3⟩
  · obtain ⟨k1,k2,k3⟩:=Fc p _ (ts++(AO flags l).2.1) h1;exact ⟨k1,k2.trans h2,k3.trans h3⟩
end
theorem Ri {w:World} {v:Value} {us:List Ux} {i:Nat} {u:Ux} (h:Uv w v us) (hi:us[i]?=some u):∃ g o cap,∃ x:Um,v=.slice (some ⟨g,o,none⟩) us.length cap/\g<w.heap.size/\Fv w x.num u.f/\x.c=u.c/\x.u=u.u/\w.cell? ⟨g,o+i*5,none⟩=some (.int .i64 x.c)/\w.cell? ⟨g,o+i*5+1,none⟩=some (.bool x.u)/\w.cell? ⟨g,o+i*5+2,none⟩=some (.bool x.b)/\w.cell? ⟨g,o+i*5+3,none⟩=some (.slice x.A x.l x.k)/\w.cell? ⟨g,o+i*5+4,none⟩=some (.slice x.B x.m x.d):=by
 obtain ⟨xs,h1,h2⟩:=h;obtain ⟨x,hx,hp⟩:=h2.left hi;obtain ⟨g,o,cap,e,-,hg,hc⟩:=Rv.at_ (s:=5) Yd Um.len h1 hx;exact ⟨g,o,cap,x,by rw [e,h2.1],hg,hp.2.2,hp.1,hp.2.1,hc 0 _ rfl,hc 1 _ rfl,hc 2 _ rfl,hc 3 _ rfl,hc 4 _ rfl⟩
namespace I
theorem MD {w:World} {v:Value} {l:LPx} {M:Nat} (h:LPv w v l) (hr:AA l) (hf:Dl M l) (hM:0<M) (hMx:M<=1048576):
 Calls Tryz.prog 30 #[v] w fun e w'=>GK (fun r=>r=true↔EH l) e/\Yg w w':=by
 obtain ⟨aA,an,ac,bA,bn,bc,cA,cn,cc,dA,dn,dc,eA,en,ec,fA,fn,fc,rfl,hP,hla,hlb,hlc,hld,hle,hlf,hma,hmb,hmc,hmd,hme,hmf⟩:=h.open;have HS:=Lib.hid hP;have HF:=Lib.hid hf;have hna:an<=14:=by rw [<- hla];exact hf.1.1
 obtain rfl:an=bn:=by rw [<- hla,<- hlb];exact hr.1.2.2.2.2.1.symm
 obtain rfl:an=cn:=by rw [<- hla,<- hlc];exact hr.1.2.2.2.2.2.1.symm
 obtain rfl:an=dn:=by rw [<- hla,<- hld];exact hr.1.2.2.1.symm
 obtain rfl:an=en:=by rw [<- hla,<- hle];exact hr.1.2.2.2.1.symm
 obtain rfl:an=fn:=by rw [<- hla,<- hlf];exact hr.1.2.2.2.2.2.2.symm
 have HL:=Yh6 hla hlb hlc hld hle hlf;have HR:=Lib.hid hr;have HM:=Yh2 hM hMx;clear hP hf hla hlb hlc hld hle hlf hma hmb hmc hmd hme hmf h hr hM hMx;change Calls Tryz.prog 30 #[.agg #[.int .i64 l.n,.slice aA an ac,.slice bA an bc,.slice cA an cc,.slice dA an dc,.slice eA an ec,.slice fA an fc]] w _;go_enter Tryz.func30,Tryz.ntmps30;go_upto_region 1 with (fail)
 obtain ⟨hX,hB⟩:=GO w 26 [.int .i64 l.n,.slice aA an ac,.slice bA an bc,.slice cA an cc,.slice dA an dc,.slice eA an ec,.slice fA an fc];have HX:=Yh2 hX hB;clear hX hB;generalize w.alloc _=W0 at HX ⊢;have HC:Hid (∀ W,Yg W0 W->Ye7 W w.heap.size (.int .i64 l.n) (.slice aA an ac) (.slice bA an bc) (.slice cA an cc) (.slice dA an dc) (.slice eA an ec) (.slice fA an fc)):=fun W hb=>⟨Bl.ld (HX.p0.keep hb) 0 rfl,Bl.ld (HX.p0.keep hb) 1 rfl,Bl.ld (HX.p0.keep hb) 2 rfl,Bl.ld (HX.p0.keep hb) 3 rfl,Bl.ld (HX.p0.keep hb) 4 rfl,Bl.ld (HX.p0.keep hb) 5 rfl,Bl.ld (HX.p0.keep hb) 6 rfl⟩;go_wp2_with fail;go_loopw [3] (fun z wr=>∃ (k:Nat),z=.int .i64 (k:Int)/\k<=an/\Hid (Yg W0 wr/\∀ j,j<k->Co l j=false)) (fun z _=>an - (intOf z).toNat)
 case atStart=>exact ⟨0,rfl,Un _,Aj,fun j h=>absurd h (Nat.not_lt_zero j)⟩
 case round=>
  obtain ⟨k,rfl,hk,H⟩:=hrel;obtain ⟨l0,l1,l2,l3,l4,l5,l6⟩:=HC.out _ H.p0;by_cases hlt:k<an
  · skip;obtain ⟨_,tb,tc,td,te,_,-,htb,htc,htd,hte,-,-⟩:=Cp HR.out (k:=k) (by rw [HL.p0];exact hlt);obtain ⟨gb,ob,qb,e,hgb,zb0⟩:=HS.p1.at_ htb;rw [HL.p1] at e;injection e with e1 e2 e3
    subst e1;clear e2 e3 qb;obtain ⟨gc,oc,qc,e,hgc,zc0⟩:=HS.p2.at_ htc;rw [HL.p2] at e;injection e with e1 e2 e3
    subst e1;clear e2 e3 qc;obtain ⟨gd,od,qd,xd,e,hgd,hvd,zd0,zd1,zd2⟩:=HS.p3.at_ htd;rw [HL.p3] at e;injection e with e1 e2 e3
    subst e1;clear e2 e3 qd;obtain ⟨ge,oe,qe,xe,e,hge,hve,ze0,ze1,ze2⟩:=HS.p4.at_ hte;rw [HL.p4] at e;injection e with e1 e2 e3
    subst e1;clear e2 e3 qe;have m1:=HF.p0.2.2 td (.inl (TO htd));have m2:=HF.p0.2.2 te (.inr (.inl (TO hte)));have HV:=Yh2 (hvd.qv m1.1 m1.2) (hve.qv m2.1 m2.2)
    have hcx:Co l k=(tb && tc && decide (0<DJ td.q te.q)):=by
     unfold Co CT Cs;simp [TS,htb,htc,htd,hte]
    have HCX:=Lib.hid hcx
    have HE:Hid (∀ W,Yg W0 W->Yc7 W w.heap.size (.int .i64 l.n) (.slice aA an ac) (.slice (some ⟨gb,ob,none⟩) an bc) (.slice (some ⟨gc,oc,none⟩) an cc) (.slice (some ⟨gd,od,none⟩) an dc) (.slice (some ⟨ge,oe,none⟩) an ec) (.slice fA an fc) (W.cell? ⟨gb,ob+k,none⟩=some (.bool tb)/\W.cell? ⟨gc,oc+k,none⟩=some (.bool tc)/\W.cell? ⟨gd,od+k*3,none⟩=some (.bool xd.b)/\W.cell? ⟨gd,od+k*3+1,none⟩=some (.slice xd.A xd.l xd.k)/\W.cell? ⟨gd,od+k*3+2,none⟩=some (.slice xd.B xd.m xd.d)/\W.cell? ⟨ge,oe+k*3,none⟩=some (.bool xe.b)/\W.cell? ⟨ge,oe+k*3+1,none⟩=some (.slice xe.A xe.l xe.k)/\W.cell? ⟨ge,oe+k*3+2,none⟩=some (.slice xe.B xe.m xe.d))):=fun W b0=>by
     have b:=Yb HX.q1 b0;obtain ⟨l0,l1,l2,l3,l4,l5,l6⟩:=HC.out _ b0;exact ⟨l0,l1,l2,l3,l4,l5,l6,(b.cell (p:=⟨gb,_,none⟩) hgb).trans zb0,(b.cell (p:=⟨gc,_,none⟩) hgc).trans zc0,(b.cell (p:=⟨gd,_,none⟩) hgd).trans zd0,(b.cell (p:=⟨gd,_,none⟩) hgd).trans zd1,(b.cell (p:=⟨gd,_,none⟩) hgd).trans zd2,(b.cell (p:=⟨ge,_,none⟩) hge).trans ze0,(b.cell (p:=⟨ge,_,none⟩) hge).trans ze1,(b.cell (p:=⟨ge,_,none⟩) hge).trans ze2⟩
    have dk:(k:Int)<(an:Int):=Yo;clear hcx m1 m2 hgb htb hgc htc hgd htd hge hte zb0 zc0 zd0 zd1 zd2 ze0 ze1 ze2 hvd hve;go_upto_region 4 with (fail)
    clear l0 l1 l2 l3 l4 l5 l6
    cases tb with
    | false=>
     cases tc with
     | false=>
      refine BA (fun W=>Yg W0 W/\W.cell? ⟨w.heap.size,0,none⟩=some (.int .i64 l.n)/\W.cell? ⟨w.heap.size,1,none⟩=some (.slice aA an ac)/\W.cell? ⟨w.heap.size,2,none⟩=some (.slice (some ⟨gb,ob,none⟩) an bc)/\W.cell? ⟨w.heap.size,3,none⟩=some (.slice (some ⟨gc,oc,none⟩) an cc)/\W.cell? ⟨w.heap.size,4,none⟩=some (.slice (some ⟨gd,od,none⟩) an dc)/\W.cell? ⟨w.heap.size,5,none⟩=some (.slice (some ⟨ge,oe,none⟩) an ec)/\W.cell? ⟨w.heap.size,6,none⟩=some (.slice fA an fc)/\W.cell? ⟨gb,ob+k,none⟩=some (.bool false)/\W.cell? ⟨gc,oc+k,none⟩=some (.bool false)/\W.cell? ⟨gd,od+k*3,none⟩=some (.bool xd.b)/\W.cell? ⟨gd,od+k*3+1,none⟩=some (.slice xd.A xd.l xd.k)/\W.cell? ⟨gd,od+k*3+2,none⟩=some (.slice xd.B xd.m xd.d)/\W.cell? ⟨ge,oe+k*3,none⟩=some (.bool xe.b)/\W.cell? ⟨ge,oe+k*3+1,none⟩=some (.slice xe.A xe.l xe.k)/\W.cell? ⟨ge,oe+k*3+2,none⟩=some (.slice xe.B xe.m xe.d)) (fun _ _=>True) (fun _ _=>False) 0 [⟨[],[(0,11),(1,12),(2,13),(3,14),(4,15),(5,16),(6,17),(7,18),(8,19),(9,20),(10,21),(11,22),(12,23),(13,24),(14,25),(15,26),(16,27),(17,28),(19,30),(20,31),(21,32),(22,33),(23,34)],[],[(18,29,fun v W=>v=undef),(24,35,fun v W=>v=undef)]⟩,⟨[(25,36)],[(0,11),(1,12),(2,13),(3,14),(4,15),(5,16),(6,17),(7,18),(8,19),(9,20),(10,21),(11,22),(12,23),(26,37),(27,38)],[],[]⟩,⟨[(18,29),(24,35)],[(0,11),(1,12),(2,13),(3,14),(4,15),(5,16),(6,17),(7,18),(8,19),(9,20),(10,21),(11,22),(12,23)],[],[(25,36,fun v W=>v=undef)]⟩] [] [] ⟨[(18,29),(24,35),(25,36)],[(0,11),(1,12),(2,13),(3,14),(4,15),(5,16),(6,17),(7,18),(8,19),(9,20),(10,21),(11,22),(12,23),(13,24),(14,25),(15,26),(16,27),(17,28),(19,30),(20,31),(21,32),(22,33),(23,34),(26,37),(27,38)],[],[]⟩ ⟨H.p0,HE.out _ H.p0⟩ (trivial) (fun _ _ h b=>⟨Yb h.1 b,HE.out _ (Yb h.1 b)⟩) (fun _ _ _ h _=>h) ⟨fun _ _ _ h _=>h,fun _ _ _ _ h=>h.elim,⟨fun _ _ _ h _=>h,fun _ _ _ _ h=>h.elim,⟨fun _ _ _ h _=>h,fun _ _ _ _ h=>h.elim,trivial⟩⟩⟩ ⟨?_,?_,?_,trivial⟩ trivial trivial ?_
      · rintro W hS;refine gvN ?_;(repeat first|refine flA ?_|refine flB ?_);refine flN (flN ?_);refine flK (fun K hK=>?_) (flK (fun K hK=>?_) flL)
        · go_simp;exact hK.out _ _ ⟨rfl,Aj⟩
        · go_simp;exact hK.out _ _ ⟨rfl,Aj⟩
      · rintro W hS v25 rfl;refine gvN ?_;(repeat first|refine flA ?_|refine flB ?_);refine flN (flN ?_);exact flL
      · rintro W hS v18 rfl v24 rfl;refine gvN ?_;(repeat first|refine flA ?_|refine flB ?_);refine flN (flN ?_);refine flK (fun K hK=>?_) flL;go_simp;exact hK.out _ _ ⟨rfl,Aj⟩
      rintro W hS - v18 rfl v24 rfl v25 rfl;have hS:=hS flY;refine gvN ?_;(repeat first|refine flA ?_|refine flB ?_);refine flN (flN ?_)
      have HN:Hid (Yg W0 W/\∀ j,j<k+1->Co l j=false):=⟨hS.1,fun j hj=>by
       by_cases e:j=k
       · rw [e,HCX.out];simp
       · exact H.q1 j Yo⟩
      clear hS;go_wp2_with fail
      case roundEnd=>exact ⟨⟨k+1,by go_num,Yo,HN.out⟩,by simp [intOf];omega⟩
     | true=>
      refine BA (fun W=>Yg W0 W/\W.cell? ⟨w.heap.size,0,none⟩=some (.int .i64 l.n)/\W.cell? ⟨w.heap.size,1,none⟩=some (.slice aA an ac)/\W.cell? ⟨w.heap.size,2,none⟩=some (.slice (some ⟨gb,ob,none⟩) an bc)/\W.cell? ⟨w.heap.size,3,none⟩=some (.slice (some ⟨gc,oc,none⟩) an cc)/\W.cell? ⟨w.heap.size,4,none⟩=some (.slice (some ⟨gd,od,none⟩) an dc)/\W.cell? ⟨w.heap.size,5,none⟩=some (.slice (some ⟨ge,oe,none⟩) an ec)/\W.cell? ⟨w.heap.size,6,none⟩=some (.slice fA an fc)/\W.cell? ⟨gb,ob+k,none⟩=some (.bool false)/\W.cell? ⟨gc,oc+k,none⟩=some (.bool true)/\W.cell? ⟨gd,od+k*3,none⟩=some (.bool xd.b)/\W.cell? ⟨gd,od+k*3+1,none⟩=some (.slice xd.A xd.l xd.k)/\W.cell? ⟨gd,od+k*3+2,none⟩=some (.slice xd.B xd.m xd.d)/\W.cell? ⟨ge,oe+k*3,none⟩=some (.bool xe.b)/\W.cell? ⟨ge,oe+k*3+1,none⟩=some (.slice xe.A xe.l xe.k)/\W.cell? ⟨ge,oe+k*3+2,none⟩=some (.slice xe.B xe.m xe.d)) (fun _ _=>True) (fun _ _=>False) 0 [⟨[],[(0,11),(1,12),(2,13),(3,14),(4,15),(5,16),(6,17),(7,18),(8,19),(9,20),(10,21),(11,22),(12,23),(13,24),(14,25),(15,26),(16,27),(17,28),(19,30),(20,31),(21,32),(22,33),(23,34)],[],[(18,29,fun v W=>v=undef),(24,35,fun v W=>v=undef)]⟩,⟨[(25,36)],[(0,11),(1,12),(2,13),(3,14),(4,15),(5,16),(6,17),(7,18),(8,19),(9,20),(10,21),(11,22),(12,23),(26,37),(27,38)],[],[]⟩,⟨[(18,29),(24,35)],[(0,11),(1,12),(2,13),(3,14),(4,15),(5,16),(6,17),(7,18),(8,19),(9,20),(10,21),(11,22),(12,23)],[],[(25,36,fun v W=>v=undef)]⟩] [] [] ⟨[(18,29),(24,35),(25,36)],[(0,11),(1,12),(2,13),(3,14),(4,15),(5,16),(6,17),(7,18),(8,19),(9,20),(10,21),(11,22),(12,23),(13,24),(14,25),(15,26),(16,27),(17,28),(19,30),(20,31),(21,32),(22,33),(23,34),(26,37),(27,38)],[],[]⟩ ⟨H.p0,HE.out _ H.p0⟩ (trivial) (fun _ _ h b=>⟨Yb h.1 b,HE.out _ (Yb h.1 b)⟩) (fun _ _ _ h _=>h) ⟨fun _ _ _ h _=>h,fun _ _ _ _ h=>h.elim,⟨fun _ _ _ h _=>h,fun _ _ _ _ h=>h.elim,⟨fun _ _ _ h _=>h,fun _ _ _ _ h=>h.elim,trivial⟩⟩⟩ ⟨?_,?_,?_,trivial⟩ trivial trivial ?_
      · rintro W hS;refine gvN ?_;(repeat first|refine flA ?_|refine flB ?_);refine flN (flN ?_);refine flK (fun K hK=>?_) (flK (fun K hK=>?_) flL)
        · go_simp;exact hK.out _ _ ⟨rfl,Aj⟩
        · go_simp;exact hK.out _ _ ⟨rfl,Aj⟩
      · rintro W hS v25 rfl;refine gvN ?_;(repeat first|refine flA ?_|refine flB ?_);refine flN (flN ?_);exact flL
      · rintro W hS v18 rfl v24 rfl;refine gvN ?_;(repeat first|refine flA ?_|refine flB ?_);refine flN (flN ?_);refine flK (fun K hK=>?_) flL;go_simp;exact hK.out _ _ ⟨rfl,Aj⟩
      rintro W hS - v18 rfl v24 rfl v25 rfl;have hS:=hS flY;refine gvN ?_;(repeat first|refine flA ?_|refine flB ?_);refine flN (flN ?_)
      have HN:Hid (Yg W0 W/\∀ j,j<k+1->Co l j=false):=⟨hS.1,fun j hj=>by
       by_cases e:j=k
       · rw [e,HCX.out];simp
       · exact H.q1 j Yo⟩
      clear hS;go_wp2_with fail
      case roundEnd=>exact ⟨⟨k+1,by go_num,Yo,HN.out⟩,by simp [intOf];omega⟩
    | true=>
     cases tc with
     | false=>
      refine BA (fun W=>Yg W0 W/\W.cell? ⟨w.heap.size,0,none⟩=some (.int .i64 l.n)/\W.cell? ⟨w.heap.size,1,none⟩=some (.slice aA an ac)/\W.cell? ⟨w.heap.size,2,none⟩=some (.slice (some ⟨gb,ob,none⟩) an bc)/\W.cell? ⟨w.heap.size,3,none⟩=some (.slice (some ⟨gc,oc,none⟩) an cc)/\W.cell? ⟨w.heap.size,4,none⟩=some (.slice (some ⟨gd,od,none⟩) an dc)/\W.cell? ⟨w.heap.size,5,none⟩=some (.slice (some ⟨ge,oe,none⟩) an ec)/\W.cell? ⟨w.heap.size,6,none⟩=some (.slice fA an fc)/\W.cell? ⟨gb,ob+k,none⟩=some (.bool true)/\W.cell? ⟨gc,oc+k,none⟩=some (.bool false)/\W.cell? ⟨gd,od+k*3,none⟩=some (.bool xd.b)/\W.cell? ⟨gd,od+k*3+1,none⟩=some (.slice xd.A xd.l xd.k)/\W.cell? ⟨gd,od+k*3+2,none⟩=some (.slice xd.B xd.m xd.d)/\W.cell? ⟨ge,oe+k*3,none⟩=some (.bool xe.b)/\W.cell? ⟨ge,oe+k*3+1,none⟩=some (.slice xe.A xe.l xe.k)/\W.cell? ⟨ge,oe+k*3+2,none⟩=some (.slice xe.B xe.m xe.d)) (fun _ _=>True) (fun _ _=>False) 0 [⟨[],[(0,11),(1,12),(2,13),(3,14),(4,15),(5,16),(6,17),(7,18),(8,19),(9,20),(10,21),(11,22),(12,23),(13,24),(14,25),(15,26),(16,27),(17,28),(19,30),(20,31),(21,32),(22,33),(23,34)],[],[(18,29,fun v W=>v=undef),(24,35,fun v W=>v=undef)]⟩,⟨[(25,36)],[(0,11),(1,12),(2,13),(3,14),(4,15),(5,16),(6,17),(7,18),(8,19),(9,20),(10,21),(11,22),(12,23),(26,37),(27,38)],[],[]⟩,⟨[(18,29),(24,35)],[(0,11),(1,12),(2,13),(3,14),(4,15),(5,16),(6,17),(7,18),(8,19),(9,20),(10,21),(11,22),(12,23)],[],[(25,36,fun v W=>v=undef)]⟩] [] [] ⟨[(18,29),(24,35),(25,36)],[(0,11),(1,12),(2,13),(3,14),(4,15),(5,16),(6,17),(7,18),(8,19),(9,20),(10,21),(11,22),(12,23),(13,24),(14,25),(15,26),(16,27),(17,28),(19,30),(20,31),(21,32),(22,33),(23,34),(26,37),(27,38)],[],[]⟩ ⟨H.p0,HE.out _ H.p0⟩ (trivial) (fun _ _ h b=>⟨Yb h.1 b,HE.out _ (Yb h.1 b)⟩) (fun _ _ _ h _=>h) ⟨fun _ _ _ h _=>h,fun _ _ _ _ h=>h.elim,⟨fun _ _ _ h _=>h,fun _ _ _ _ h=>h.elim,⟨fun _ _ _ h _=>h,fun _ _ _ _ h=>h.elim,trivial⟩⟩⟩ ⟨?_,?_,?_,trivial⟩ trivial trivial ?_
      · rintro W hS;refine gvN ?_;(repeat first|refine flA ?_|refine flB ?_);refine flN (flN ?_);refine flK (fun K hK=>?_) (flK (fun K hK=>?_) flL)
        · go_simp;exact hK.out _ _ ⟨rfl,Aj⟩
        · go_simp;exact hK.out _ _ ⟨rfl,Aj⟩
      · rintro W hS v25 rfl;refine gvN ?_;(repeat first|refine flA ?_|refine flB ?_);refine flN (flN ?_);exact flL
      · rintro W hS v18 rfl v24 rfl;refine gvN ?_;(repeat first|refine flA ?_|refine flB ?_);refine flN (flN ?_);refine flK (fun K hK=>?_) flL;go_simp;exact hK.out _ _ ⟨rfl,Aj⟩
      rintro W hS - v18 rfl v24 rfl v25 rfl;have hS:=hS flY;refine gvN ?_;(repeat first|refine flA ?_|refine flB ?_);refine flN (flN ?_)
      have HN:Hid (Yg W0 W/\∀ j,j<k+1->Co l j=false):=⟨hS.1,fun j hj=>by
       by_cases e:j=k
       · rw [e,HCX.out];simp
       · exact H.q1 j Yo⟩
      clear hS;go_wp2_with fail
      case roundEnd=>exact ⟨⟨k+1,by go_num,Yo,HN.out⟩,by simp [intOf];omega⟩
     | true=>
      refine BA (fun W=>Yg W0 W/\W.cell? ⟨w.heap.size,0,none⟩=some (.int .i64 l.n)/\W.cell? ⟨w.heap.size,1,none⟩=some (.slice aA an ac)/\W.cell? ⟨w.heap.size,2,none⟩=some (.slice (some ⟨gb,ob,none⟩) an bc)/\W.cell? ⟨w.heap.size,3,none⟩=some (.slice (some ⟨gc,oc,none⟩) an cc)/\W.cell? ⟨w.heap.size,4,none⟩=some (.slice (some ⟨gd,od,none⟩) an dc)/\W.cell? ⟨w.heap.size,5,none⟩=some (.slice (some ⟨ge,oe,none⟩) an ec)/\W.cell? ⟨w.heap.size,6,none⟩=some (.slice fA an fc)/\W.cell? ⟨gb,ob+k,none⟩=some (.bool true)/\W.cell? ⟨gc,oc+k,none⟩=some (.bool true)/\W.cell? ⟨gd,od+k*3,none⟩=some (.bool xd.b)/\W.cell? ⟨gd,od+k*3+1,none⟩=some (.slice xd.A xd.l xd.k)/\W.cell? ⟨gd,od+k*3+2,none⟩=some (.slice xd.B xd.m xd.d)/\W.cell? ⟨ge,oe+k*3,none⟩=some (.bool xe.b)/\W.cell? ⟨ge,oe+k*3+1,none⟩=some (.slice xe.A xe.l xe.k)/\W.cell? ⟨ge,oe+k*3+2,none⟩=some (.slice xe.B xe.m xe.d)) (fun _ _=>True) (fun _ _=>False) 0 [⟨[],[(0,11),(1,12),(2,13),(3,14),(4,15),(5,16),(6,17),(7,18),(8,19),(9,20),(10,21),(11,22),(12,23),(13,24),(14,25),(15,26),(16,27),(17,28),(19,30),(20,31),(21,32),(22,33),(23,34)],[],[(18,29,fun v W=>∃ p A l c B k d,v=.agg #[.bool p,.slice A l c,.slice B k d]/\Qe W (5*M) (.agg #[.bool p,.slice A l c,.slice B k d]) td.q),(24,35,fun v W=>∃ p A l c B k d,v=.agg #[.bool p,.slice A l c,.slice B k d]/\Qe W (5*M) (.agg #[.bool p,.slice A l c,.slice B k d]) te.q)]⟩,⟨[(25,36)],[(0,11),(1,12),(2,13),(3,14),(4,15),(5,16),(6,17),(7,18),(8,19),(9,20),(10,21),(11,22),(12,23),(26,37),(27,38)],[],[]⟩,⟨[(18,29),(24,35)],[(0,11),(1,12),(2,13),(3,14),(4,15),(5,16),(6,17),(7,18),(8,19),(9,20),(10,21),(11,22),(12,23)],[],[(25,36,fun v W=>v=.int .i64 (DJ td.q te.q))]⟩] [] [] ⟨[(18,29),(24,35),(25,36)],[(0,11),(1,12),(2,13),(3,14),(4,15),(5,16),(6,17),(7,18),(8,19),(9,20),(10,21),(11,22),(12,23),(13,24),(14,25),(15,26),(16,27),(17,28),(19,30),(20,31),(21,32),(22,33),(23,34),(26,37),(27,38)],[],[]⟩ ⟨H.p0,HE.out _ H.p0⟩ (trivial) (fun _ _ h b=>⟨Yb h.1 b,HE.out _ (Yb h.1 b)⟩) (fun _ _ _ h _=>h) ⟨fun _ _ _ ⟨p,A,l,c,B,k,d,e,h⟩ b=>⟨p,A,l,c,B,k,d,e,h.keep b⟩,fun _ _ _ _ h=>h.elim,⟨fun _ _ _ ⟨p,A,l,c,B,k,d,e,h⟩ b=>⟨p,A,l,c,B,k,d,e,h.keep b⟩,fun _ _ _ _ h=>h.elim,⟨fun _ _ _ h _=>h,fun _ _ _ _ h=>h.elim,trivial⟩⟩⟩ ⟨?_,?_,?_,trivial⟩ trivial trivial ?_
      · rintro W hS;refine gvN ?_;(repeat first|refine flA ?_|refine flB ?_);refine flN (flN ?_);refine flK (fun K hK=>?_) (flK (fun K hK=>?_) flL)
        · go_simp;go_at_call 37;refine (PX (HV.p0.keep (Yb HX.q1 hS.1)) HM.p0 HM.q1).mono ?_;rintro e W2 ⟨v,rfl,h,hb⟩;obtain ⟨p,A,l_,c,B,k_,d,rfl⟩:=h.parts;go_wp2_with fail;exact hK.out _ _ ⟨⟨_,_,_,_,_,_,_,rfl,h⟩,hb⟩
        · go_simp;go_at_call 37;refine (PX (HV.q1.keep (Yb HX.q1 hS.1)) HM.p0 HM.q1).mono ?_;rintro e W2 ⟨v,rfl,h,hb⟩;obtain ⟨p,A,l_,c,B,k_,d,rfl⟩:=h.parts;go_wp2_with fail;exact hK.out _ _ ⟨⟨_,_,_,_,_,_,_,rfl,h⟩,hb⟩
      · rintro W hS v25 rfl;refine gvN ?_;(repeat first|refine flA ?_|refine flB ?_);refine flN (flN ?_);exact flL
      · rintro W hS v18 ⟨p18,A18,l18,c18,B18,k18,d18,rfl,h18⟩ v24 ⟨p24,A24,l24,c24,B24,k24,d24,rfl,h24⟩;refine gvN ?_;(repeat first|refine flA ?_|refine flB ?_);refine flN (flN ?_);refine flK (fun K hK=>?_) flL;go_simp;go_at_call 36;refine (Tu h18 h24 (by have:=HM.out;omega) (by have:=HM.out;omega) (by have:=HM.out;omega) (by have:=HM.out;omega)).mono ?_;rintro e W2 ⟨rfl,hb⟩;go_wp2_with fail;exact hK.out _ _ ⟨rfl,hb⟩
      rintro W hS - v18 ⟨p18,A18,l18,c18,B18,k18,d18,rfl,h18⟩ v24 ⟨p24,A24,l24,c24,B24,k24,d24,rfl,h24⟩ v25 rfl;have hS:=hS flY;refine gvN ?_;(repeat first|refine flA ?_|refine flB ?_);refine flN (flN ?_);by_cases hd:0<DJ td.q te.q
      · skip;have HCR:Hid (EH l):=⟨k,by rw [HL.p0];exact hlt,by rw [HCX.out];simp [hd]⟩;have HB:=Lib.hid (Yb HX.q1 hS.1);clear hS;go_wp2_with fail;go_ret;exact ⟨⟨true,rfl,⟨fun _=>HCR.out,fun _=>rfl⟩⟩,HB.out⟩
      have HN:Hid (Yg W0 W/\∀ j,j<k+1->Co l j=false):=⟨hS.1,fun j hj=>by
       by_cases e:j=k
       · rw [e,HCX.out];simp [hd]
       · exact H.q1 j Yo⟩
      clear hS;go_wp2_with fail
      case roundEnd=>exact ⟨⟨k+1,by go_num,Yo,HN.out⟩,by simp [intOf];omega⟩
  obtain rfl:k=an:=by omega
  have HNO:Hid (¬ EH l):=by rintro ⟨i,hi,hx⟩;rw [H.q1 i (by rw [<- HL.p0];exact hi)] at hx;cases hx
  have HB:=Lib.hid (Yb HX.q1 H.p0);have d0:¬ (k:Int)<(k:Int):=Yo;go_wp2_with fail;go_ret;exact ⟨⟨false,rfl,⟨fun h=>(by cases h),fun h=>absurd h HNO.out⟩⟩,HB.out⟩
theorem P7 {w:World} {a c:Value} {us:List Ux} (ha:Uv w a us) (hc:Uv w c us):
 Calls Tryz.prog 87 #[a,c] w fun e w'=>e=.returned (.bool true)/\Yg w w':=by
 obtain ⟨A,cap,rfl,q1,q2⟩:=ha.shape;obtain ⟨B,cap2,rfl,q3,q4⟩:=hc.shape;obtain ⟨n,hn⟩:∃ n,us.length=n:=⟨_,rfl⟩;rw [hn] at ha hc q1 q3 ⊢;have hbig:n<=9223372036854775807:=by unfold maxLen at q2;omega
 have HS:=Yh3 ha hc hn;clear ha hc hn q1 q2 q3 q4;have e0:(((n:Nat):Int)==(n:Int))=true:=beq_self_eq_true _;go_enter Tryz.func87,Tryz.ntmps87;go_upto_region 3 with (fail)
 clear e0;go_wp2_with fail;go_loopw [5] (fun i wr=>∃ (k:Nat),i=.int .i64 (k:Int)/\k<=n/\Hid (Yg w wr)) (fun i _=>n - (intOf i).toNat)
 case atStart=>exact ⟨0,rfl,Un _,Aj⟩
 case round=>
  obtain ⟨k,rfl,hk,H⟩:=hrel;by_cases hlt:k<n
  · skip;obtain ⟨t,ht⟩:∃ t,us[k]?=some t:=⟨_,List.getElem?_eq_getElem (by rw [HS.q2];exact hlt)⟩;obtain ⟨g1,o1,c5,x,e,hg1,hFx,hx1,hx2,c0,c1,c2,c3,c4⟩:=Ri HS.p0 ht;rw [HS.q2] at e;injection e with e1 e2 e3
    subst e1;clear e2 e3;obtain ⟨g2,o2,c6,y,e,hg2,hFy,hy1,hy2,d0,d1,d2,d3,d4⟩:=Ri HS.p1 ht;rw [HS.q2] at e;injection e with e1 e2 e3
    subst e1;clear e2 e3
    have HC:Hid (∀ W,Yg w W->W.cell? ⟨g1,o1+k*5,none⟩=some (.int .i64 x.c)/\W.cell? ⟨g1,o1+k*5+1,none⟩=some (.bool x.u)/\W.cell? ⟨g1,o1+k*5+2,none⟩=some (.bool x.b)/\W.cell? ⟨g1,o1+k*5+3,none⟩=some (.slice x.A x.l x.k)/\W.cell? ⟨g1,o1+k*5+4,none⟩=some (.slice x.B x.m x.d)/\W.cell? ⟨g2,o2+k*5,none⟩=some (.int .i64 x.c)/\W.cell? ⟨g2,o2+k*5+1,none⟩=some (.bool x.u)/\W.cell? ⟨g2,o2+k*5+2,none⟩=some (.bool y.b)/\W.cell? ⟨g2,o2+k*5+3,none⟩=some (.slice y.A y.l y.k)/\W.cell? ⟨g2,o2+k*5+4,none⟩=some (.slice y.B y.m y.d)):=fun W b=>by
     have k1:∀ j u,w.cell? ⟨g1,j,none⟩=some u->W.cell? ⟨g1,j,none⟩=some u:=fun j u h=>(b.cell (p:=⟨g1,j,none⟩) hg1).trans h;have k2:∀ j u,w.cell? ⟨g2,j,none⟩=some u->W.cell? ⟨g2,j,none⟩=some u:=fun j u h=>(b.cell (p:=⟨g2,j,none⟩) hg2).trans h;rw [hx1,hx2];rw [hx1] at c0;rw [hx2] at c1;rw [hy1] at d0;rw [hy2] at d1;exact ⟨k1 _ _ c0,k1 _ _ c1,k1 _ _ c2,k1 _ _ c3,k1 _ _ c4,k2 _ _ d0,k2 _ _ d1,k2 _ _ d2,k2 _ _ d3,k2 _ _ d4⟩
    have HX:=Yh2 hFx hFy;have dk:(k:Int)<(n:Int):=Yo;have e1:(x.c==x.c)=true:=beq_self_eq_true _;have e2:(x.u==x.u)=true:=beq_self_eq_true _;clear ht hg1 hg2 hFx hFy hx1 hx2 hy1 hy2 c0 c1 c2 c3 c4 d0 d1 d2 d3 d4;go_upto_region 6 with (fail)
    refine BA (fun W=>Yg w W/\W.cell? ⟨g1,o1+k*5,none⟩=some (.int .i64 x.c)/\W.cell? ⟨g1,o1+k*5+1,none⟩=some (.bool x.u)/\W.cell? ⟨g1,o1+k*5+2,none⟩=some (.bool x.b)/\W.cell? ⟨g1,o1+k*5+3,none⟩=some (.slice x.A x.l x.k)/\W.cell? ⟨g1,o1+k*5+4,none⟩=some (.slice x.B x.m x.d)/\W.cell? ⟨g2,o2+k*5,none⟩=some (.int .i64 x.c)/\W.cell? ⟨g2,o2+k*5+1,none⟩=some (.bool x.u)/\W.cell? ⟨g2,o2+k*5+2,none⟩=some (.bool y.b)/\W.cell? ⟨g2,o2+k*5+3,none⟩=some (.slice y.A y.l y.k)/\W.cell? ⟨g2,o2+k*5+4,none⟩=some (.slice y.B y.m y.d)) (fun _ _=>True) (fun _ _=>False) 0 [⟨[],[(0,17),(1,18),(2,19),(3,20),(4,21),(5,22),(6,23),(7,24),(8,25),(9,26),(10,27),(11,28),(12,29),(13,30),(14,31),(15,32),(16,33),(17,34),(18,35),(19,36),(20,37),(21,38),(22,39),(23,40),(24,41),(25,42),(26,43),(27,44),(28,45),(29,46),(30,47),(31,48),(32,49),(33,50),(34,51)],[],[(35,52,fun v W=>v=.bool true)]⟩,⟨[(35,52)],[(0,17),(1,18),(2,19),(3,20),(4,21),(5,22),(6,23),(7,24),(8,25),(9,26),(10,27),(11,28),(12,29),(13,30),(14,31),(15,32),(16,33),(17,34),(18,35),(19,36),(20,37),(21,38),(22,39),(23,40),(24,41),(36,53),(37,54)],[],[]⟩] [] [] ⟨[(35,52)],[(0,17),(1,18),(2,19),(3,20),(4,21),(5,22),(6,23),(7,24),(8,25),(9,26),(10,27),(11,28),(12,29),(13,30),(14,31),(15,32),(16,33),(17,34),(18,35),(19,36),(20,37),(21,38),(22,39),(23,40),(24,41),(25,42),(26,43),(27,44),(28,45),(29,46),(30,47),(31,48),(32,49),(33,50),(34,51),(36,53),(37,54)],[],[]⟩ ⟨H.out,HC.out _ H.out⟩ (trivial) (fun _ _ h b=>⟨Yb h.1 b,HC.out _ (Yb h.1 b)⟩) (fun _ _ _ h _=>h) ⟨fun _ _ _ h _=>h,fun _ _ _ _ h=>h.elim,trivial⟩ ⟨?_,?_,trivial⟩ trivial trivial ?_
    · rintro W hS;refine gvN ?_;(repeat first|refine flA ?_|refine flB ?_);refine flN (flN ?_);refine flK (fun K hK=>?_) flL;go_simp;have hs2:=C6 (a:=x.num) (c:=y.num) (HX.p0.keep hS.1) (HX.q1.keep hS.1);rw [decide_eq_true rfl] at hs2;go_at_call 65;refine hs2.mono ?_;rintro e W2 ⟨rfl,hb⟩;go_wp2_with fail;exact hK.out _ _ ⟨rfl,hb⟩
    · rintro W hS v35 rfl;refine gvN ?_;(repeat first|refine flA ?_|refine flB ?_);refine flN (flN ?_);exact flL
    rintro W hS - v35 rfl;have hS:=hS flY;refine gvN ?_;(repeat first|refine flA ?_|refine flB ?_);refine flN (flN ?_);have HN:=Lib.hid hS.1;clear hS e1 e2;go_wp2_with fail
    case roundEnd=>exact ⟨⟨k+1,by go_num,Yo,HN.out⟩,by simp [intOf];omega⟩
  have HB:=Lib.hid H.out;have d0:¬ (k:Int)<(n:Int):=Yo;go_wp2_with fail;go_ret;exact ⟨rfl,HB.out⟩
end I
def TgV (w:World) (x:Km) (t:Ti):Prop:=x.c=t.col/\x.u=t.up/\x.r=t.rd/\Fv w (.agg #[.bool x.b,.slice x.A x.l x.k,.slice x.B x.m x.d]) (fq t.v)/\Uv w (.slice x.U x.n x.p) t.us
def TgL (w:World) (v:Value) (ts:List Ti):Prop:=∃ xs:List Km,Rv w Km.cs v xs/\Bd (TgV w) xs ts
theorem TgL.shape {w:World} {v:Value} {ts:List Ti} (h:TgL w v ts):∃ A cap,v=.slice A ts.length cap/\ts.length<=maxLen:=by
 obtain ⟨xs,⟨A,cap,e,h1,h2,-⟩,h3⟩:=h;rw [h3.1] at e h1;exact ⟨A,cap,e,Yo⟩
theorem N4 {w:World} {v:Value} {ts:List Ti} {i:Nat} {t:Ti} (h:TgL w v ts) (hi:ts[i]?=some t):∃ g o cap,∃ x:Km,v=.slice (some ⟨g,o,none⟩) ts.length cap/\g<w.heap.size/\TgV w x t/\∀ j u,x.cs[j]?=some u->w.cell? ⟨g,o+(i*7+j),none⟩=some u:=by
 obtain ⟨xs,h1,h2⟩:=h;obtain ⟨x,hx,hp⟩:=h2.left hi;obtain ⟨g,o,cap,e,-,hg,hc⟩:=Rv.at_ (s:=7) Yd Km.len h1 hx;exact ⟨g,o,cap,x,by rw [e,h2.1],hg,hp,hc⟩
namespace I
theorem P2 {w:World} {x y:Km} {c:Int} {u r:Bool} {f:Fx} {us:List Ux} (hx:Fv w (.agg #[.bool x.b,.slice x.A x.l x.k,.slice x.B x.m x.d]) f) (hy:Fv w (.agg #[.bool y.b,.slice y.A y.l y.k,.slice y.B y.m y.d]) f) (ux:Uv w (.slice x.U x.n x.p) us) (uy:Uv w (.slice y.U y.n y.p) us):
 Calls Tryz.prog 18 #[.agg #[.int .i64 c,.bool u,.bool x.b,.slice x.A x.l x.k,.slice x.B x.m x.d,.slice x.U x.n x.p,.bool r],.agg #[.int .i64 c,.bool u,.bool y.b,.slice y.A y.l y.k,.slice y.B y.m y.d,.slice y.U y.n y.p,.bool r]] w fun e w'=>e=.returned (.bool true)/\Yg w w':=by
 have HF:=Yh4 hx hy ux uy;have e0:(c==c)=true:=beq_self_eq_true _;have e1:(u==u)=true:=beq_self_eq_true _;have e2:(r==r)=true:=beq_self_eq_true _;clear hx hy ux uy;go_enter Tryz.func18,Tryz.ntmps18;go_upto_region 1 with (fail)
 obtain ⟨hX,hY,hB⟩:=box2 w 39 39 [.int .i64 c,.bool u,.bool x.b,.slice x.A x.l x.k,.slice x.B x.m x.d,.slice x.U x.n x.p,.bool r] [.int .i64 c,.bool u,.bool y.b,.slice y.A y.l y.k,.slice y.B y.m y.d,.slice y.U y.n y.p,.bool r];have HX:=Yh3 hX hY hB;clear hX hY hB;generalize (w.alloc _).alloc _=W0 at HX ⊢;have a0:=Bl.ld HX.p0 0 rfl;have a1:=Bl.ld HX.p0 1 rfl;have a2:=Bl.ld HX.p0 2 rfl;have a3:=Bl.ld HX.p0 3 rfl;have a4:=Bl.ld HX.p0 4 rfl;have a5:=Bl.ld HX.p0 5 rfl;have a6:=Bl.ld HX.p0 6 rfl;have b0:=Bl.ld HX.p1 0 rfl;have b1:=Bl.ld HX.p1 1 rfl;have b2:=Bl.ld HX.p1 2 rfl;have b3:=Bl.ld HX.p1 3 rfl;have b4:=Bl.ld HX.p1 4 rfl;have b5:=Bl.ld HX.p1 5 rfl;have b6:=Bl.ld HX.p1 6 rfl;have hs:=C6 (a:=.agg #[.bool x.b,.slice x.A x.l x.k,.slice x.B x.m x.d]) (c:=.agg #[.bool y.b,.slice y.A y.l y.k,.slice y.B y.m y.d]) (HF.p0.keep HX.q2) (HF.p1.keep HX.q2);rw [decide_eq_true rfl] at hs;go_wp2_with fail;refine hs.mono ?_;rintro e w2 ⟨rfl,hb⟩;clear a0 b0 a1 b1 a2 b2 a3 b3 a4 b4 a5 b5 a6 b6;clear hs;have H2:=Yh3 (HX.p0.keep hb) (HX.p1.keep hb) (Yb HX.q2 hb);clear hb HX;have a0:=Bl.ld H2.p0 0 rfl;have a1:=Bl.ld H2.p0 1 rfl;have a2:=Bl.ld H2.p0 2 rfl;have a3:=Bl.ld H2.p0 3 rfl;have a4:=Bl.ld H2.p0 4 rfl;have a5:=Bl.ld H2.p0 5 rfl;have a6:=Bl.ld H2.p0 6 rfl;have b0:=Bl.ld H2.p1 0 rfl;have b1:=Bl.ld H2.p1 1 rfl;have b2:=Bl.ld H2.p1 2 rfl;have b3:=Bl.ld H2.p1 3 rfl;have b4:=Bl.ld H2.p1 4 rfl;have b5:=Bl.ld H2.p1 5 rfl;have b6:=Bl.ld H2.p1 6 rfl;go_wp2_with fail;refine (P7 (HF.p2.keep H2.q2) (HF.q3.keep H2.q2)).mono ?_;rintro e w3 ⟨rfl,hb⟩;clear a0 b0 a1 b1 a2 b2 a3 b3 a4 b4 a5 b5 a6 b6;have H3:=Lib.hid (Yb H2.q2 hb);clear hb H2 e0 e1 e2;go_wp2_with fail;go_ret;exact ⟨rfl,H3.out⟩
theorem Qi {w:World} {a c:Value} {ts:List Ti} (ha:TgL w a ts) (hc:TgL w c ts):
 Calls Tryz.prog 31 #[a,c] w fun e w'=>e=.returned (.bool true)/\Yg w w':=by
 obtain ⟨A,cap,rfl,q2⟩:=ha.shape;obtain ⟨B,cap2,rfl,-⟩:=hc.shape;obtain ⟨n,hn⟩:∃ n,ts.length=n:=⟨_,rfl⟩;rw [hn] at ha hc q2 ⊢;have hbig:n<=9223372036854775807:=by unfold maxLen at q2;omega
 have HS:=Yh3 ha hc hn;clear ha hc hn q2;have e0:(((n:Nat):Int)==(n:Int))=true:=beq_self_eq_true _;go_enter Tryz.func31,Tryz.ntmps31;go_upto_region 3 with (fail)
 clear e0;go_wp2_with fail;go_loopw [5] (fun i wr=>∃ (k:Nat),i=.int .i64 (k:Int)/\k<=n/\Hid (Yg w wr)) (fun i _=>n - (intOf i).toNat)
 case atStart=>exact ⟨0,rfl,Un _,Aj⟩
 case round=>
  obtain ⟨k,rfl,hk,H⟩:=hrel;by_cases hlt:k<n
  · skip;obtain ⟨t,ht⟩:∃ t,ts[k]?=some t:=⟨_,List.getElem?_eq_getElem (by rw [HS.q2];exact hlt)⟩;obtain ⟨g1,o1,c5,x,e,hg1,hx,c1⟩:=N4 HS.p0 ht;rw [HS.q2] at e;injection e with e1 e2 e3
    subst e1;clear e2 e3;obtain ⟨g2,o2,c6,y,e,hg2,hy,c2⟩:=N4 HS.p1 ht;rw [HS.q2] at e;injection e with e1 e2 e3
    subst e1;clear e2 e3
    have HC:Hid (∀ W,Yg w W->W.cell? ⟨g1,o1+k*7,none⟩=some (.int .i64 t.col)/\W.cell? ⟨g1,o1+k*7+1,none⟩=some (.bool t.up)/\W.cell? ⟨g1,o1+k*7+2,none⟩=some (.bool x.b)/\W.cell? ⟨g1,o1+k*7+3,none⟩=some (.slice x.A x.l x.k)/\W.cell? ⟨g1,o1+k*7+4,none⟩=some (.slice x.B x.m x.d)/\W.cell? ⟨g1,o1+k*7+5,none⟩=some (.slice x.U x.n x.p)/\W.cell? ⟨g1,o1+k*7+6,none⟩=some (.bool t.rd)/\W.cell? ⟨g2,o2+k*7,none⟩=some (.int .i64 t.col)/\W.cell? ⟨g2,o2+k*7+1,none⟩=some (.bool t.up)/\W.cell? ⟨g2,o2+k*7+2,none⟩=some (.bool y.b)/\W.cell? ⟨g2,o2+k*7+3,none⟩=some (.slice y.A y.l y.k)/\W.cell? ⟨g2,o2+k*7+4,none⟩=some (.slice y.B y.m y.d)/\W.cell? ⟨g2,o2+k*7+5,none⟩=some (.slice y.U y.n y.p)/\W.cell? ⟨g2,o2+k*7+6,none⟩=some (.bool t.rd)):=fun W b=>by
     have k1:∀ j u,w.cell? ⟨g1,j,none⟩=some u->W.cell? ⟨g1,j,none⟩=some u:=fun j u h=>(b.cell (p:=⟨g1,j,none⟩) hg1).trans h;have k2:∀ j u,w.cell? ⟨g2,j,none⟩=some u->W.cell? ⟨g2,j,none⟩=some u:=fun j u h=>(b.cell (p:=⟨g2,j,none⟩) hg2).trans h;have z:=(⟨k1 _ _ (c1 0 _ rfl),k1 _ _ (c1 1 _ rfl),k1 _ _ (c1 2 _ rfl),k1 _ _ (c1 3 _ rfl),k1 _ _ (c1 4 _ rfl),k1 _ _ (c1 5 _ rfl),k1 _ _ (c1 6 _ rfl),k2 _ _ (c2 0 _ rfl),k2 _ _ (c2 1 _ rfl),k2 _ _ (c2 2 _ rfl),k2 _ _ (c2 3 _ rfl),k2 _ _ (c2 4 _ rfl),k2 _ _ (c2 5 _ rfl),k2 _ _ (c2 6 _ rfl)⟩:W.cell? ⟨g1,o1+k*7,none⟩=some (.int .i64 x.c)/\W.cell? ⟨g1,o1+k*7+1,none⟩=some (.bool x.u)/\W.cell? ⟨g1,o1+k*7+2,none⟩=some (.bool x.b)/\W.cell? ⟨g1,o1+k*7+3,none⟩=some (.slice x.A x.l x.k)/\W.cell? ⟨g1,o1+k*7+4,none⟩=some (.slice x.B x.m x.d)/\W.cell? ⟨g1,o1+k*7+5,none⟩=some (.slice x.U x.n x.p)/\W.cell? ⟨g1,o1+k*7+6,none⟩=some (.bool x.r)/\W.cell? ⟨g2,o2+k*7,none⟩=some (.int .i64 y.c)/\W.cell? ⟨g2,o2+k*7+1,none⟩=some (.bool y.u)/\W.cell? ⟨g2,o2+k*7+2,none⟩=some (.bool y.b)/\W.cell? ⟨g2,o2+k*7+3,none⟩=some (.slice y.A y.l y.k)/\W.cell? ⟨g2,o2+k*7+4,none⟩=some (.slice y.B y.m y.d)/\W.cell? ⟨g2,o2+k*7+5,none⟩=some (.slice y.U y.n y.p)/\W.cell? ⟨g2,o2+k*7+6,none⟩=some (.bool y.r));rw [hx.1,hx.2.1,hx.2.2.1,hy.1,hy.2.1,hy.2.2.1] at z;exact z
    have HX:=Yh4 hx.2.2.2.1 hy.2.2.2.1 hx.2.2.2.2 hy.2.2.2.2;have dk:(k:Int)<(n:Int):=Yo;clear ht hg1 hg2 hx hy c1 c2;go_upto_region 6 with (fail)
    refine BA (fun W=>Yg w W/\W.cell? ⟨g1,o1+k*7,none⟩=some (.int .i64 t.col)/\W.cell? ⟨g1,o1+k*7+1,none⟩=some (.bool t.up)/\W.cell? ⟨g1,o1+k*7+2,none⟩=some (.bool x.b)/\W.cell? ⟨g1,o1+k*7+3,none⟩=some (.slice x.A x.l x.k)/\W.cell? ⟨g1,o1+k*7+4,none⟩=some (.slice x.B x.m x.d)/\W.cell? ⟨g1,o1+k*7+5,none⟩=some (.slice x.U x.n x.p)/\W.cell? ⟨g1,o1+k*7+6,none⟩=some (.bool t.rd)/\W.cell? ⟨g2,o2+k*7,none⟩=some (.int .i64 t.col)/\W.cell? ⟨g2,o2+k*7+1,none⟩=some (.bool t.up)/\W.cell? ⟨g2,o2+k*7+2,none⟩=some (.bool y.b)/\W.cell? ⟨g2,o2+k*7+3,none⟩=some (.slice y.A y.l y.k)/\W.cell? ⟨g2,o2+k*7+4,none⟩=some (.slice y.B y.m y.d)/\W.cell? ⟨g2,o2+k*7+5,none⟩=some (.slice y.U y.n y.p)/\W.cell? ⟨g2,o2+k*7+6,none⟩=some (.bool t.rd)) (fun _ _=>True) (fun _ _=>False) 0 [⟨[],[(0,17),(1,18),(2,19),(3,20),(4,21),(5,22),(6,23),(7,24)],[],[(8,25,fun v W=>v=.bool true)]⟩,⟨[(8,25)],[(9,26)],[],[]⟩] [] [] ⟨[(8,25)],[(0,17),(1,18),(2,19),(3,20),(4,21),(5,22),(6,23),(7,24),(9,26)],[],[]⟩ ⟨H.out,HC.out _ H.out⟩ (trivial) (fun _ _ h b=>⟨Yb h.1 b,HC.out _ (Yb h.1 b)⟩) (fun _ _ _ h _=>h) ⟨fun _ _ _ h _=>h,fun _ _ _ _ h=>h.elim,trivial⟩ ⟨?_,?_,trivial⟩ trivial trivial ?_
    · rintro W hS;refine gvN ?_;(repeat refine flA ?_);refine flN (flN ?_);refine flK (fun K hK=>?_) flL;go_simp;go_at_call 18;refine (P2 (x:=x) (y:=y) (HX.p0.keep hS.1) (HX.p1.keep hS.1) (HX.p2.keep hS.1) (HX.q3.keep hS.1)).mono ?_;rintro e W2 ⟨rfl,hb⟩;go_wp2_with fail;exact hK.out _ _ ⟨rfl,hb⟩
    · rintro W hS v8 rfl;refine gvN ?_;(repeat refine flA ?_);refine flN (flN ?_);exact flL
    rintro W hS - v8 rfl;have hS:=hS flY;refine gvN ?_;(repeat refine flA ?_);refine flN (flN ?_);have HN:=Lib.hid hS.1;clear hS;go_wp2_with fail
    case roundEnd=>exact ⟨⟨k+1,by go_num,Yo,HN.out⟩,by simp [intOf];omega⟩
  have HB:=Lib.hid H.out;have d0:¬ (k:Int)<(n:Int):=Yo;go_wp2_with fail;go_ret;exact ⟨rfl,HB.out⟩
end I
end
end Go.Proofs.YtlblnmmfphiobaaGreat
