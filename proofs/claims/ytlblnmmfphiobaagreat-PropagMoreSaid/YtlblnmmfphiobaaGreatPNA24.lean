import Derived.Test.YtlblnmmfphiobaaGreatPNA23
set_option maxRecDepth 100000
set_option maxHeartbeats 8000000
set_option linter.unusedVariables false
set_option linter.unusedSimpArgs false
namespace Go.Proofs.YtlblnmmfphiobaaGreat
section
open Go Go.RowKit Go.Proofs Pl
def BG (l:LPx) (m:Nat):Prop:=0<=l.n/\l.n<=l.cols.length/\(m:Int)=l.n/\l.lo.length=l.cols.length/\l.hi.length=l.cols.length/\l.hasLo.length=l.cols.length/\l.hasHi.length=l.cols.length
theorem NZ {w:World} {v:Value} {l:LPx} (h:LPv w v l) {F:Option Addr} {m c:Nat}:
 Calls Tryz.prog 70 #[v,.slice F m c] w fun e w'=>GK (fun r=>r=true↔BG l m) e/\Yg w w':=by
 obtain ⟨aA,an,ac,bA,bn,bc,cA,cn,cc,dA,dn,dc,eA,en,ec,fA,fn,fc,rfl,hP,hla,hlb,hlc,hld,hle,hlf,hma,hmb,hmc,hmd,hme,hmf⟩:=h.open;have HL:=Yh6 hla hlb hlc hld hle hlf;clear hP hla hlb hlc hld hle hlf hma hmb hmc hmd hme hmf h;change Calls Tryz.prog 70 #[.agg #[.int .i64 l.n,.slice aA an ac,.slice bA bn bc,.slice cA cn cc,.slice dA dn dc,.slice eA en ec,.slice fA fn fc],.slice F m c] w _;go_enter Tryz.func70,Tryz.ntmps70;go_upto_region 1 with (fail)
 obtain ⟨hX,hB⟩:=GO w 26 [.int .i64 l.n,.slice aA an ac,.slice bA bn bc,.slice cA cn cc,.slice dA dn dc,.slice eA en ec,.slice fA fn fc];have HX:=Yh2 hX hB;clear hX hB;generalize w.alloc _=W0 at HX ⊢;have l0:=Bl.ld HX.p0 0 rfl;have l1:=Bl.ld HX.p0 1 rfl;have l2:=Bl.ld HX.p0 2 rfl;have l3:=Bl.ld HX.p0 3 rfl;have l4:=Bl.ld HX.p0 4 rfl;have l5:=Bl.ld HX.p0 5 rfl;have l6:=Bl.ld HX.p0 6 rfl;by_cases k0:0<=l.n
 · have a0:decide (0<=l.n)=true:=decide_eq_true k0;by_cases k1:l.n<=(an:Int)
   · have a1:decide (l.n<=(an:Int))=true:=decide_eq_true k1;by_cases k2:(m:Int)=l.n
     · have a2:((m:Int)==l.n)=true:=beq_iff_eq.2 k2;by_cases k3:(dn:Int)=(an:Int)
       · have a3:((dn:Int)==(an:Int))=true:=beq_iff_eq.2 k3;by_cases k4:(en:Int)=(an:Int)
         · have a4:((en:Int)==(an:Int))=true:=beq_iff_eq.2 k4;by_cases k5:(bn:Int)=(an:Int)
           · have a5:((bn:Int)==(an:Int))=true:=beq_iff_eq.2 k5;by_cases k6:(cn:Int)=(an:Int)
             · have a6:((cn:Int)==(an:Int))=true:=beq_iff_eq.2 k6;have HE:Hid (BG l m):=(by obtain ⟨e1,e2,e3,e4,e5,e6⟩:=HL.out;rw [BG,e1,e2,e3,e4,e5];exact ⟨k0,k1,k2,Yo,Yo,Yo,Yo⟩);clear k0 k1 k2 k3 k4 k5 k6;go_wp2_with fail;go_ret;exact ⟨⟨true,rfl,⟨fun _=>HE.out,fun _=>rfl⟩⟩,HX.q1⟩
             have a6:((cn:Int)==(an:Int))=false:=beq_eq_false_iff_ne.2 k6;have HE:Hid (¬BG l m):=(fun h=>absurd (show (cn:Int)=(an:Int) by have:=HL.out;have:=h;unfold BG at this;omega) k6);clear k0 k1 k2 k3 k4 k5 k6;go_wp2_with fail;go_ret;exact ⟨⟨false,rfl,⟨(by simp),fun h=>absurd h HE.out⟩⟩,HX.q1⟩
           have a5:((bn:Int)==(an:Int))=false:=beq_eq_false_iff_ne.2 k5;have HE:Hid (¬BG l m):=(fun h=>absurd (show (bn:Int)=(an:Int) by have:=HL.out;have:=h;unfold BG at this;omega) k5);clear k0 k1 k2 k3 k4 k5;go_wp2_with fail;go_ret;exact ⟨⟨false,rfl,⟨(by simp),fun h=>absurd h HE.out⟩⟩,HX.q1⟩
         have a4:((en:Int)==(an:Int))=false:=beq_eq_false_iff_ne.2 k4;have HE:Hid (¬BG l m):=(fun h=>absurd (show (en:Int)=(an:Int) by have:=HL.out;have:=h;unfold BG at this;omega) k4);clear k0 k1 k2 k3 k4;go_wp2_with fail;go_ret;exact ⟨⟨false,rfl,⟨(by simp),fun h=>absurd h HE.out⟩⟩,HX.q1⟩
       have a3:((dn:Int)==(an:Int))=false:=beq_eq_false_iff_ne.2 k3;have HE:Hid (¬BG l m):=(fun h=>absurd (show (dn:Int)=(an:Int) by have:=HL.out;have:=h;unfold BG at this;omega) k3);clear k0 k1 k2 k3;go_wp2_with fail;go_ret;exact ⟨⟨false,rfl,⟨(by simp),fun h=>absurd h HE.out⟩⟩,HX.q1⟩
     have a2:((m:Int)==l.n)=false:=beq_eq_false_iff_ne.2 k2;have HE:Hid (¬BG l m):=(fun h=>absurd (show (m:Int)=l.n by have:=HL.out;have:=h;unfold BG at this;omega) k2);clear k0 k1 k2;go_wp2_with fail;go_ret;exact ⟨⟨false,rfl,⟨(by simp),fun h=>absurd h HE.out⟩⟩,HX.q1⟩
   have a1:decide (l.n<=(an:Int))=false:=decide_eq_false k1;have HE:Hid (¬BG l m):=(fun h=>absurd (show l.n<=(an:Int) by have:=HL.out;have:=h;unfold BG at this;omega) k1);clear k0 k1;go_wp2_with fail;go_ret;exact ⟨⟨false,rfl,⟨(by simp),fun h=>absurd h HE.out⟩⟩,HX.q1⟩
 have a0:decide (0<=l.n)=false:=decide_eq_false k0;have HE:Hid (¬BG l m):=(fun h=>absurd (show 0<=l.n by have:=HL.out;have:=h;unfold BG at this;omega) k0);clear k0;go_wp2_with fail;go_ret;exact ⟨⟨false,rfl,⟨(by simp),fun h=>absurd h HE.out⟩⟩,HX.q1⟩
theorem KI {w:World} {v:Value} {l:LPx} {k L:Nat} {f g:Fx} (h:LPv w v l) (hf:l.lo[k]?=some f) (hg:l.hi[k]?=some g) (hbl:l.hasLo[k]?=some true) (hbh:l.hasHi[k]?=some true) (h0:0<L) (h1:L<=17179869184) (h6:f.xs.length<=L) (h7:f.ds.length<=L) (h8:g.xs.length<=L) (h9:g.ds.length<=L):
 Calls Tryz.prog 174 #[v,.int .i64 (k:Int)] w fun e w'=>e=.returned (.bool (decide (0<DJ f.q g.q)))/\Yg w w':=by
 obtain ⟨aA,an,ac,bA,bn,bc,cA,cn,cc,dA,dn,dc,eA,en,ec,fA,fn,fc,rfl,hP,hla,hlb,hlc,hld,hle,hlf,hma,hmb,hmc,hmd,hme,hmf⟩:=h.open;have HS:=Lib.hid hP;clear hP h hma hmb hmc hmd hme hmf;obtain ⟨gd,od,qd,xd,e,hgd,hvd,zd0,zd1,zd2⟩:=HS.p3.at_ hf;rw [hld] at e;injection e with e1 e2 e3
 subst e1;clear e2 e3 qd;obtain ⟨ge,oe,qe,xe,e,hge,hve,ze0,ze1,ze2⟩:=HS.p4.at_ hg;rw [hle] at e;injection e with e1 e2 e3
 subst e1;clear e2 e3 qe;obtain ⟨gb,ob,qb,e,hgb,zb0⟩:=HS.p1.at_ hbl;rw [hlb] at e;injection e with e1 e2 e3
 subst e1;clear e2 e3 qb;obtain ⟨gc,oc,qc,e,hgc,zc0⟩:=HS.p2.at_ hbh;rw [hlc] at e;injection e with e1 e2 e3
 subst e1;clear e2 e3 qc;have kd:k<dn:=by rw [<- hld];exact (List.getElem?_eq_some_iff.1 hf).1
 have ixd:(k:Int)<(dn:Int):=Yo;have ke:k<en:=by rw [<- hle];exact (List.getElem?_eq_some_iff.1 hg).1
 have ixe:(k:Int)<(en:Int):=Yo;have kb:k<bn:=by rw [<- hlb];exact (List.getElem?_eq_some_iff.1 hbl).1
 have ixb:(k:Int)<(bn:Int):=Yo;have kc:k<cn:=by rw [<- hlc];exact (List.getElem?_eq_some_iff.1 hbh).1
 have ixc:(k:Int)<(cn:Int):=Yo;have HC:Hid (∀ W,Yg w W->W.cell? ⟨gd,od+k*3,none⟩=some (.bool xd.b)/\W.cell? ⟨gd,od+k*3+1,none⟩=some (.slice xd.A xd.l xd.k)/\W.cell? ⟨gd,od+k*3+2,none⟩=some (.slice xd.B xd.m xd.d)/\W.cell? ⟨ge,oe+k*3,none⟩=some (.bool xe.b)/\W.cell? ⟨ge,oe+k*3+1,none⟩=some (.slice xe.A xe.l xe.k)/\W.cell? ⟨ge,oe+k*3+2,none⟩=some (.slice xe.B xe.m xe.d)/\W.cell? ⟨gb,ob+k,none⟩=some (.bool true)/\W.cell? ⟨gc,oc+k,none⟩=some (.bool true)):=fun W b=>⟨(b.cell (p:=⟨gd,_,none⟩) hgd).trans zd0,(b.cell (p:=⟨gd,_,none⟩) hgd).trans zd1,(b.cell (p:=⟨gd,_,none⟩) hgd).trans zd2,(b.cell (p:=⟨ge,_,none⟩) hge).trans ze0,(b.cell (p:=⟨ge,_,none⟩) hge).trans ze1,(b.cell (p:=⟨ge,_,none⟩) hge).trans ze2,(b.cell (p:=⟨gb,_,none⟩) hgb).trans zb0,(b.cell (p:=⟨gc,_,none⟩) hgc).trans zc0⟩;have HV:=Yh2 (hvd.qv h6 h7) (hve.qv h8 h9);clear zd0 zd1 zd2 ze0 ze1 ze2 zb0 zc0 hvd hve hla hlb hlc hld hle hlf hf hg hbl hbh hgb hgc hgd hge h6 h7 h8 h9;change Calls Tryz.prog 174 #[.agg #[.int .i64 l.n,.slice aA an ac,.slice (some ⟨gb,ob,none⟩) bn bc,.slice (some ⟨gc,oc,none⟩) cn cc,.slice (some ⟨gd,od,none⟩) dn dc,.slice (some ⟨ge,oe,none⟩) en ec,.slice fA fn fc],.int .i64 (k:Int)] w _;go_enter Tryz.func174,Tryz.ntmps174;go_upto_region 1 with (fail)
 obtain ⟨hX,hB⟩:=GO w 26 [.int .i64 l.n,.slice aA an ac,.slice (some ⟨gb,ob,none⟩) bn bc,.slice (some ⟨gc,oc,none⟩) cn cc,.slice (some ⟨gd,od,none⟩) dn dc,.slice (some ⟨ge,oe,none⟩) en ec,.slice fA fn fc];have HX:=Yh2 hX hB;clear hX hB;generalize w.alloc _=W0 at HX ⊢;go_upto_region 1 with (fail)
 refine BA (fun W=>Yg W0 W/\W.cell? ⟨w.heap.size,2,none⟩=some (.slice (some ⟨gb,ob,none⟩) bn bc)/\W.cell? ⟨w.heap.size,3,none⟩=some (.slice (some ⟨gc,oc,none⟩) cn cc)/\W.cell? ⟨w.heap.size,4,none⟩=some (.slice (some ⟨gd,od,none⟩) dn dc)/\W.cell? ⟨w.heap.size,5,none⟩=some (.slice (some ⟨ge,oe,none⟩) en ec)/\W.cell? ⟨gd,od+k*3,none⟩=some (.bool xd.b)/\W.cell? ⟨gd,od+k*3+1,none⟩=some (.slice xd.A xd.l xd.k)/\W.cell? ⟨gd,od+k*3+2,none⟩=some (.slice xd.B xd.m xd.d)/\W.cell? ⟨ge,oe+k*3,none⟩=some (.bool xe.b)/\W.cell? ⟨ge,oe+k*3+1,none⟩=some (.slice xe.A xe.l xe.k)/\W.cell? ⟨ge,oe+k*3+2,none⟩=some (.slice xe.B xe.m xe.d)/\W.cell? ⟨gb,ob+k,none⟩=some (.bool true)/\W.cell? ⟨gc,oc+k,none⟩=some (.bool true)) (fun _ _=>True) (fun _ _=>False) 0 [⟨[],[(0,5),(1,6),(2,7),(3,8),(4,9),(5,10),(6,11),(7,12),(8,13),(9,14),(10,15),(11,16),(12,17),(13,18),(14,19),(15,20),(16,21),(17,22),(18,23),(19,24),(20,25),(21,26),(22,27)],[],[(23,28,fun v W=>v=.int .i64 (DJ f.q g.q))]⟩,⟨[(23,28)],[(0,5),(1,6),(2,7),(3,8),(4,9),(5,10),(6,11),(7,12),(8,13),(9,14),(10,15),(11,16),(12,17),(24,29),(25,30),(26,4)],[],[]⟩] [] [] ⟨[(23,28)],[(0,5),(1,6),(2,7),(3,8),(4,9),(5,10),(6,11),(7,12),(8,13),(9,14),(10,15),(11,16),(12,17),(13,18),(14,19),(15,20),(16,21),(17,22),(18,23),(19,24),(20,25),(21,26),(22,27),(24,29),(25,30),(26,4)],[],[]⟩ ⟨Aj,Bl.ld (HX.p0.keep Aj) 2 rfl,Bl.ld (HX.p0.keep Aj) 3 rfl,Bl.ld (HX.p0.keep Aj) 4 rfl,Bl.ld (HX.p0.keep Aj) 5 rfl,HC.out _ (Yb HX.q1 Aj)⟩ (trivial) (fun _ _ h b=>⟨(Yb h.1 b),Bl.ld (HX.p0.keep (Yb h.1 b)) 2 rfl,Bl.ld (HX.p0.keep (Yb h.1 b)) 3 rfl,Bl.ld (HX.p0.keep (Yb h.1 b)) 4 rfl,Bl.ld (HX.p0.keep (Yb h.1 b)) 5 rfl,HC.out _ (Yb HX.q1 (Yb h.1 b))⟩) (fun _ _ _ h _=>h) ⟨fun _ _ _ h _=>h,fun _ _ _ _ h=>h.elim,trivial⟩ ⟨?_,?_,trivial⟩ trivial trivial ?_
 · rintro W hS;refine gvN ?_;(repeat first|refine flA ?_|refine flB ?_);refine flN (flN ?_);refine flK (fun K hK=>?_) flL;go_simp;go_at_call 170;refine (Ll (HV.p0.keep (Yb HX.q1 hS.1)) (HV.q1.keep (Yb HX.q1 hS.1)) h0 h0 h1 h1).mono ?_;rintro e W2 ⟨rfl,hb⟩;go_wp2_with fail;exact hK.out _ _ ⟨rfl,hb⟩
 · rintro W hS v23 rfl;refine gvN ?_;(repeat first|refine flA ?_|refine flB ?_);refine flN (flN ?_);exact flL
 rintro W hS - v23 rfl;have hS:=hS flY;refine gvN ?_;(repeat first|refine flA ?_|refine flB ?_);refine flN (flN ?_);go_wp2_with fail;go_ret;exact ⟨rfl,Yb HX.q1 hS.1⟩
theorem K3 {w:World} {v:Value} {l:LPx} {k L:Nat} {f g:Fx} (h:LPv w v l) (hf:l.lo[k]?=some f) (hg:l.hi[k]?=some g) (hbl:l.hasLo[k]?=some true) (hbh:l.hasHi[k]?=some false) (h0:0<L) (h1:L<=17179869184) (h6:f.xs.length<=L) (h7:f.ds.length<=L) (h8:g.xs.length<=L) (h9:g.ds.length<=L):
 Calls Tryz.prog 174 #[v,.int .i64 (k:Int)] w fun e w'=>e=.returned (.bool false)/\Yg w w':=by
 obtain ⟨aA,an,ac,bA,bn,bc,cA,cn,cc,dA,dn,dc,eA,en,ec,fA,fn,fc,rfl,hP,hla,hlb,hlc,hld,hle,hlf,hma,hmb,hmc,hmd,hme,hmf⟩:=h.open;have HS:=Lib.hid hP;clear hP h hma hmb hmc hmd hme hmf;obtain ⟨gd,od,qd,xd,e,hgd,hvd,zd0,zd1,zd2⟩:=HS.p3.at_ hf;rw [hld] at e;injection e with e1 e2 e3
 subst e1;clear e2 e3 qd;obtain ⟨ge,oe,qe,xe,e,hge,hve,ze0,ze1,ze2⟩:=HS.p4.at_ hg;rw [hle] at e;injection e with e1 e2 e3
 subst e1;clear e2 e3 qe;obtain ⟨gb,ob,qb,e,hgb,zb0⟩:=HS.p1.at_ hbl;rw [hlb] at e;injection e with e1 e2 e3
 subst e1;clear e2 e3 qb;obtain ⟨gc,oc,qc,e,hgc,zc0⟩:=HS.p2.at_ hbh;rw [hlc] at e;injection e with e1 e2 e3
 subst e1;clear e2 e3 qc;have kd:k<dn:=by rw [<- hld];exact (List.getElem?_eq_some_iff.1 hf).1
 have ixd:(k:Int)<(dn:Int):=Yo;have ke:k<en:=by rw [<- hle];exact (List.getElem?_eq_some_iff.1 hg).1
 have ixe:(k:Int)<(en:Int):=Yo;have kb:k<bn:=by rw [<- hlb];exact (List.getElem?_eq_some_iff.1 hbl).1
 have ixb:(k:Int)<(bn:Int):=Yo;have kc:k<cn:=by rw [<- hlc];exact (List.getElem?_eq_some_iff.1 hbh).1
 have ixc:(k:Int)<(cn:Int):=Yo;have HC:Hid (∀ W,Yg w W->W.cell? ⟨gd,od+k*3,none⟩=some (.bool xd.b)/\W.cell? ⟨gd,od+k*3+1,none⟩=some (.slice xd.A xd.l xd.k)/\W.cell? ⟨gd,od+k*3+2,none⟩=some (.slice xd.B xd.m xd.d)/\W.cell? ⟨ge,oe+k*3,none⟩=some (.bool xe.b)/\W.cell? ⟨ge,oe+k*3+1,none⟩=some (.slice xe.A xe.l xe.k)/\W.cell? ⟨ge,oe+k*3+2,none⟩=some (.slice xe.B xe.m xe.d)/\W.cell? ⟨gb,ob+k,none⟩=some (.bool true)/\W.cell? ⟨gc,oc+k,none⟩=some (.bool false)):=fun W b=>⟨(b.cell (p:=⟨gd,_,none⟩) hgd).trans zd0,(b.cell (p:=⟨gd,_,none⟩) hgd).trans zd1,(b.cell (p:=⟨gd,_,none⟩) hgd).trans zd2,(b.cell (p:=⟨ge,_,none⟩) hge).trans ze0,(b.cell (p:=⟨ge,_,none⟩) hge).trans ze1,(b.cell (p:=⟨ge,_,none⟩) hge).trans ze2,(b.cell (p:=⟨gb,_,none⟩) hgb).trans zb0,(b.cell (p:=⟨gc,_,none⟩) hgc).trans zc0⟩;have HV:=Yh2 (hvd.qv h6 h7) (hve.qv h8 h9);clear zd0 zd1 zd2 ze0 ze1 ze2 zb0 zc0 hvd hve hla hlb hlc hld hle hlf hf hg hbl hbh hgb hgc hgd hge h6 h7 h8 h9;change Calls Tryz.prog 174 #[.agg #[.int .i64 l.n,.slice aA an ac,.slice (some ⟨gb,ob,none⟩) bn bc,.slice (some ⟨gc,oc,none⟩) cn cc,.slice (some ⟨gd,od,none⟩) dn dc,.slice (some ⟨ge,oe,none⟩) en ec,.slice fA fn fc],.int .i64 (k:Int)] w _;go_enter Tryz.func174,Tryz.ntmps174;go_upto_region 1 with (fail)
 obtain ⟨hX,hB⟩:=GO w 26 [.int .i64 l.n,.slice aA an ac,.slice (some ⟨gb,ob,none⟩) bn bc,.slice (some ⟨gc,oc,none⟩) cn cc,.slice (some ⟨gd,od,none⟩) dn dc,.slice (some ⟨ge,oe,none⟩) en ec,.slice fA fn fc];have HX:=Yh2 hX hB;clear hX hB;generalize w.alloc _=W0 at HX ⊢;go_upto_region 1 with (fail)
 refine BA (fun W=>Yg W0 W/\W.cell? ⟨w.heap.size,2,none⟩=some (.slice (some ⟨gb,ob,none⟩) bn bc)/\W.cell? ⟨w.heap.size,3,none⟩=some (.slice (some ⟨gc,oc,none⟩) cn cc)/\W.cell? ⟨w.heap.size,4,none⟩=some (.slice (some ⟨gd,od,none⟩) dn dc)/\W.cell? ⟨w.heap.size,5,none⟩=some (.slice (some ⟨ge,oe,none⟩) en ec)/\W.cell? ⟨gd,od+k*3,none⟩=some (.bool xd.b)/\W.cell? ⟨gd,od+k*3+1,none⟩=some (.slice xd.A xd.l xd.k)/\W.cell? ⟨gd,od+k*3+2,none⟩=some (.slice xd.B xd.m xd.d)/\W.cell? ⟨ge,oe+k*3,none⟩=some (.bool xe.b)/\W.cell? ⟨ge,oe+k*3+1,none⟩=some (.slice xe.A xe.l xe.k)/\W.cell? ⟨ge,oe+k*3+2,none⟩=some (.slice xe.B xe.m xe.d)/\W.cell? ⟨gb,ob+k,none⟩=some (.bool true)/\W.cell? ⟨gc,oc+k,none⟩=some (.bool false)) (fun _ _=>True) (fun _ _=>False) 0 [⟨[],[(0,5),(1,6),(2,7),(3,8),(4,9),(5,10),(6,11),(7,12),(8,13),(9,14),(10,15),(11,16),(12,17),(13,18),(14,19),(15,20),(16,21),(17,22),(18,23),(19,24),(20,25),(21,26),(22,27)],[],[(23,28,fun v W=>v=undef)]⟩,⟨[(23,28)],[(0,5),(1,6),(2,7),(3,8),(4,9),(5,10),(6,11),(7,12),(8,13),(9,14),(10,15),(11,16),(12,17),(24,29),(25,30),(26,4)],[],[]⟩] [] [] ⟨[(23,28)],[(0,5),(1,6),(2,7),(3,8),(4,9),(5,10),(6,11),(7,12),(8,13),(9,14),(10,15),(11,16),(12,17),(13,18),(14,19),(15,20),(16,21),(17,22),(18,23),(19,24),(20,25),(21,26),(22,27),(24,29),(25,30),(26,4)],[],[]⟩ ⟨Aj,Bl.ld (HX.p0.keep Aj) 2 rfl,Bl.ld (HX.p0.keep Aj) 3 rfl,Bl.ld (HX.p0.keep Aj) 4 rfl,Bl.ld (HX.p0.keep Aj) 5 rfl,HC.out _ (Yb HX.q1 Aj)⟩ (trivial) (fun _ _ h b=>⟨(Yb h.1 b),Bl.ld (HX.p0.keep (Yb h.1 b)) 2 rfl,Bl.ld (HX.p0.keep (Yb h.1 b)) 3 rfl,Bl.ld (HX.p0.keep (Yb h.1 b)) 4 rfl,Bl.ld (HX.p0.keep (Yb h.1 b)) 5 rfl,HC.out _ (Yb HX.q1 (Yb h.1 b))⟩) (fun _ _ _ h _=>h) ⟨fun _ _ _ h _=>h,fun _ _ _ _ h=>h.elim,trivial⟩ ⟨?_,?_,trivial⟩ trivial trivial ?_
 · rintro W hS;refine gvN ?_;(repeat first|refine flA ?_|refine flB ?_);refine flN (flN ?_);refine flK (fun K hK=>?_) flL;go_simp;exact hK.out _ _ ⟨rfl,Aj⟩
 · rintro W hS v23 rfl;refine gvN ?_;(repeat first|refine flA ?_|refine flB ?_);refine flN (flN ?_);exact flL
 rintro W hS - v23 rfl;have hS:=hS flY;refine gvN ?_;(repeat first|refine flA ?_|refine flB ?_);refine flN (flN ?_);go_wp2_with fail;go_ret;exact ⟨rfl,Yb HX.q1 hS.1⟩
theorem Kt {w:World} {v:Value} {l:LPx} {k L:Nat} {f g:Fx} (h:LPv w v l) (hf:l.lo[k]?=some f) (hg:l.hi[k]?=some g) (hbl:l.hasLo[k]?=some false) (hbh:l.hasHi[k]?=some true) (h0:0<L) (h1:L<=17179869184) (h6:f.xs.length<=L) (h7:f.ds.length<=L) (h8:g.xs.length<=L) (h9:g.ds.length<=L):
 Calls Tryz.prog 174 #[v,.int .i64 (k:Int)] w fun e w'=>e=.returned (.bool false)/\Yg w w':=by
 obtain ⟨aA,an,ac,bA,bn,bc,cA,cn,cc,dA,dn,dc,eA,en,ec,fA,fn,fc,rfl,hP,hla,hlb,hlc,hld,hle,hlf,hma,hmb,hmc,hmd,hme,hmf⟩:=h.open;have HS:=Lib.hid hP;clear hP h hma hmb hmc hmd hme hmf;obtain ⟨gd,od,qd,xd,e,hgd,hvd,zd0,zd1,zd2⟩:=HS.p3.at_ hf;rw [hld] at e;injection e with e1 e2 e3
 subst e1;clear e2 e3 qd;obtain ⟨ge,oe,qe,xe,e,hge,hve,ze0,ze1,ze2⟩:=HS.p4.at_ hg;rw [hle] at e;injection e with e1 e2 e3
 subst e1;clear e2 e3 qe;obtain ⟨gb,ob,qb,e,hgb,zb0⟩:=HS.p1.at_ hbl;rw [hlb] at e;injection e with e1 e2 e3
 subst e1;clear e2 e3 qb;obtain ⟨gc,oc,qc,e,hgc,zc0⟩:=HS.p2.at_ hbh;rw [hlc] at e;injection e with e1 e2 e3
 subst e1;clear e2 e3 qc;have kd:k<dn:=by rw [<- hld];exact (List.getElem?_eq_some_iff.1 hf).1
 have ixd:(k:Int)<(dn:Int):=Yo;have ke:k<en:=by rw [<- hle];exact (List.getElem?_eq_some_iff.1 hg).1
 have ixe:(k:Int)<(en:Int):=Yo;have kb:k<bn:=by rw [<- hlb];exact (List.getElem?_eq_some_iff.1 hbl).1
 have ixb:(k:Int)<(bn:Int):=Yo;have kc:k<cn:=by rw [<- hlc];exact (List.getElem?_eq_some_iff.1 hbh).1
 have ixc:(k:Int)<(cn:Int):=Yo;have HC:Hid (∀ W,Yg w W->W.cell? ⟨gd,od+k*3,none⟩=some (.bool xd.b)/\W.cell? ⟨gd,od+k*3+1,none⟩=some (.slice xd.A xd.l xd.k)/\W.cell? ⟨gd,od+k*3+2,none⟩=some (.slice xd.B xd.m xd.d)/\W.cell? ⟨ge,oe+k*3,none⟩=some (.bool xe.b)/\W.cell? ⟨ge,oe+k*3+1,none⟩=some (.slice xe.A xe.l xe.k)/\W.cell? ⟨ge,oe+k*3+2,none⟩=some (.slice xe.B xe.m xe.d)/\W.cell? ⟨gb,ob+k,none⟩=some (.bool false)/\W.cell? ⟨gc,oc+k,none⟩=some (.bool true)):=fun W b=>⟨(b.cell (p:=⟨gd,_,none⟩) hgd).trans zd0,(b.cell (p:=⟨gd,_,none⟩) hgd).trans zd1,(b.cell (p:=⟨gd,_,none⟩) hgd).trans zd2,(b.cell (p:=⟨ge,_,none⟩) hge).trans ze0,(b.cell (p:=⟨ge,_,none⟩) hge).trans ze1,(b.cell (p:=⟨ge,_,none⟩) hge).trans ze2,(b.cell (p:=⟨gb,_,none⟩) hgb).trans zb0,(b.cell (p:=⟨gc,_,none⟩) hgc).trans zc0⟩;have HV:=Yh2 (hvd.qv h6 h7) (hve.qv h8 h9);clear zd0 zd1 zd2 ze0 ze1 ze2 zb0 zc0 hvd hve hla hlb hlc hld hle hlf hf hg hbl hbh hgb hgc hgd hge h6 h7 h8 h9;change Calls Tryz.prog 174 #[.agg #[.int .i64 l.n,.slice aA an ac,.slice (some ⟨gb,ob,none⟩) bn bc,.slice (some ⟨gc,oc,none⟩) cn cc,.slice (some ⟨gd,od,none⟩) dn dc,.slice (some ⟨ge,oe,none⟩) en ec,.slice fA fn fc],.int .i64 (k:Int)] w _;go_enter Tryz.func174,Tryz.ntmps174;go_upto_region 1 with (fail)
 obtain ⟨hX,hB⟩:=GO w 26 [.int .i64 l.n,.slice aA an ac,.slice (some ⟨gb,ob,none⟩) bn bc,.slice (some ⟨gc,oc,none⟩) cn cc,.slice (some ⟨gd,od,none⟩) dn dc,.slice (some ⟨ge,oe,none⟩) en ec,.slice fA fn fc];have HX:=Yh2 hX hB;clear hX hB;generalize w.alloc _=W0 at HX ⊢;go_upto_region 1 with (fail)
 refine BA (fun W=>Yg W0 W/\W.cell? ⟨w.heap.size,2,none⟩=some (.slice (some ⟨gb,ob,none⟩) bn bc)/\W.cell? ⟨w.heap.size,3,none⟩=some (.slice (some ⟨gc,oc,none⟩) cn cc)/\W.cell? ⟨w.heap.size,4,none⟩=some (.slice (some ⟨gd,od,none⟩) dn dc)/\W.cell? ⟨w.heap.size,5,none⟩=some (.slice (some ⟨ge,oe,none⟩) en ec)/\W.cell? ⟨gd,od+k*3,none⟩=some (.bool xd.b)/\W.cell? ⟨gd,od+k*3+1,none⟩=some (.slice xd.A xd.l xd.k)/\W.cell? ⟨gd,od+k*3+2,none⟩=some (.slice xd.B xd.m xd.d)/\W.cell? ⟨ge,oe+k*3,none⟩=some (.bool xe.b)/\W.cell? ⟨ge,oe+k*3+1,none⟩=some (.slice xe.A xe.l xe.k)/\W.cell? ⟨ge,oe+k*3+2,none⟩=some (.slice xe.B xe.m xe.d)/\W.cell? ⟨gb,ob+k,none⟩=some (.bool false)/\W.cell? ⟨gc,oc+k,none⟩=some (.bool true)) (fun _ _=>True) (fun _ _=>False) 0 [⟨[],[(0,5),(1,6),(2,7),(3,8),(4,9),(5,10),(6,11),(7,12),(8,13),(9,14),(10,15),(11,16),(12,17),(13,18),(14,19),(15,20),(16,21),(17,22),(18,23),(19,24),(20,25),(21,26),(22,27)],[],[(23,28,fun v W=>v=undef)]⟩,⟨[(23,28)],[(0,5),(1,6),(2,7),(3,8),(4,9),(5,10),(6,11),(7,12),(8,13),(9,14),(10,15),(11,16),(12,17),(24,29),(25,30),(26,4)],[],[]⟩] [] [] ⟨[(23,28)],[(0,5),(1,6),(2,7),(3,8),(4,9),(5,10),(6,11),(7,12),(8,13),(9,14),(10,15),(11,16),(12,17),(13,18),(14,19),(15,20),(16,21),(17,22),(18,23),(19,24),(20,25),(21,26),(22,27),(24,29),(25,30),(26,4)],[],[]⟩ ⟨Aj,Bl.ld (HX.p0.keep Aj) 2 rfl,Bl.ld (HX.p0.keep Aj) 3 rfl,Bl.ld (HX.p0.keep Aj) 4 rfl,Bl.ld (HX.p0.keep Aj) 5 rfl,HC.out _ (Yb HX.q1 Aj)⟩ (trivial) (fun _ _ h b=>⟨(Yb h.1 b),Bl.ld (HX.p0.keep (Yb h.1 b)) 2 rfl,Bl.ld (HX.p0.keep (Yb h.1 b)) 3 rfl,Bl.ld (HX.p0.keep (Yb h.1 b)) 4 rfl,Bl.ld (HX.p0.keep (Yb h.1 b)) 5 rfl,HC.out _ (Yb HX.q1 (Yb h.1 b))⟩) (fun _ _ _ h _=>h) ⟨fun _ _ _ h _=>h,fun _ _ _ _ h=>h.elim,trivial⟩ ⟨?_,?_,trivial⟩ trivial trivial ?_
 · rintro W hS;refine gvN ?_;(repeat first|refine flA ?_|refine flB ?_);refine flN (flN ?_);refine flK (fun K hK=>?_) flL;go_simp;exact hK.out _ _ ⟨rfl,Aj⟩
 · rintro W hS v23 rfl;refine gvN ?_;(repeat first|refine flA ?_|refine flB ?_);refine flN (flN ?_);exact flL
 rintro W hS - v23 rfl;have hS:=hS flY;refine gvN ?_;(repeat first|refine flA ?_|refine flB ?_);refine flN (flN ?_);go_wp2_with fail;go_ret;exact ⟨rfl,Yb HX.q1 hS.1⟩
theorem J2 {w:World} {v:Value} {l:LPx} {k L:Nat} {f g:Fx} (h:LPv w v l) (hf:l.lo[k]?=some f) (hg:l.hi[k]?=some g) (hbl:l.hasLo[k]?=some false) (hbh:l.hasHi[k]?=some false) (h0:0<L) (h1:L<=17179869184) (h6:f.xs.length<=L) (h7:f.ds.length<=L) (h8:g.xs.length<=L) (h9:g.ds.length<=L):
 Calls Tryz.prog 174 #[v,.int .i64 (k:Int)] w fun e w'=>e=.returned (.bool false)/\Yg w w':=by
 obtain ⟨aA,an,ac,bA,bn,bc,cA,cn,cc,dA,dn,dc,eA,en,ec,fA,fn,fc,rfl,hP,hla,hlb,hlc,hld,hle,hlf,hma,hmb,hmc,hmd,hme,hmf⟩:=h.open;have HS:=Lib.hid hP;clear hP h hma hmb hmc hmd hme hmf;obtain ⟨gd,od,qd,xd,e,hgd,hvd,zd0,zd1,zd2⟩:=HS.p3.at_ hf;rw [hld] at e;injection e with e1 e2 e3
 subst e1;clear e2 e3 qd;obtain ⟨ge,oe,qe,xe,e,hge,hve,ze0,ze1,ze2⟩:=HS.p4.at_ hg;rw [hle] at e;injection e with e1 e2 e3
 subst e1;clear e2 e3 qe;obtain ⟨gb,ob,qb,e,hgb,zb0⟩:=HS.p1.at_ hbl;rw [hlb] at e;injection e with e1 e2 e3
 subst e1;clear e2 e3 qb;obtain ⟨gc,oc,qc,e,hgc,zc0⟩:=HS.p2.at_ hbh;rw [hlc] at e;injection e with e1 e2 e3
 subst e1;clear e2 e3 qc;have kd:k<dn:=by rw [<- hld];exact (List.getElem?_eq_some_iff.1 hf).1
 have ixd:(k:Int)<(dn:Int):=Yo;have ke:k<en:=by rw [<- hle];exact (List.getElem?_eq_some_iff.1 hg).1
 have ixe:(k:Int)<(en:Int):=Yo;have kb:k<bn:=by rw [<- hlb];exact (List.getElem?_eq_some_iff.1 hbl).1
 have ixb:(k:Int)<(bn:Int):=Yo;have kc:k<cn:=by rw [<- hlc];exact (List.getElem?_eq_some_iff.1 hbh).1
 have ixc:(k:Int)<(cn:Int):=Yo;have HC:Hid (∀ W,Yg w W->W.cell? ⟨gd,od+k*3,none⟩=some (.bool xd.b)/\W.cell? ⟨gd,od+k*3+1,none⟩=some (.slice xd.A xd.l xd.k)/\W.cell? ⟨gd,od+k*3+2,none⟩=some (.slice xd.B xd.m xd.d)/\W.cell? ⟨ge,oe+k*3,none⟩=some (.bool xe.b)/\W.cell? ⟨ge,oe+k*3+1,none⟩=some (.slice xe.A xe.l xe.k)/\W.cell? ⟨ge,oe+k*3+2,none⟩=some (.slice xe.B xe.m xe.d)/\W.cell? ⟨gb,ob+k,none⟩=some (.bool false)/\W.cell? ⟨gc,oc+k,none⟩=some (.bool false)):=fun W b=>⟨(b.cell (p:=⟨gd,_,none⟩) hgd).trans zd0,(b.cell (p:=⟨gd,_,none⟩) hgd).trans zd1,(b.cell (p:=⟨gd,_,none⟩) hgd).trans zd2,(b.cell (p:=⟨ge,_,none⟩) hge).trans ze0,(b.cell (p:=⟨ge,_,none⟩) hge).trans ze1,(b.cell (p:=⟨ge,_,none⟩) hge).trans ze2,(b.cell (p:=⟨gb,_,none⟩) hgb).trans zb0,(b.cell (p:=⟨gc,_,none⟩) hgc).trans zc0⟩;have HV:=Yh2 (hvd.qv h6 h7) (hve.qv h8 h9);clear zd0 zd1 zd2 ze0 ze1 ze2 zb0 zc0 hvd hve hla hlb hlc hld hle hlf hf hg hbl hbh hgb hgc hgd hge h6 h7 h8 h9;change Calls Tryz.prog 174 #[.agg #[.int .i64 l.n,.slice aA an ac,.slice (some ⟨gb,ob,none⟩) bn bc,.slice (some ⟨gc,oc,none⟩) cn cc,.slice (some ⟨gd,od,none⟩) dn dc,.slice (some ⟨ge,oe,none⟩) en ec,.slice fA fn fc],.int .i64 (k:Int)] w _;go_enter Tryz.func174,Tryz.ntmps174;go_upto_region 1 with (fail)
 obtain ⟨hX,hB⟩:=GO w 26 [.int .i64 l.n,.slice aA an ac,.slice (some ⟨gb,ob,none⟩) bn bc,.slice (some ⟨gc,oc,none⟩) cn cc,.slice (some ⟨gd,od,none⟩) dn dc,.slice (some ⟨ge,oe,none⟩) en ec,.slice fA fn fc];have HX:=Yh2 hX hB;clear hX hB;generalize w.alloc _=W0 at HX ⊢;go_upto_region 1 with (fail)
 refine BA (fun W=>Yg W0 W/\W.cell? ⟨w.heap.size,2,none⟩=some (.slice (some ⟨gb,ob,none⟩) bn bc)/\W.cell? ⟨w.heap.size,3,none⟩=some (.slice (some ⟨gc,oc,none⟩) cn cc)/\W.cell? ⟨w.heap.size,4,none⟩=some (.slice (some ⟨gd,od,none⟩) dn dc)/\W.cell? ⟨w.heap.size,5,none⟩=some (.slice (some ⟨ge,oe,none⟩) en ec)/\W.cell? ⟨gd,od+k*3,none⟩=some (.bool xd.b)/\W.cell? ⟨gd,od+k*3+1,none⟩=some (.slice xd.A xd.l xd.k)/\W.cell? ⟨gd,od+k*3+2,none⟩=some (.slice xd.B xd.m xd.d)/\W.cell? ⟨ge,oe+k*3,none⟩=some (.bool xe.b)/\W.cell? ⟨ge,oe+k*3+1,none⟩=some (.slice xe.A xe.l xe.k)/\W.cell? ⟨ge,oe+k*3+2,none⟩=some (.slice xe.B xe.m xe.d)/\W.cell? ⟨gb,ob+k,none⟩=some (.bool false)/\W.cell? ⟨gc,oc+k,none⟩=some (.bool false)) (fun _ _=>True) (fun _ _=>False) 0 [⟨[],[(0,5),(1,6),(2,7),(3,8),(4,9),(5,10),(6,11),(7,12),(8,13),(9,14),(10,15),(11,16),(12,17),(13,18),(14,19),(15,20),(16,21),(17,22),(18,23),(19,24),(20,25),(21,26),(22,27)],[],[(23,28,fun v W=>v=undef)]⟩,⟨[(23,28)],[(0,5),(1,6),(2,7),(3,8),(4,9),(5,10),(6,11),(7,12),(8,13),(9,14),(10,15),(11,16),(12,17),(24,29),(25,30),(26,4)],[],[]⟩] [] [] ⟨[(23,28)],[(0,5),(1,6),(2,7),(3,8),(4,9),(5,10),(6,11),(7,12),(8,13),(9,14),(10,15),(11,16),(12,17),(13,18),(14,19),(15,20),(16,21),(17,22),(18,23),(19,24),(20,25),(21,26),(22,27),(24,29),(25,30),(26,4)],[],[]⟩ ⟨Aj,Bl.ld (HX.p0.keep Aj) 2 rfl,Bl.ld (HX.p0.keep Aj) 3 rfl,Bl.ld (HX.p0.keep Aj) 4 rfl,Bl.ld (HX.p0.keep Aj) 5 rfl,HC.out _ (Yb HX.q1 Aj)⟩ (trivial) (fun _ _ h b=>⟨(Yb h.1 b),Bl.ld (HX.p0.keep (Yb h.1 b)) 2 rfl,Bl.ld (HX.p0.keep (Yb h.1 b)) 3 rfl,Bl.ld (HX.p0.keep (Yb h.1 b)) 4 rfl,Bl.ld (HX.p0.keep (Yb h.1 b)) 5 rfl,HC.out _ (Yb HX.q1 (Yb h.1 b))⟩) (fun _ _ _ h _=>h) ⟨fun _ _ _ h _=>h,fun _ _ _ _ h=>h.elim,trivial⟩ ⟨?_,?_,trivial⟩ trivial trivial ?_
 · rintro W hS;refine gvN ?_;(repeat first|refine flA ?_|refine flB ?_);refine flN (flN ?_);refine flK (fun K hK=>?_) flL;go_simp;exact hK.out _ _ ⟨rfl,Aj⟩
 · rintro W hS v23 rfl;refine gvN ?_;(repeat first|refine flA ?_|refine flB ?_);refine flN (flN ?_);exact flL
 rintro W hS - v23 rfl;have hS:=hS flY;refine gvN ?_;(repeat first|refine flA ?_|refine flB ?_);refine flN (flN ?_);go_wp2_with fail;go_ret;exact ⟨rfl,Yb HX.q1 hS.1⟩
def fx0:Fx:=⟨false,[],[]⟩
def Ma (l:LPx) (n:Nat):Prop:=l.cols.length=n/\l.lo.length=n/\l.hi.length=n/\l.hasLo.length=n/\l.hasHi.length=n
theorem Pp {l:LPx} {xs:List Fx} {c:Nat} (hfit:Ma l xs.length) (hc:c<xs.length):∃ bl bh f g x,l.hasLo[c]?=some bl/\l.hasHi[c]?=some bh/\l.lo[c]?=some f/\l.hi[c]?=some g/\xs[c]?=some x:=by
 unfold Ma at hfit;exact ⟨_,_,_,_,_,List.getElem?_eq_getElem Yo,List.getElem?_eq_getElem Yo,List.getElem?_eq_getElem Yo,List.getElem?_eq_getElem Yo,List.getElem?_eq_getElem hc⟩
theorem Ob {L M:Nat} {q r:Rat} (h:Sz L q) (h2:Sz M r) (hL:0<L):Sz (L+M) (q / r):=by
 by_cases hr:r.num=0
 · have:r=0:=Rat.num_eq_zero.1 hr;subst this;rw [Rat.div_def,Rat.inv_zero,Rat.mul_zero];exact C9.mono Yo
 · have e:=NF (z:=q.num) (z2:=r.num) q.den_nz r.den_nz hr;rw [Wi,Wi] at e;rw [<- e];refine LO ?_ ?_ (by rw [UL];exact UX Yo (by rw [V9];exact q.den_nz))
   · have:(upz (q.num*(r.den:Int)) (r.num*(q.den:Int))).natAbs=q.num.natAbs*r.den:=by
      unfold upz;split<;>simp [UL]
     rw [this,UF];exact UG h.1 h2.2
   · rw [UL,V9,TX,UF];exact UG h.2 h2.1
def Dl (M:Nat) (l:LPx):Prop:=(l.cols.length<=14/\(∀ c∈l.cols,c.length<=30/\∀ t∈c,t.2.xs.length<=6/\t.2.ds.length<=6)/\∀ f,f∈l.lo∨f∈l.hi∨f∈l.cost->f.xs.length<=M/\f.ds.length<=M)/\l.lo.length<=30/\l.hi.length<=30/\l.cost.length<=30
def SzM (M:Nat) (l:LPx):Prop:=(∀ c∈l.cols,∀ t∈c,Sz 6 t.2.q)/\∀ f,f∈l.lo∨f∈l.hi∨f∈l.cost->Sz M f.q
theorem LY {w:World} {v:Value} {l:LPx} {M:Nat} (h:LPv w v l) (hf:Dl M l) (hM:0<M):SzM M l:=by
 obtain ⟨x,h1,h2,h3,h4,h5,h6,h7,h8⟩:=h
 have rx:∀ {u:Value} {fs:List Fx},Rx w u fs->(∀ f∈fs,f.xs.length<=M/\f.ds.length<=M)->∀ f∈fs,Sz M f.q:=fun {u fs} hr hl f hm=>by
  obtain ⟨i,hi⟩:=List.getElem?_of_mem hm;obtain ⟨g,o,cap,x,-,-,hv,-⟩:=hr.at_ hi;exact (hv.qv (hl f hm).1 (hl f hm).2).sz hM
 refine ⟨fun c hc t ht=>?_,fun f hm=>?_⟩
 · obtain ⟨i,hi⟩:=List.getElem?_of_mem hc;obtain ⟨g,o,cap,x,-,-,hv,-⟩:=h3.at_ hi;obtain ⟨j,hj⟩:=List.getElem?_of_mem ht;obtain ⟨g,o,cap,y,-,-,-,-,hq,-⟩:=hv.at_ hj;have:=(hf.1.2.1 c hc).2 t ht;exact (hq.qv this.1 this.2).sz Yd
 · rcases hm with hm | hm | hm
   · exact rx h6 (fun f hm=>hf.1.2.2 f (.inl hm)) f hm
   · exact rx h7 (fun f hm=>hf.1.2.2 f (.inr (.inl hm))) f hm
   · exact rx h8 (fun f hm=>hf.1.2.2 f (.inr (.inr hm))) f hm
def QM (l:LPx) (i:Nat):Tms:=qT (l.cols.getD i [])
def Cc (l:LPx) (i r:Nat):Rat:=Bh (QM l i) (r:Int)
def Cs (l:LPx) (hi:Bool) (i:Nat):Rat:=if hi=true then (l.hi.getD i fx0).q else (l.lo.getD i fx0).q
def CT (l:LPx) (hi:Bool) (i:Nat):Bool:=if hi=true then l.hasHi.getD i false else l.hasLo.getD i false
def Gh (l:LPx) (up:Bool) (i:Nat) (o:Rat) (st:Rat × List Ux):Option (Rat × List Ux):=
 if CT l (hiQ up o) i=true then some (st.1+o*Cs l (hiQ up o) i,st.2++[⟨(i:Int),hiQ up o,fq o⟩]) else none
def Cz (l:LPx) (up:Bool) (N r c:Nat) (a:Rat):Nat->Option (Rat × List Ux)
 | 0=>Gh l up (N+r) (1 / a) (0,[])
 | k+1=>match Cz l up N r c a k with
  | none=>none
  | some st=>if k=c∨Cc l k r=0 then some st else Gh l up k (-(Cc l k r*(1 / a))) st
structure Ti where
 col:Int
 up:Bool
 v:Rat
 us:List Ux
 rd:Bool
def MN (fl up:Bool) (s:Rat):Rat:=if fl=true then Cn up s else s
def ML (l:LPx) (fl:Bool) (c:Nat) (up:Bool) (s:Rat) (us:List Ux):Option Ti:=
 if Cl up (CT l up c) (MN fl up s) (Cs l up c)=true then some ⟨(c:Int),up,MN fl up s,us,fl && decide (Cn up s≠s)⟩ else none
def Dk (l:LPx) (flags:List Bool) (r c:Nat) (up:Bool):Option Ti:=
 if Cc l c r=0 then none else match Cz l up l.n.toNat r c (Cc l c r) l.n.toNat with
 | none=>none
 | some st=>ML l (flags.getD c false) c up st.1 st.2
instance fitsDec (l:LPx) (m:Nat):Decidable (BG l m):=by unfold BG;infer_instance
def AZ (l:LPx) (flags:List Bool) (row col:Int) (up:Bool):Option Ti:=
 if BG l flags.length/\0<=row/\row<(l.cols.length:Int) - l.n/\0<=col/\col<l.n then Dk l flags row.toNat col.toNat up else none
section
variable {l:LPx} {up:Bool} {N r c i k:Nat} {a o s:Rat} {us:List Ux} {st:Rat × List Ux} {L M:Nat}
theorem Jp (h:CT l (hiQ up o) i=true):Gh l up i o st=some (st.1+o*Cs l (hiQ up o) i,st.2++[⟨(i:Int),hiQ up o,fq o⟩]):=by rw [Gh,if_pos h]
theorem Lp (h:CT l (hiQ up o) i=false):Gh l up i o st=none:=by rw [Gh,if_neg (by rw [h];decide)]
theorem Dy (h:Cz l up N r c a k=some st) (h2:k=c∨Cc l k r=0):Cz l up N r c a (k+1)=some st:=by simp only [Cz,h];rw [if_pos h2]
theorem Ef (h:Cz l up N r c a k=some st) (h2:¬ (k=c∨Cc l k r=0)):Cz l up N r c a (k+1)=Gh l up k (-(Cc l k r*(1 / a))) st:=by simp only [Cz,h];rw [if_neg h2]
theorem DE (h:Cz l up N r c a k=none):∀ {m:Nat},k<=m->Cz l up N r c a m=none
 | 0,hm=>by
  obtain rfl:k=0:=by omega
  exact h
 | m+1,hm=>by
  by_cases e:k=m+1
  · rw [<- e];exact h
  · simp only [Cz,DE h (m:=m) (by omega)]
theorem Pq {L:Nat} (h:0<L):Sz L fx0.q:=by
 have e:fx0.q=0:=by decide+kernel
 rw [e];exact C9.mono h
theorem ER (hs:SzM M l) (hc:∀ c∈l.cols,c.length<=30):Sz 211 (Cc l i r):=by
 unfold Cc QM;rw [TS]
 rcases h:l.cols[i]? with - | ts
 · have e:Bh (qT ((none:Option (List (Int × Fx))).getD [])) (r:Int)=0:=by
    unfold Bh qT
    split<;>rfl
   rw [e];exact C9.mono Yd
 · have hm:=TO h;have h1:(qT ts).length<=30:=by unfold qT;rw [Uz];exact hc _ hm
   refine (I2 (L:=6) (l:=qT ts) (fun t ht=>?_) _).mono Yo;unfold qT at ht;obtain ⟨u,hu,rfl⟩:=UP.1 ht;exact hs.1 _ hm u hu
theorem Ra (hs:SzM M l) (hM:0<M) {hi:Bool}:Sz M (Cs l hi i):=by
 unfold Cs
 split
 · rw [TS]
   rcases h:l.hi[i]? with - | f
   · exact Pq hM
   · exact hs.2 f (.inr (.inl (TO h)))
 · rw [TS]
   rcases h:l.lo[i]? with - | f
   · exact Pq hM
   · exact hs.2 f (.inl (TO h))
theorem LE (hs:SzM M l) (hM:0<M) (ho:Sz 500 o) (h:Sz L st.1) {st':Rat × List Ux} (he:Gh l up i o st=some st'):Sz (L+501+M) st'.1/\st'.2.length=st.2.length+1:=by
 unfold Gh at he
 split at he
 · injection he with he
   subst he;exact ⟨(h.add (ho.mul (Ra hs hM))).mono Yo,by simp⟩
 · cases he
theorem KJ (hs:SzM M l) (hc:∀ c∈l.cols,c.length<=30):Sz 500 (1 / Cc l i r):=(Ob ID (ER hs hc) Yd).mono Yd
theorem GI (hs:SzM M l) (hc:∀ c∈l.cols,c.length<=30):Sz 500 (-(Cc l k r*(1 / Cc l i r))):=
 (((ER hs hc).mul (Ob ID (ER hs hc) Yd)).neg).mono Yd
theorem EW (hs:SzM M l) (hM:0<M) (hc:∀ c∈l.cols,c.length<=30):∀ {k:Nat} {st:Rat × List Ux},Cz l up N r c (Cc l i r) k=some st->Sz ((600+M)*(k+1)) st.1/\st.2.length<=k+1
 | 0,st,h=>by
  obtain ⟨h1,h2⟩:=LE (L:=1) (st:=(0,[])) hs hM (KJ hs hc) C9 h;exact ⟨h1.mono (by rw [Vw,Vk];omega),by rw [h2];simp⟩
 | k+1,st,h=>by
  rcases e:Cz l up N r c (Cc l i r) k with - | st0
  · rw [DE e (Nat.le_succ k)] at h;cases h
  · obtain ⟨h1,h2⟩:=EW hs hM hc e;by_cases hk:k=c∨Cc l k r=0
    · rw [Dy e hk] at h;injection h with h
      subst h;exact ⟨h1.mono (TY _ Yo),Yo⟩
    · rw [Ef e hk] at h;obtain ⟨h3,h4⟩:=LE hs hM (GI hs hc) h1 h;exact ⟨h3.mono (by rw [T9 (600+M) (k+1) 1];omega),Yo⟩
end
def AM (v u:Value):Prop:=∀ k,v.ownBlock=some k->u.ownBlock≠some k
theorem AM.symm {v u:Value} (h:AM v u):AM u v:=fun k h1 h2=>h k h2 h1
section
variable {α β:Type} {f:α->List Value} {f':β->List Value} {xs:List α} {ys:List β} {x:α} {s s' B:Nat} {w w':World} {T T':TypeId} {v v' u:Value}
theorem Cq:AM (.slice none 0 0) u:=fun k h=>by simp [Value.ownBlock] at h
theorem Rr.stay (h:Rr w B T' s' f' u ys) (ha:AM v u) (hk:∀ g,g<w.heap.size->v.ownBlock≠some g->w'.heap[g]?=w.heap[g]?):Rr w' B T' s' f' u ys:=by
 refine ⟨h.1,?_⟩
 rcases h.2 with hn | ⟨g,cap,cur,rfl,hb,hg,hr⟩
 · exact .inl hn
 · refine .inr ⟨g,cap,cur,rfl,hb,?_,hr⟩;rw [hk g (Array.getElem?_eq_some_iff.1 hg).1 fun e=>ha g e (by simp [Value.ownBlock])];exact hg
theorem Rr.apart (h:Rr w B T' s' f' u ys) (ha:AM v u) (hw:∀ k,v'.ownBlock=some k->v.ownBlock=some k∨w.heap.size<=k):AM v' u:=fun k h1 h2=>by
 rcases hw k h1 with h3 | h3
 · exact ha k h3 h2
 · exact absurd (World.ownsRow.lt h k h2).2 Yo
theorem Hb {S ty:TypeId} {i:TypeInfo} {z:Value} (hS:Tryz.prog.underlying S=some (.slice T)) (hi:Tryz.prog.info? T=some i) (hz:i.zero=some z)
 {zs:List Value} (hown:w.ownsRow B T i.size v xs.length zs) {a:Addr} {news:List Value} (hl:news.length=1*i.size) (hnews:∀ (j:Nat) (u:Value),news[j]?=some u->w.cell? (a.add j)=some u) (h1:∀ u∈news,u.oneCell'=true)
 (hbig:xs.length<=1048576) (hby:(xs.length+1)*i.bytes<=140737488355328)
 {w':World} (hr:(Builtin.append_ #[S,S] ty #[v,.slice (some a) 1 1]).run Tryz.prog w=.ok v' w'):∀ k,v'.ownBlock=some k->v.ownBlock=some k∨w.heap.size<=k:=fun k hk=>by
 rcases hown.2 with ⟨rfl,he⟩ | ⟨g,cap,cur,rfl,hbg,hg,hnc,hcm,hcs,htake⟩
 · have h2:=run_append_nil (P:=Tryz.prog) w S ty T i z hS hi hz a 1 1 news hl hnews Yo Yo (by have:=hby;rw [he] at this;omega);rw [h2] at hr;injection hr with e1 e2
   rw [<- e1] at hk;simp [Value.ownBlock] at hk;exact .inr Yo
 · by_cases hroom:xs.length+1<=cap
   · have hfit:xs.length*i.size+news.length<=cur.size:=by rw [hl,hcs,<- Uq];exact TW _ hroom
     have h2:=run_append_room (P:=Tryz.prog) w S ty T i hS hi g xs.length cap cur hg a 1 1 news hl hnews h1 hroom hfit;rw [h2] at hr;injection hr with e1 e2
     rw [<- e1] at hk;simp [Value.ownBlock] at hk;exact .inl (by simp [Value.ownBlock,hk])
   · have h2:=run_append_grow (P:=Tryz.prog) w S ty T i z hS hi hz ⟨g,0,none⟩ xs.length cap zs hown.1 (hown.cells (g:=g) rfl) a 1 1 news hl hnews Yo Yo (growslice_fits Yo hby);rw [h2] at hr;injection hr with e1 e2
     rw [<- e1] at hk;simp [Value.ownBlock] at hk;exact .inr Yo
theorem On {S:TypeId} {bytes:Nat} {z:Value} (hS:Tryz.prog.underlying S=some (.slice T)) (hI:(Tryz.prog.info? T).map (fun i=>(i.zero,i.size,i.bytes))=some (some z,s,bytes))
 (hby:0<s/\z.cells.size=s/\bytes<=128) (hf:∀ x,(f x).length=s) (hf1:∀ x,∀ u∈f x,u.oneCell'=true) {o:Oper} {a:Act} {K:Act->World->Prop} {Q:Exit->Act->World->Prop} (sO xO:Operand)
 (ho:o.op=.call { callee:=.builtin .append,args:=#[sO,xO],argTypes:=#[S,S] }) {w0:World} {gn:Nat} (hs:a.eval sO=v) (hx:a.eval xO=.slice (some ⟨gn,0,none⟩) 1 1)
 (hown:Rr w w0.heap.size T s f v xs) (hn:Bl w T gn (f x)) (hl:xs.length<=1048576) (hb:Yg w0 w)
 (h:∀ v' w',Rr w' w0.heap.size T s f v' (xs++[x])->Yg w0 w'->(∀ T',T≠T'->Ak T' w w')->(∀ g,g<w.heap.size->v.ownBlock≠some g->w'.heap[g]?=w.heap[g]?)->(∀ k,v'.ownBlock=some k->v.ownBlock=some k∨w.heap.size<=k)->K (a.put o.dst v') w'):o.wp Tryz.prog a w K Q:=by
 obtain ⟨i0,hi0,hz0,hz1,hz2⟩:=info_parts hI;subst hz1;have h48:(xs.length+1)*i0.bytes<=140737488355328:=by rw [hz2];have:=UN (show xs.length+1<=1048577 by omega) hby.2.2;omega
 have hnl:(f x).length=1*i0.size:=by rw [hf];omega
 obtain ⟨v',w',hr,h1,h2,-⟩:=run_append_own (P:=Tryz.prog) (w:=w) w0.heap.size S o.type T i0 z i0.size i0.bytes hS hi0 hz0 rfl rfl hby.2.1 hby.1 v xs.length (Ca f xs) hown ⟨gn,0,none⟩ 1 1 (f x) hnl (fun j u hj=>hn.cell hj) (hf1 x) (by unfold maxLen;omega) h48 hb.size;have hwh:=Hb hS hi0 hz0 (xs:=xs) hown hnl (fun j u hj=>hn.cell hj) (hf1 x) hl h48 hr;unfold Oper.wp execOp;simp only [ho,resolve,invoke,builtin,Sem.run_bind,Sem.run_pure,Result.andThen_ok,List.map_toArray,List.map_cons,List.map_nil,hs,hx,hr];refine h v' w' ?_ (hb.grown h2 hb.size (fun k hk=>(World.ownsRow.lt hown k hk).1)) (fun T' hT=>BX hown h2 hT) (fun g hg hne=>h2.block g hg (fun e=>hne e.symm)) hwh;unfold Rr;rw [GH,Ig,TM];exact h1
end
end
end Go.Proofs.YtlblnmmfphiobaaGreat
