import Derived.Test.YtlblnmmfphiobaaGreatPNA30
set_option maxRecDepth 100000
set_option maxHeartbeats 8000000
set_option linter.unusedVariables false
set_option linter.unusedSimpArgs false
namespace Go.Proofs.YtlblnmmfphiobaaGreat
section
open Go Go.RowKit Go.Proofs Pl
namespace I
set_option maxHeartbeats 40000000 in
theorem QW {w:World} {v:Value} {l:LPx} (h:LPv w v l) (hf:Fit l):
 Calls Tryz.prog 50 #[v] w fun e w'=>GK (fun r=>r=true↔AA l) e/\Yg w w':=by
 obtain ⟨aA,an,ac,bA,bn,bc,cA,cn,cc,dA,dn,dc,eA,en,ec,fA,fn,fc,rfl,hP,hla,hlb,hlc,hld,hle,hlf,hma,hmb,hmc,hmd,hme,hmf⟩:=h.open;have HS:=Yh2 hP hf;have HL:=Yh6 hla hlb hlc hld hle hlf;have HM:=Yh6 hma hmb hmc hmd hme hmf;have hna:an<=14:=by rw [<- hla];exact hf.1
 have HF:=Lib.hid hf;clear hP hf hla hlb hlc hld hle hlf hma hmb hmc hmd hme hmf h;change Calls Tryz.prog 50 #[.agg #[.int .i64 l.n,.slice aA an ac,.slice bA bn bc,.slice cA cn cc,.slice dA dn dc,.slice eA en ec,.slice fA fn fc]] w _;go_enter Tryz.func50,Tryz.ntmps50;go_upto_region 1 with (fail)
 have S0:=Yh2 (Bl.new w 26 [.int .i64 l.n,.slice aA an ac,.slice bA bn bc,.slice cA cn cc,.slice dA dn dc,.slice eA en ec,.slice fA fn fc]) (Ya w (.cells #[.int .i64 l.n,.slice aA an ac,.slice bA bn bc,.slice cA cn cc,.slice dA dn dc,.slice eA en ec,.slice fA fn fc] 26));have HA:Hid _:=Yh6 (HS.p0.1.keep S0.q1) (HS.p0.2.1.keep S0.q1) (HS.p0.2.2.1.keep S0.q1) (HS.p0.2.2.2.1.keep S0.q1) (HS.p0.2.2.2.2.1.keep S0.q1) (HS.p0.2.2.2.2.2.keep S0.q1);clear HS;have HBW:=Lib.hid S0.q1;have HBL:=Lib.hid S0.p0;clear S0;generalize w.alloc _=W0 at HA HBW HBL ⊢;have l0:=Bl.ld HBL.out 0 rfl;have l1:=Bl.ld HBL.out 1 rfl;have l2:=Bl.ld HBL.out 2 rfl;have l3:=Bl.ld HBL.out 3 rfl;have l4:=Bl.ld HBL.out 4 rfl;have l5:=Bl.ld HBL.out 5 rfl;have l6:=Bl.ld HBL.out 6 rfl;by_cases k1:l.n<0
 · skip;have a1:decide (l.n<0)=true:=decide_eq_true k1;have hE:Hid (¬ AA l):=fun h=>by have:=h.1.1;have:=HL.out;omega
   clear k1;go_wp2_with fail;go_ret;exact ⟨⟨false,rfl,by simp,fun h=>absurd h hE.out⟩,HBW.out⟩
 have a1:decide (l.n<0)=false:=decide_eq_false k1;by_cases k2:(an:Int)<l.n
 · skip;have a2:decide ((an:Int)<l.n)=true:=decide_eq_true k2;have hE:Hid (¬ AA l):=fun h=>by have:=h.1.2.1;have:=HL.out;omega
   clear k2;go_wp2_with fail;go_ret;exact ⟨⟨false,rfl,by simp,fun h=>absurd h hE.out⟩,HBW.out⟩
 have a2:decide ((an:Int)<l.n)=false:=decide_eq_false k2;by_cases k3:dn≠an
 · skip;have a3:((dn:Int) !=(an:Int))=true:=bne_iff_ne.2 Yo;have hE:Hid (¬ AA l):=fun h=>by have:=h.1.2.2.1;have:=HL.out;omega
   clear k3;go_wp2_with fail;go_ret;exact ⟨⟨false,rfl,by simp,fun h=>absurd h hE.out⟩,HBW.out⟩
 have a3:((dn:Int) !=(an:Int))=false:=by rw [show dn=an from by omega];exact bne_self_eq_false _
 by_cases k4:en≠an
 · skip;have a4:((en:Int) !=(an:Int))=true:=bne_iff_ne.2 Yo;have hE:Hid (¬ AA l):=fun h=>by have:=h.1.2.2.2.1;have:=HL.out;omega
   clear k4;go_wp2_with fail;go_ret;exact ⟨⟨false,rfl,by simp,fun h=>absurd h hE.out⟩,HBW.out⟩
 have a4:((en:Int) !=(an:Int))=false:=by rw [show en=an from by omega];exact bne_self_eq_false _
 by_cases k5:bn≠an
 · skip;have a5:((bn:Int) !=(an:Int))=true:=bne_iff_ne.2 Yo;have hE:Hid (¬ AA l):=fun h=>by have:=h.1.2.2.2.2.1;have:=HL.out;omega
   clear k5;go_wp2_with fail;go_ret;exact ⟨⟨false,rfl,by simp,fun h=>absurd h hE.out⟩,HBW.out⟩
 have a5:((bn:Int) !=(an:Int))=false:=by rw [show bn=an from by omega];exact bne_self_eq_false _
 by_cases k6:cn≠an
 · skip;have a6:((cn:Int) !=(an:Int))=true:=bne_iff_ne.2 Yo;have hE:Hid (¬ AA l):=fun h=>by have:=h.1.2.2.2.2.2.1;have:=HL.out;omega
   clear k6;go_wp2_with fail;go_ret;exact ⟨⟨false,rfl,by simp,fun h=>absurd h hE.out⟩,HBW.out⟩
 have a6:((cn:Int) !=(an:Int))=false:=by rw [show cn=an from by omega];exact bne_self_eq_false _
 by_cases k7:fn≠an
 · skip;have a7:((fn:Int) !=(an:Int))=true:=bne_iff_ne.2 Yo;have hE:Hid (¬ AA l):=fun h=>by have:=h.1.2.2.2.2.2.2;have:=HL.out;omega
   clear k7;go_wp2_with fail;go_ret;exact ⟨⟨false,rfl,by simp,fun h=>absurd h hE.out⟩,HBW.out⟩
 have a7:((fn:Int) !=(an:Int))=false:=by rw [show fn=an from by omega];exact bne_self_eq_false _
 have hN0:0<=l.n:=Yo;have hNa:l.n<=(an:Int):=Yo;have HE:Hid (bn=an/\cn=an/\dn=an/\en=an/\fn=an):=⟨Yo,Yo,Yo,Yo,Yo⟩;clear k1 k2 k3 k4 k5 k6 k7;go_wp2_with fail;clear a1 a2 a3 a4 a5 a6 a7 l0 l1 l2 l3 l4 l5 l6;go_loopw [4] (fun z4 wr=>∃ (k:Nat),z4=.int .i64 (k:Int)/\k<=an/\Hid (Yg W0 wr/\∀ j,j<k->Mq l j)) (fun z _=>an - (intOf z).toNat)
 case atStart=>exact ⟨0,rfl,Un _,Below.refl _ _,fun j hj=>absurd hj (Nat.not_lt_zero j)⟩
 case round=>
  obtain ⟨k,rfl,hk,H⟩:=hrel;by_cases hlt:k<an
  · skip;obtain ⟨ta,hta⟩:∃ t,l.cols[k]?=some t:=⟨_,List.getElem?_eq_getElem (by rw [HL.p0];exact (by have:=HE.out;omega))⟩;obtain ⟨ga,oa,qa,xa,e,hga,hva,za0⟩:=HA.p0.at_ hta;rw [HL.p0] at e;injection e with e1 e2 e3
    subst e1;clear e2 e3 qa;obtain ⟨tb,htb⟩:∃ t,l.hasLo[k]?=some t:=⟨_,List.getElem?_eq_getElem (by rw [HL.p1];exact (by have:=HE.out;omega))⟩;obtain ⟨gb,ob,qb,e,hgb,zb0⟩:=HA.p1.at_ htb;rw [HL.p1] at e;injection e with e1 e2 e3
    subst e1;clear e2 e3 qb;obtain ⟨tc,htc⟩:∃ t,l.hasHi[k]?=some t:=⟨_,List.getElem?_eq_getElem (by rw [HL.p2];exact (by have:=HE.out;omega))⟩;obtain ⟨gc,oc,qc,e,hgc,zc0⟩:=HA.p2.at_ htc;rw [HL.p2] at e;injection e with e1 e2 e3
    subst e1;clear e2 e3 qc;obtain ⟨td,htd⟩:∃ t,l.lo[k]?=some t:=⟨_,List.getElem?_eq_getElem (by rw [HL.p3];exact (by have:=HE.out;omega))⟩;obtain ⟨gd,od,qd,xd,e,hgd,hvd,zd0,zd1,zd2⟩:=HA.p3.at_ htd;rw [HL.p3] at e;injection e with e1 e2 e3
    subst e1;clear e2 e3 qd;obtain ⟨te,hte⟩:∃ t,l.hi[k]?=some t:=⟨_,List.getElem?_eq_getElem (by rw [HL.p4];exact (by have:=HE.out;omega))⟩;obtain ⟨ge,oe,qe,xe,e,hge,hve,ze0,ze1,ze2⟩:=HA.p4.at_ hte;rw [HL.p4] at e;injection e with e1 e2 e3
    subst e1;clear e2 e3 qe;obtain ⟨tf,htf⟩:∃ t,l.cost[k]?=some t:=⟨_,List.getElem?_eq_getElem (by rw [HL.q5];exact (by have:=HE.out;omega))⟩;obtain ⟨gf,of,qf,xf,e,hgf,hvf,zf0,zf1,zf2⟩:=HA.q5.at_ htf;rw [HL.q5] at e;injection e with e1 e2 e3
    subst e1;clear e2 e3 qf;have HC:Hid (∀ W,Yg W0 W->Yc7 W w.heap.size (.int .i64 l.n) (.slice (some ⟨ga,oa,none⟩) an ac) (.slice (some ⟨gb,ob,none⟩) bn bc) (.slice (some ⟨gc,oc,none⟩) cn cc) (.slice (some ⟨gd,od,none⟩) dn dc) (.slice (some ⟨ge,oe,none⟩) en ec) (.slice (some ⟨gf,of,none⟩) fn fc) (W.cell? ⟨ga,oa+k,none⟩=some (.slice xa.A xa.l xa.k)/\W.cell? ⟨gb,ob+k,none⟩=some (.bool tb)/\W.cell? ⟨gc,oc+k,none⟩=some (.bool tc)/\W.cell? ⟨gd,od+k*3,none⟩=some (.bool xd.b)/\W.cell? ⟨gd,od+k*3+1,none⟩=some (.slice xd.A xd.l xd.k)/\W.cell? ⟨gd,od+k*3+2,none⟩=some (.slice xd.B xd.m xd.d)/\W.cell? ⟨ge,oe+k*3,none⟩=some (.bool xe.b)/\W.cell? ⟨ge,oe+k*3+1,none⟩=some (.slice xe.A xe.l xe.k)/\W.cell? ⟨ge,oe+k*3+2,none⟩=some (.slice xe.B xe.m xe.d)/\W.cell? ⟨gf,of+k*3,none⟩=some (.bool xf.b)/\W.cell? ⟨gf,of+k*3+1,none⟩=some (.slice xf.A xf.l xf.k)/\W.cell? ⟨gf,of+k*3+2,none⟩=some (.slice xf.B xf.m xf.d))):=fun W hb=>⟨Bl.ld (HBL.out.keep hb) 0 rfl,Bl.ld (HBL.out.keep hb) 1 rfl,Bl.ld (HBL.out.keep hb) 2 rfl,Bl.ld (HBL.out.keep hb) 3 rfl,Bl.ld (HBL.out.keep hb) 4 rfl,Bl.ld (HBL.out.keep hb) 5 rfl,Bl.ld (HBL.out.keep hb) 6 rfl,(hb.cell (p:=⟨ga,_,none⟩) hga).trans za0,(hb.cell (p:=⟨gb,_,none⟩) hgb).trans zb0,(hb.cell (p:=⟨gc,_,none⟩) hgc).trans zc0,(hb.cell (p:=⟨gd,_,none⟩) hgd).trans zd0,(hb.cell (p:=⟨gd,_,none⟩) hgd).trans zd1,(hb.cell (p:=⟨gd,_,none⟩) hgd).trans zd2,(hb.cell (p:=⟨ge,_,none⟩) hge).trans ze0,(hb.cell (p:=⟨ge,_,none⟩) hge).trans ze1,(hb.cell (p:=⟨ge,_,none⟩) hge).trans ze2,(hb.cell (p:=⟨gf,_,none⟩) hgf).trans zf0,(hb.cell (p:=⟨gf,_,none⟩) hgf).trans zf1,(hb.cell (p:=⟨gf,_,none⟩) hgf).trans zf2⟩;have HV:=Yh4 hva hvd hve hvf;have HT:=Yh6 hta htb htc htd hte htf;have HF4:=Yh4 (HF.q2 td (.inl (TO htd))) (HF.q2 te (.inr (.inl (TO hte)))) (HF.q2 tf (.inr (.inr (TO htf)))) (JX HF.out hta);have HP:Hid (Mq l k↔Kb l.n (an:Int) k ta tb tc td te tf):=⟨fun h=>by have:=h _ _ _ _ _ _ hta htb htc htd hte htf;rw [HL.p0] at this;exact this,fun h c b1 b2 f1 f2 f3 h1 h2 h3 h4 h5 h6=>by rw [hta] at h1;rw [htb] at h2;rw [htc] at h3;rw [htd] at h4;rw [hte] at h5;rw [htf] at h6;cases h1;cases h2;cases h3;cases h4;cases h5;cases h6;rw [HL.p0];exact h⟩;have HNo:Hid (¬ Kb l.n (an:Int) k ta tb tc td te tf->¬ AA l):=fun h hr=>h (HP.out.1 (hr.2 k (by rw [HL.p0];exact hlt)));have hvl:=Lib.hid (show xa.l=ta.length by obtain ⟨_,_,e,-⟩:=hva.shape;injection e);have HSZ:Hid (∀ c,Sz 211 (Bh (qT ta) c)):=IQ hva (JX HF.out hta);clear hga hta za0 hva hgb htb zb0 hgc htc zc0 hgd htd zd0 zd1 zd2 hvd hge hte ze0 ze1 ze2 hve hgf htf zf0 zf1 zf2 hvf;have dk:(k:Int)<(an:Int):=Yo;have dbn:(k:Int)<(bn:Int):=by have:=HE.out;omega
    have dcn:(k:Int)<(cn:Int):=by have:=HE.out;omega
    have ddn:(k:Int)<(dn:Int):=by have:=HE.out;omega
    have den:(k:Int)<(en:Int):=by have:=HE.out;omega
    have dfn:(k:Int)<(fn:Int):=by have:=HE.out;omega
    go_upto_region 7 with (fail)
    have HR:=Lib.hid H.q1;have H0:=Lib.hid H.p0;clear H;go_cut [118] (fun sb wx=>∃ b:Bool,sb=.bool b/\Hid (Yg W0 wx/\(b=true->¬ Kb l.n (an:Int) k ta tb tc td te tf)/\(b=false->td=fq td.q/\te=fq te.q/\tf=fq tf.q/\(tb=true∨td=fq 0)/\(tc=true∨te=fq 0))))
    case first=>
     have B1:=Lib.hid (Yb H0.out (Ax _));refine wp_region_held_drew (S:=fun W=>Yc7 W w.heap.size (.int .i64 l.n) (.slice (some ⟨ga,oa,none⟩) an ac) (.slice (some ⟨gb,ob,none⟩) bn bc) (.slice (some ⟨gc,oc,none⟩) cn cc) (.slice (some ⟨gd,od,none⟩) dn dc) (.slice (some ⟨ge,oe,none⟩) en ec) (.slice (some ⟨gf,of,none⟩) fn fc) (W.cell? ⟨ga,oa+k,none⟩=some (.slice xa.A xa.l xa.k)/\W.cell? ⟨gb,ob+k,none⟩=some (.bool tb)/\W.cell? ⟨gc,oc+k,none⟩=some (.bool tc)/\W.cell? ⟨gd,od+k*3,none⟩=some (.bool xd.b)/\W.cell? ⟨gd,od+k*3+1,none⟩=some (.slice xd.A xd.l xd.k)/\W.cell? ⟨gd,od+k*3+2,none⟩=some (.slice xd.B xd.m xd.d)/\W.cell? ⟨ge,oe+k*3,none⟩=some (.bool xe.b)/\W.cell? ⟨ge,oe+k*3+1,none⟩=some (.slice xe.A xe.l xe.k)/\W.cell? ⟨ge,oe+k*3+2,none⟩=some (.slice xe.B xe.m xe.d)/\W.cell? ⟨gf,of+k*3,none⟩=some (.bool xf.b)/\W.cell? ⟨gf,of+k*3+1,none⟩=some (.slice xf.A xf.l xf.k)/\W.cell? ⟨gf,of+k*3+2,none⟩=some (.slice xf.B xf.m xf.d))) (by kernel_rfl) (HC.out _ B1.out) (fun Hh=>?_);generalize wr.drew=Wd at B1 Hh ⊢;refine Ct [0,1,2,3,4,6,7,8,9,10,11,12,13,14,15,16,17,18,19,20,21,22,23,24,25,26,27,28,29,30,31,32,33,34,35,36,37,38,39,40,41,42,43,44,45,46,47,48,49,50,51,52,53,54,55,56,57,58,59,60] (Yl 61 0) (fun HFR=>?_);refine AL 5 [0,1,2,3,4] Hh fun K hK=>?_
     repeat refine rgA ?_
     refine hK _ _ ?_;clear hK K;refine rgO 5 fun K hK=>?_;go_simp;go_at_call 138;refine (Gy (HV.p1.keep B1.out) HF4.p0).mono ?_;rintro e w2 ⟨rfl,hb⟩;have B2:=Lib.hid (Yb B1.out hb);obtain ⟨r1,hr1⟩:∃ r,r=decide (td=fq td.q):=⟨_,rfl⟩;rw [<- hr1];have Hr1:=Lib.hid hr1;clear hr1;clear hb B1 Hh
     cases r1 with
     | true=>
      as_aux_lemma=>
       go_wp2_with fail;refine rgK hK (HC.out _ B2.out) fun Hh=>?_;clear hK K;refine AL 7 [6,7,8,9,10,11,12] Hh fun K hK=>?_
       repeat refine rgA ?_
       refine hK _ _ ?_;clear hK K;refine rgO 13 fun K hK=>?_;go_simp;go_at_call 138;refine (Gy (HV.p2.keep B2.out) HF4.p1).mono ?_;rintro e w3 ⟨rfl,hb⟩;have B3:=Lib.hid (Yb B2.out hb);obtain ⟨r2,hr2⟩:∃ r,r=decide (te=fq te.q):=⟨_,rfl⟩;rw [<- hr2];have Hr2:=Lib.hid hr2;clear hr2;clear hb B2 Hh
       cases r2 with
       | true=>
        as_aux_lemma=>
         go_wp2_with fail;refine rgK hK (HC.out _ B3.out) fun Hh=>?_;clear hK K;refine AL 8 [14,15,16,17,18,19,20,21] Hh fun K hK=>?_
         repeat refine rgA ?_
         refine hK _ _ ?_;clear hK K;refine rgO 22 fun K hK=>?_;go_simp;go_at_call 138;refine (Gy (HV.q3.keep B3.out) HF4.p2).mono ?_;rintro e w4 ⟨rfl,hb⟩;have B4:=Lib.hid (Yb B3.out hb);obtain ⟨r3,hr3⟩:∃ r,r=decide (tf=fq tf.q):=⟨_,rfl⟩;rw [<- hr3];have Hr3:=Lib.hid hr3;clear hr3;clear hb B3 Hh
         cases r3 with
         | true=>
          as_aux_lemma=>
           go_wp2_with fail;refine rgK hK (HC.out _ B4.out) fun Hh=>?_;clear hK K;refine AL 7 [23,24,25,26,27,28,29] Hh fun K hK=>?_
           repeat refine rgA ?_
           refine hK _ _ ?_;clear hK K
           cases tb with
           | true=>
            as_aux_lemma=>
             refine rgU 30 88 HFR Hh ?_;refine rgU 31 89 HFR Hh ?_;refine rgU 32 90 HFR Hh ?_;refine CB 8 [(33,some 91),(34,some 92),(35,some 93),(36,some 94),(37,some 95),(38,some 96),(39,some 97),(40,some 98)] HFR Hh ?_;dsimp only [skL,skA,List.foldl_cons,List.foldl_nil,List.set_cons_zero,List.set_cons_succ];refine AL 7 [41,42,43,44,45,46,47] Hh fun K hK=>?_
             repeat refine rgA ?_
             refine hK _ _ ?_;clear hK K
             cases tc with
             | true=>
              as_aux_lemma=>
               refine rgU 48 106 HFR Hh ?_;refine rgU 49 107 HFR Hh ?_;refine rgU 50 108 HFR Hh ?_;refine CB 8 [(51,some 109),(52,some 110),(53,some 111),(54,some 112),(55,some 113),(56,some 114),(57,some 115),(58,some 116)] HFR Hh ?_;dsimp only [skL,skA,List.foldl_cons,List.foldl_nil,List.set_cons_zero,List.set_cons_succ];refine rgU 59 117 HFR Hh ?_;refine rgU 60 118 HFR Hh ?_;refine Yw ?_;clear Hh;go_wp2_with fail;go_meet;exact ⟨false,rfl,B4.out,fun h=>(by cases h),fun _=>⟨of_decide_eq_true Hr1.out.symm,of_decide_eq_true Hr2.out.symm,of_decide_eq_true Hr3.out.symm,.inl (by trivial),.inl (by trivial)⟩⟩
             | false=>
              as_aux_lemma=>
               refine AL 8 [48,49,50,51,52,53,54,55] Hh fun K hK=>?_
               repeat refine rgA ?_
               refine hK _ _ ?_;clear hK K;refine rgO 56 fun K hK=>?_;go_simp;go_at_call 137;refine (Iq (z:=0) Yd).mono ?_;rintro e w5 ⟨v0,rfl,h0⟩;have hb:=h0.below;have HZ:=Lib.hid h0.fw;clear h0;have B5:=Lib.hid (Yb B4.out hb);clear hb B4 Hh;go_wp2_with fail;refine rgK hK (HC.out _ B5.out) fun Hh=>?_;clear hK K;refine rgO 57 fun K hK=>?_;go_simp;go_at_call 65;refine (_root_.Go.Proofs.YtlblnmmfphiobaaGreat.C6 (HV.p2.keep B5.out) HZ.out.fv).mono ?_;rintro e w6 ⟨rfl,hb⟩;clear HZ;have B6:=Lib.hid (Yb B5.out hb);obtain ⟨r5,hr5⟩:∃ r,r=decide (te=fq ((0:Int):Rat)):=⟨_,rfl⟩;rw [<- hr5];have Hr5:=Lib.hid hr5;clear hr5;clear hb B5 Hh
               cases r5 with
               | true=>
                as_aux_lemma=>
                 go_wp2_with fail;refine rgK hK (HC.out _ B6.out) fun Hh=>?_;clear hK K;refine rgU 58 116 HFR Hh ?_;refine rgU 59 117 HFR Hh ?_;refine rgU 60 118 HFR Hh ?_;refine Yw ?_;clear Hh;go_wp2_with fail;go_meet;exact ⟨false,rfl,B6.out,fun h=>(by cases h),fun _=>⟨of_decide_eq_true Hr1.out.symm,of_decide_eq_true Hr2.out.symm,of_decide_eq_true Hr3.out.symm,.inl (by trivial),.inr (of_decide_eq_true Hr5.out.symm)⟩⟩
               | false=>
                as_aux_lemma=>
                 go_wp2_with fail;refine rgK hK (HC.out _ B6.out) fun Hh=>?_;clear hK K;refine rgU 58 116 HFR Hh ?_;refine rgU 59 117 HFR Hh ?_;refine rgU 60 118 HFR Hh ?_;refine Yw ?_;clear Hh;go_wp2_with fail;go_meet;exact ⟨true,rfl,B6.out,fun _=>(fun h=>h.2.2.2.2.1.elim (fun h=>by cases h) (of_decide_eq_false Hr5.out.symm)),fun h=>by cases h⟩
           | false=>
            as_aux_lemma=>
             refine AL 8 [30,31,32,33,34,35,36,37] Hh fun K hK=>?_
             repeat refine rgA ?_
             refine hK _ _ ?_;clear hK K;refine rgO 38 fun K hK=>?_;go_simp;go_at_call 137;refine (Iq (z:=0) Yd).mono ?_;rintro e w7 ⟨v0,rfl,h0⟩;have hb:=h0.below;have HZ:=Lib.hid h0.fw;clear h0;have B7:=Lib.hid (Yb B4.out hb);clear hb B4 Hh;go_wp2_with fail;refine rgK hK (HC.out _ B7.out) fun Hh=>?_;clear hK K;refine rgO 39 fun K hK=>?_;go_simp;go_at_call 65;refine (_root_.Go.Proofs.YtlblnmmfphiobaaGreat.C6 (HV.p1.keep B7.out) HZ.out.fv).mono ?_;rintro e w8 ⟨rfl,hb⟩;clear HZ;have B8:=Lib.hid (Yb B7.out hb);obtain ⟨r4,hr4⟩:∃ r,r=decide (td=fq ((0:Int):Rat)):=⟨_,rfl⟩;rw [<- hr4];have Hr4:=Lib.hid hr4;clear hr4;clear hb B7 Hh
             cases r4 with
             | true=>
              as_aux_lemma=>
               go_wp2_with fail;refine rgK hK (HC.out _ B8.out) fun Hh=>?_;clear hK K;refine AL 8 [40,41,42,43,44,45,46,47] Hh fun K hK=>?_
               repeat refine rgA ?_
               refine hK _ _ ?_;clear hK K
               cases tc with
               | true=>
                as_aux_lemma=>
                 refine rgU 48 106 HFR Hh ?_;refine rgU 49 107 HFR Hh ?_;refine rgU 50 108 HFR Hh ?_;refine CB 8 [(51,some 109),(52,some 110),(53,some 111),(54,some 112),(55,some 113),(56,some 114),(57,some 115),(58,some 116)] HFR Hh ?_;dsimp only [skL,skA,List.foldl_cons,List.foldl_nil,List.set_cons_zero,List.set_cons_succ];refine rgU 59 117 HFR Hh ?_;refine rgU 60 118 HFR Hh ?_;refine Yw ?_;clear Hh;go_wp2_with fail;go_meet;exact ⟨false,rfl,B8.out,fun h=>(by cases h),fun _=>⟨of_decide_eq_true Hr1.out.symm,of_decide_eq_true Hr2.out.symm,of_decide_eq_true Hr3.out.symm,.inr (of_decide_eq_true Hr4.out.symm),.inl (by trivial)⟩⟩
               | false=>
                as_aux_lemma=>
                 refine AL 8 [48,49,50,51,52,53,54,55] Hh fun K hK=>?_
                 repeat refine rgA ?_
                 refine hK _ _ ?_;clear hK K;refine rgO 56 fun K hK=>?_;go_simp;go_at_call 137;refine (Iq (z:=0) Yd).mono ?_;rintro e w9 ⟨v0,rfl,h0⟩;have hb:=h0.below;have HZ:=Lib.hid h0.fw;clear h0;have B9:=Lib.hid (Yb B8.out hb);clear hb B8 Hh;go_wp2_with fail;refine rgK hK (HC.out _ B9.out) fun Hh=>?_;clear hK K;refine rgO 57 fun K hK=>?_;go_simp;go_at_call 65;refine (_root_.Go.Proofs.YtlblnmmfphiobaaGreat.C6 (HV.p2.keep B9.out) HZ.out.fv).mono ?_;rintro e w10 ⟨rfl,hb⟩;clear HZ;have B10:=Lib.hid (Yb B9.out hb);obtain ⟨r5,hr5⟩:∃ r,r=decide (te=fq ((0:Int):Rat)):=⟨_,rfl⟩;rw [<- hr5];have Hr5:=Lib.hid hr5;clear hr5;clear hb B9 Hh
                 cases r5 with
                 | true=>
                  as_aux_lemma=>
                   go_wp2_with fail;refine rgK hK (HC.out _ B10.out) fun Hh=>?_;clear hK K;refine rgU 58 116 HFR Hh ?_;refine rgU 59 117 HFR Hh ?_;refine rgU 60 118 HFR Hh ?_;refine Yw ?_;clear Hh;go_wp2_with fail;go_meet;exact ⟨false,rfl,B10.out,fun h=>(by cases h),fun _=>⟨of_decide_eq_true Hr1.out.symm,of_decide_eq_true Hr2.out.symm,of_decide_eq_true Hr3.out.symm,.inr (of_decide_eq_true Hr4.out.symm),.inr (of_decide_eq_true Hr5.out.symm)⟩⟩
                 | false=>
                  as_aux_lemma=>
                   go_wp2_with fail;refine rgK hK (HC.out _ B10.out) fun Hh=>?_;clear hK K;refine rgU 58 116 HFR Hh ?_;refine rgU 59 117 HFR Hh ?_;refine rgU 60 118 HFR Hh ?_;refine Yw ?_;clear Hh;go_wp2_with fail;go_meet;exact ⟨true,rfl,B10.out,fun _=>(fun h=>h.2.2.2.2.1.elim (fun h=>by cases h) (of_decide_eq_false Hr5.out.symm)),fun h=>by cases h⟩
             | false=>
              as_aux_lemma=>
               go_wp2_with fail;refine rgK hK (HC.out _ B8.out) fun Hh=>?_;clear hK K;refine rgU 40 98 HFR Hh ?_;refine rgU 41 99 HFR Hh ?_;refine rgU 42 100 HFR Hh ?_;refine rgU 43 101 HFR Hh ?_;refine CB 16 [(44,some 102),(45,some 103),(46,some 104),(47,some 105),(48,some 106),(49,some 107),(50,some 108),(51,some 109),(52,some 110),(53,some 111),(54,some 112),(55,some 113),(56,some 114),(57,some 115),(58,some 116),(59,some 117)] HFR Hh ?_;dsimp only [skL,skA,List.foldl_cons,List.foldl_nil,List.set_cons_zero,List.set_cons_succ];refine rgU 60 118 HFR Hh ?_;refine Yw ?_;clear Hh;go_wp2_with fail;go_meet;exact ⟨true,rfl,B8.out,fun _=>(fun h=>h.2.2.2.1.elim (fun h=>by cases h) (of_decide_eq_false Hr4.out.symm)),fun h=>by cases h⟩
         | false=>
          as_aux_lemma=>
           go_wp2_with fail;refine rgK hK (HC.out _ B4.out) fun Hh=>?_;clear hK K;refine rgU 23 81 HFR Hh ?_;refine rgU 24 82 HFR Hh ?_;refine rgU 25 83 HFR Hh ?_;refine CB 16 [(26,some 84),(27,some 85),(28,some 86),(29,some 87),(30,some 88),(31,some 89),(32,some 90),(33,some 91),(34,some 92),(35,some 93),(36,some 94),(37,some 95),(38,some 96),(39,some 97),(40,some 98),(41,some 99)] HFR Hh ?_;dsimp only [skL,skA,List.foldl_cons,List.foldl_nil,List.set_cons_zero,List.set_cons_succ];refine rgU 42 100 HFR Hh ?_;refine rgU 43 101 HFR Hh ?_;refine CB 16 [(44,some 102),(45,some 103),(46,some 104),(47,some 105),(48,some 106),(49,some 107),(50,some 108),(51,some 109),(52,some 110),(53,some 111),(54,some 112),(55,some 113),(56,some 114),(57,some 115),(58,some 116),(59,some 117)] HFR Hh ?_;dsimp only [skL,skA,List.foldl_cons,List.foldl_nil,List.set_cons_zero,List.set_cons_succ];refine rgU 60 118 HFR Hh ?_;refine Yw ?_;clear Hh;go_wp2_with fail;go_meet;exact ⟨true,rfl,B4.out,fun _=>(fun h=>of_decide_eq_false Hr3.out.symm h.2.2.1),fun h=>by cases h⟩
       | false=>
        as_aux_lemma=>
         go_wp2_with fail;refine rgK hK (HC.out _ B3.out) fun Hh=>?_;clear hK K;refine rgU 14 72 HFR Hh ?_;refine rgU 15 73 HFR Hh ?_;refine rgU 16 74 HFR Hh ?_;refine CB 7 [(17,some 75),(18,some 76),(19,some 77),(20,some 78),(21,some 79),(22,some 80),(23,some 81)] HFR Hh ?_;dsimp only [skL,skA,List.foldl_cons,List.foldl_nil,List.set_cons_zero,List.set_cons_succ];refine rgU 24 82 HFR Hh ?_;refine rgU 25 83 HFR Hh ?_;refine CB 16 [(26,some 84),(27,some 85),(28,some 86),(29,some 87),(30,some 88),(31,some 89),(32,some 90),(33,some 91),(34,some 92),(35,some 93),(36,some 94),(37,some 95),(38,some 96),(39,some 97),(40,some 98),(41,some 99)] HFR Hh ?_;dsimp only [skL,skA,List.foldl_cons,List.foldl_nil,List.set_cons_zero,List.set_cons_succ];refine rgU 42 100 HFR Hh ?_;refine rgU 43 101 HFR Hh ?_;refine CB 16 [(44,some 102),(45,some 103),(46,some 104),(47,some 105),(48,some 106),(49,some 107),(50,some 108),(51,some 109),(52,some 110),(53,some 111),(54,some 112),(55,some 113),(56,some 114),(57,some 115),(58,some 116),(59,some 117)] HFR Hh ?_;dsimp only [skL,skA,List.foldl_cons,List.foldl_nil,List.set_cons_zero,List.set_cons_succ];refine rgU 60 118 HFR Hh ?_;refine Yw ?_;clear Hh;go_wp2_with fail;go_meet;exact ⟨true,rfl,B3.out,fun _=>(fun h=>of_decide_eq_false Hr2.out.symm h.2.1),fun h=>by cases h⟩
     | false=>
      as_aux_lemma=>
       go_wp2_with fail;refine rgK hK (HC.out _ B2.out) fun Hh=>?_;clear hK K;refine rgU 6 64 HFR Hh ?_;refine rgU 7 65 HFR Hh ?_;refine CB 7 [(8,some 66),(9,some 67),(10,some 68),(11,some 69),(12,some 70),(13,some 71),(14,some 72)] HFR Hh ?_;dsimp only [skL,skA,List.foldl_cons,List.foldl_nil,List.set_cons_zero,List.set_cons_succ];refine rgU 15 73 HFR Hh ?_;refine rgU 16 74 HFR Hh ?_;refine CB 7 [(17,some 75),(18,some 76),(19,some 77),(20,some 78),(21,some 79),(22,some 80),(23,some 81)] HFR Hh ?_;dsimp only [skL,skA,List.foldl_cons,List.foldl_nil,List.set_cons_zero,List.set_cons_succ];refine rgU 24 82 HFR Hh ?_;refine rgU 25 83 HFR Hh ?_;refine CB 16 [(26,some 84),(27,some 85),(28,some 86),(29,some 87),(30,some 88),(31,some 89),(32,some 90),(33,some 91),(34,some 92),(35,some 93),(36,some 94),(37,some 95),(38,some 96),(39,some 97),(40,some 98),(41,some 99)] HFR Hh ?_;dsimp only [skL,skA,List.foldl_cons,List.foldl_nil,List.set_cons_zero,List.set_cons_succ];refine rgU 42 100 HFR Hh ?_;refine rgU 43 101 HFR Hh ?_;refine CB 16 [(44,some 102),(45,some 103),(46,some 104),(47,some 105),(48,some 106),(49,some 107),(50,some 108),(51,some 109),(52,some 110),(53,some 111),(54,some 112),(55,some 113),(56,some 114),(57,some 115),(58,some 116),(59,some 117)] HFR Hh ?_;dsimp only [skL,skA,List.foldl_cons,List.foldl_nil,List.set_cons_zero,List.set_cons_succ];refine rgU 60 118 HFR Hh ?_;refine Yw ?_;clear Hh;go_wp2_with fail;go_meet;exact ⟨true,rfl,B2.out,fun _=>(fun h=>of_decide_eq_false Hr1.out.symm h.1),fun h=>by cases h⟩
    case rest=>
     obtain ⟨b,rfl,HQ7⟩:=hcut;generalize wc=V7 at HQ7 ⊢
     cases b with
     | true=>
      have hE:Hid (¬ AA l):=HNo.out (HQ7.p1 (by trivial));go_wp2_with fail;go_ret;exact ⟨⟨false,rfl,by simp,fun h=>absurd h hE.out⟩,Yb HBW.out HQ7.p0⟩
     | false=>
      obtain ⟨l0,l1,l2,l3,l4,l5,l6,za0,zb0,zc0,zd0,zd1,zd2,ze0,ze1,ze2,zf0,zf1,zf2⟩:=HC.out _ HQ7.p0;go_wp2_with fail;refine (PF (L:=6) (J:=211) ((HV.p0.keep HQ7.p0).vt HF4.q4) Yd Yd (by unfold qT;rw [Uz];exact TP HF4.p3 Yd) HSZ.out Yd).mono ?_;rintro e w8 ⟨v8,rfl,h8⟩;have B8:=Lib.hid (Yb HQ7.p0 h8.below);have H8:=Lib.hid h8.tx;clear h8 l0 l1 l2 l3 l4 l5 l6 za0 zb0 zc0 zd0 zd1 zd2 ze0 ze1 ze2 zf0 zf1 zf2;go_wp2_with fail;refine (_root_.Go.Proofs.YtlblnmmfphiobaaGreat.K7 (HV.p0.keep B8.out) H8.out).mono ?_;rintro e w9 ⟨rfl,hb⟩;have B9:=Lib.hid (Yb B8.out hb);clear hb H8 B8;obtain ⟨r8,hr8⟩:∃ r,r=decide (ta=fqT (mkV (qT ta))):=⟨_,rfl⟩;rw [<- hr8];have Hr8:=Lib.hid hr8;clear hr8
      cases r8 with
      | false=>
       have hE:Hid (¬ AA l):=HNo.out fun h=>of_decide_eq_false Hr8.out.symm h.2.2.2.2.2.1;go_wp2_with fail;go_ret;exact ⟨⟨false,rfl,by simp,fun h=>absurd h hE.out⟩,Yb HBW.out B9.out⟩
      | true=>
       go_upto_region 12 with (fail)
       obtain ⟨m,hm⟩:∃ m,ta.length=m:=⟨_,rfl⟩;have hxl:xa.l=m:=hvl.out.trans hm;have HMm:=Lib.hid hm;have hm30:m<=30:=by rw [<- hm];exact HF4.p3
       obtain ⟨dd,hdd⟩:∃ d,d=(an:Int) - l.n:=⟨_,rfl⟩;have wdd:IntKind.i64.wrap ((an:Int) - l.n)=dd:=by rw [hdd];exact IntWalk.i64_in _ Yo
       have HDD:=Lib.hid hdd;have HXL:=Lib.hid hxl;clear hm hdd hxl;go_cut [151] (fun sb wx=>∃ b:Bool,sb=.bool b/\Hid (Yg W0 wx/\(b=true->¬ Kb l.n (an:Int) k ta tb tc td te tf)/\(b=false->((k:Int)<l.n->∀ t,ta.getLast?=some t->t.1<(an:Int) - l.n))))
       case first=>
        by_cases kN:(k:Int)<l.n
        · skip;by_cases m0:m=0
          · skip;have d0:¬ (0:Int)<(xa.l:Int):=by have:=HXL.out;omega
            have d00:decide (0<xa.l)=false:=decide_eq_false (by have:=HXL.out;omega);have M0:=Lib.hid m0;clear m0;have B1:=Lib.hid (Yb B9.out (Ax _));refine wp_region_held_drew (S:=fun W=>Yc7 W w.heap.size (.int .i64 l.n) (.slice (some ⟨ga,oa,none⟩) an ac) (.slice (some ⟨gb,ob,none⟩) bn bc) (.slice (some ⟨gc,oc,none⟩) cn cc) (.slice (some ⟨gd,od,none⟩) dn dc) (.slice (some ⟨ge,oe,none⟩) en ec) (.slice (some ⟨gf,of,none⟩) fn fc) (W.cell? ⟨ga,oa+k,none⟩=some (.slice xa.A xa.l xa.k)/\W.cell? ⟨gb,ob+k,none⟩=some (.bool tb)/\W.cell? ⟨gc,oc+k,none⟩=some (.bool tc)/\W.cell? ⟨gd,od+k*3,none⟩=some (.bool xd.b)/\W.cell? ⟨gd,od+k*3+1,none⟩=some (.slice xd.A xd.l xd.k)/\W.cell? ⟨gd,od+k*3+2,none⟩=some (.slice xd.B xd.m xd.d)/\W.cell? ⟨ge,oe+k*3,none⟩=some (.bool xe.b)/\W.cell? ⟨ge,oe+k*3+1,none⟩=some (.slice xe.A xe.l xe.k)/\W.cell? ⟨ge,oe+k*3+2,none⟩=some (.slice xe.B xe.m xe.d)/\W.cell? ⟨gf,of+k*3,none⟩=some (.bool xf.b)/\W.cell? ⟨gf,of+k*3+1,none⟩=some (.slice xf.A xf.l xf.k)/\W.cell? ⟨gf,of+k*3+2,none⟩=some (.slice xf.B xf.m xf.d))) (by kernel_rfl) (HC.out _ B1.out) (fun Hh=>?_);generalize w9.drew=Wd at B1 Hh ⊢;refine Ct [0,1,2,3,4,5,6,7,8,9,10,11,12,13,14,15,16,17,18,19,20,21,22] (Yl 23 0) (fun HFR=>?_);refine AL 10 [0,1,2,3,4,5,6,7,8,9] Hh fun K hK=>?_
            repeat refine rgA ?_
            refine hK _ _ ?_;clear hK K;refine CB 12 [(10,some 139),(11,some 140),(12,some 141),(13,some 142),(14,some 143),(15,some 144),(16,some 145),(17,some 146),(18,some 147),(19,some 148),(20,some 149),(21,some 150)] HFR Hh ?_;dsimp only [skL,skA,List.foldl_cons,List.foldl_nil,List.set_cons_zero,List.set_cons_succ];refine rgU 22 151 HFR Hh ?_;refine Yw ?_;clear Hh;go_wp2_with fail;go_meet;exact ⟨false,rfl,B1.out,fun h=>(by cases h),fun _=>fun _ t ht=>by rw [TN (HMm.out.trans M0.out)] at ht;cases ht⟩
          obtain ⟨mm,hmm⟩:∃ mm,m=mm+1:=⟨m - 1,Yo⟩;have wm:IntKind.i64.wrap ((m:Int) - 1)=(mm:Int):=by rw [show (m:Int) - 1=(mm:Int) by omega];exact IntWalk.i64_in _ Yo
          have d0:(0:Int)<(m:Int):=Yo;have d00:0<m:=Yo;have d1:(mm:Int)<(m:Int):=Yo;have d11:mm<m:=Yo;have d2:(0:Int)<=(mm:Int):=Yo;obtain ⟨tl,htl⟩:∃ t,ta[mm]?=some t:=⟨_,List.getElem?_eq_getElem (by rw [HMm.out];omega)⟩;obtain ⟨gt,ot,qt,xt,e,hgt,hxc,-,-,y0,-⟩:=HV.p0.at_ htl;have hLast:Hid (ta.getLast?=some tl):=GD (HMm.out.trans hmm) htl;obtain ⟨sA,sk,hsA⟩:∃ sA sk,xa=⟨sA,m,sk⟩:=⟨xa.A,xa.k,by rw [<- HXL.out]⟩;subst hsA;injection e with e1 e2 e3
          have e1:sA=_:=e1;subst e1;have HY:Hid (∀ W,Yg W0 W->W.cell? ⟨gt,ot+mm*4,none⟩=some (.int .i64 tl.1)):=fun W hb=>(hb.cell (p:=⟨gt,_,none⟩) hgt).trans (hxc ▸ y0);clear hmm e2 e3 htl hxc y0 hgt qt m0;by_cases dcc:dd<=tl.1
          · skip;have B1:=Lib.hid (Yb B9.out (Ax _));refine wp_region_held_drew (S:=fun W=>Yc7 W w.heap.size (.int .i64 l.n) (.slice (some ⟨ga,oa,none⟩) an ac) (.slice (some ⟨gb,ob,none⟩) bn bc) (.slice (some ⟨gc,oc,none⟩) cn cc) (.slice (some ⟨gd,od,none⟩) dn dc) (.slice (some ⟨ge,oe,none⟩) en ec) (.slice (some ⟨gf,of,none⟩) fn fc) (W.cell? ⟨ga,oa+k,none⟩=some (.slice (some ⟨gt,ot,none⟩) m sk)/\W.cell? ⟨gb,ob+k,none⟩=some (.bool tb)/\W.cell? ⟨gc,oc+k,none⟩=some (.bool tc)/\W.cell? ⟨gd,od+k*3,none⟩=some (.bool xd.b)/\W.cell? ⟨gd,od+k*3+1,none⟩=some (.slice xd.A xd.l xd.k)/\W.cell? ⟨gd,od+k*3+2,none⟩=some (.slice xd.B xd.m xd.d)/\W.cell? ⟨ge,oe+k*3,none⟩=some (.bool xe.b)/\W.cell? ⟨ge,oe+k*3+1,none⟩=some (.slice xe.A xe.l xe.k)/\W.cell? ⟨ge,oe+k*3+2,none⟩=some (.slice xe.B xe.m xe.d)/\W.cell? ⟨gf,of+k*3,none⟩=some (.bool xf.b)/\W.cell? ⟨gf,of+k*3+1,none⟩=some (.slice xf.A xf.l xf.k)/\W.cell? ⟨gf,of+k*3+2,none⟩=some (.slice xf.B xf.m xf.d)/\W.cell? ⟨gt,ot+mm*4,none⟩=some (.int .i64 tl.1))) (by kernel_rfl) (by have h:=HC.out _ B1.out;simp only [and_assoc] at h ⊢;exact ⟨h.1,h.2.1,h.2.2.1,h.2.2.2.1,h.2.2.2.2.1,h.2.2.2.2.2.1,h.2.2.2.2.2.2.1,h.2.2.2.2.2.2.2.1,h.2.2.2.2.2.2.2.2.1,h.2.2.2.2.2.2.2.2.2.1,h.2.2.2.2.2.2.2.2.2.2.1,h.2.2.2.2.2.2.2.2.2.2.2.1,h.2.2.2.2.2.2.2.2.2.2.2.2.1,h.2.2.2.2.2.2.2.2.2.2.2.2.2.1,h.2.2.2.2.2.2.2.2.2.2.2.2.2.2.1,h.2.2.2.2.2.2.2.2.2.2.2.2.2.2.2.1,h.2.2.2.2.2.2.2.2.2.2.2.2.2.2.2.2.1,h.2.2.2.2.2.2.2.2.2.2.2.2.2.2.2.2.2.1,h.2.2.2.2.2.2.2.2.2.2.2.2.2.2.2.2.2.2,HY.out _ B1.out⟩) (fun Hh=>?_);generalize w9.drew=Wd at B1 Hh ⊢;refine Ct [0,1,2,3,4,5,6,7,8,9,10,11,12,13,14,15,16,17,18,19,20,21,22] (Yl 23 0) (fun HFR=>?_);refine AL 23 [0,1,2,3,4,5,6,7,8,9,10,11,12,13,14,15,16,17,18,19,20,21,22] Hh fun K hK=>?_
            repeat refine rgA ?_
            refine hK _ _ ?_;clear hK K;refine Yw ?_;clear Hh;go_wp2_with fail;go_meet;exact ⟨true,rfl,B1.out,fun _=>(fun h=>by have:=h.2.2.2.2.2.2.1 kN _ hLast.out;have:=HDD.out;omega),fun h=>by cases h⟩
          have B1:=Lib.hid (Yb B9.out (Ax _));refine wp_region_held_drew (S:=fun W=>Yc7 W w.heap.size (.int .i64 l.n) (.slice (some ⟨ga,oa,none⟩) an ac) (.slice (some ⟨gb,ob,none⟩) bn bc) (.slice (some ⟨gc,oc,none⟩) cn cc) (.slice (some ⟨gd,od,none⟩) dn dc) (.slice (some ⟨ge,oe,none⟩) en ec) (.slice (some ⟨gf,of,none⟩) fn fc) (W.cell? ⟨ga,oa+k,none⟩=some (.slice (some ⟨gt,ot,none⟩) m sk)/\W.cell? ⟨gb,ob+k,none⟩=some (.bool tb)/\W.cell? ⟨gc,oc+k,none⟩=some (.bool tc)/\W.cell? ⟨gd,od+k*3,none⟩=some (.bool xd.b)/\W.cell? ⟨gd,od+k*3+1,none⟩=some (.slice xd.A xd.l xd.k)/\W.cell? ⟨gd,od+k*3+2,none⟩=some (.slice xd.B xd.m xd.d)/\W.cell? ⟨ge,oe+k*3,none⟩=some (.bool xe.b)/\W.cell? ⟨ge,oe+k*3+1,none⟩=some (.slice xe.A xe.l xe.k)/\W.cell? ⟨ge,oe+k*3+2,none⟩=some (.slice xe.B xe.m xe.d)/\W.cell? ⟨gf,of+k*3,none⟩=some (.bool xf.b)/\W.cell? ⟨gf,of+k*3+1,none⟩=some (.slice xf.A xf.l xf.k)/\W.cell? ⟨gf,of+k*3+2,none⟩=some (.slice xf.B xf.m xf.d)/\W.cell? ⟨gt,ot+mm*4,none⟩=some (.int .i64 tl.1))) (by kernel_rfl) (by have h:=HC.out _ B1.out;simp only [and_assoc] at h ⊢;exact ⟨h.1,h.2.1,h.2.2.1,h.2.2.2.1,h.2.2.2.2.1,h.2.2.2.2.2.1,h.2.2.2.2.2.2.1,h.2.2.2.2.2.2.2.1,h.2.2.2.2.2.2.2.2.1,h.2.2.2.2.2.2.2.2.2.1,h.2.2.2.2.2.2.2.2.2.2.1,h.2.2.2.2.2.2.2.2.2.2.2.1,h.2.2.2.2.2.2.2.2.2.2.2.2.1,h.2.2.2.2.2.2.2.2.2.2.2.2.2.1,h.2.2.2.2.2.2.2.2.2.2.2.2.2.2.1,h.2.2.2.2.2.2.2.2.2.2.2.2.2.2.2.1,h.2.2.2.2.2.2.2.2.2.2.2.2.2.2.2.2.1,h.2.2.2.2.2.2.2.2.2.2.2.2.2.2.2.2.2.1,h.2.2.2.2.2.2.2.2.2.2.2.2.2.2.2.2.2.2,HY.out _ B1.out⟩) (fun Hh=>?_);generalize w9.drew=Wd at B1 Hh ⊢;refine Ct [0,1,2,3,4,5,6,7,8,9,10,11,12,13,14,15,16,17,18,19,20,21,22] (Yl 23 0) (fun HFR=>?_);refine AL 23 [0,1,2,3,4,5,6,7,8,9,10,11,12,13,14,15,16,17,18,19,20,21,22] Hh fun K hK=>?_
          repeat refine rgA ?_
          refine hK _ _ ?_;clear hK K;refine Yw ?_;clear Hh;go_wp2_with fail;go_meet;exact ⟨false,rfl,B1.out,fun h=>(by cases h),fun _=>fun _ t ht=>by rw [hLast.out] at ht;cases ht;have:=HDD.out;omega⟩
        have B1:=Lib.hid (Yb B9.out (Ax _));refine wp_region_held_drew (S:=fun W=>Yc7 W w.heap.size (.int .i64 l.n) (.slice (some ⟨ga,oa,none⟩) an ac) (.slice (some ⟨gb,ob,none⟩) bn bc) (.slice (some ⟨gc,oc,none⟩) cn cc) (.slice (some ⟨gd,od,none⟩) dn dc) (.slice (some ⟨ge,oe,none⟩) en ec) (.slice (some ⟨gf,of,none⟩) fn fc) (W.cell? ⟨ga,oa+k,none⟩=some (.slice xa.A xa.l xa.k)/\W.cell? ⟨gb,ob+k,none⟩=some (.bool tb)/\W.cell? ⟨gc,oc+k,none⟩=some (.bool tc)/\W.cell? ⟨gd,od+k*3,none⟩=some (.bool xd.b)/\W.cell? ⟨gd,od+k*3+1,none⟩=some (.slice xd.A xd.l xd.k)/\W.cell? ⟨gd,od+k*3+2,none⟩=some (.slice xd.B xd.m xd.d)/\W.cell? ⟨ge,oe+k*3,none⟩=some (.bool xe.b)/\W.cell? ⟨ge,oe+k*3+1,none⟩=some (.slice xe.A xe.l xe.k)/\W.cell? ⟨ge,oe+k*3+2,none⟩=some (.slice xe.B xe.m xe.d)/\W.cell? ⟨gf,of+k*3,none⟩=some (.bool xf.b)/\W.cell? ⟨gf,of+k*3+1,none⟩=some (.slice xf.A xf.l xf.k)/\W.cell? ⟨gf,of+k*3+2,none⟩=some (.slice xf.B xf.m xf.d))) (by kernel_rfl) (HC.out _ B1.out) (fun Hh=>?_);generalize w9.drew=Wd at B1 Hh ⊢;refine Ct [0,1,2,3,4,5,6,7,8,9,10,11,12,13,14,15,16,17,18,19,20,21,22] (Yl 23 0) (fun HFR=>?_);refine AL 5 [0,1,2,3,4] Hh fun K hK=>?_
        repeat refine rgA ?_
        refine hK _ _ ?_;clear hK K;refine CB 3 [(5,some 134),(6,some 135),(7,some 136)] HFR Hh ?_;dsimp only [skL,skA,List.foldl_cons,List.foldl_nil,List.set_cons_zero,List.set_cons_succ];refine rgU 8 137 HFR Hh ?_;refine rgU 9 138 HFR Hh ?_;refine CB 12 [(10,some 139),(11,some 140),(12,some 141),(13,some 142),(14,some 143),(15,some 144),(16,some 145),(17,some 146),(18,some 147),(19,some 148),(20,some 149),(21,some 150)] HFR Hh ?_;dsimp only [skL,skA,List.foldl_cons,List.foldl_nil,List.set_cons_zero,List.set_cons_succ];refine rgU 22 151 HFR Hh ?_;refine Yw ?_;clear Hh;go_wp2_with fail;go_meet;exact ⟨false,rfl,B1.out,fun h=>(by cases h),fun _=>fun h=>absurd h Yo⟩
       case rest=>
        obtain ⟨b,rfl,HQ12⟩:=hcut;generalize wc=V12 at HQ12 ⊢
        cases b with
        | true=>
         have hE:Hid (¬ AA l):=HNo.out (HQ12.p1 (by trivial));go_wp2_with fail;go_ret;exact ⟨⟨false,rfl,by simp,fun h=>absurd h hE.out⟩,Yb HBW.out HQ12.p0⟩
        | false=>
         go_upto_region 14 with (fail)
         obtain ⟨dv,hdv⟩:∃ d,d=(k:Int) - l.n:=⟨_,rfl⟩;have wdv:IntKind.i64.wrap ((k:Int) - l.n)=dv:=by rw [hdv];exact IntWalk.i64_in _ Yo
         have HDV:=Lib.hid hdv;clear hdv wdd;go_cut [175] (fun sb wx=>∃ b:Bool,sb=.bool b/\Hid (Yg W0 wx/\(b=true->¬ Kb l.n (an:Int) k ta tb tc td te tf)/\(b=false->(l.n<=(k:Int)->ta=[((k:Int) - l.n,fq (-1))]/\tf=fq 0))))
         case first=>
          by_cases kN:l.n<=(k:Int)
          · skip;have B1:=Lib.hid (Yb HQ12.p0 (Ax _));refine wp_region_held_drew (S:=fun W=>Yc7 W w.heap.size (.int .i64 l.n) (.slice (some ⟨ga,oa,none⟩) an ac) (.slice (some ⟨gb,ob,none⟩) bn bc) (.slice (some ⟨gc,oc,none⟩) cn cc) (.slice (some ⟨gd,od,none⟩) dn dc) (.slice (some ⟨ge,oe,none⟩) en ec) (.slice (some ⟨gf,of,none⟩) fn fc) (W.cell? ⟨ga,oa+k,none⟩=some (.slice xa.A xa.l xa.k)/\W.cell? ⟨gb,ob+k,none⟩=some (.bool tb)/\W.cell? ⟨gc,oc+k,none⟩=some (.bool tc)/\W.cell? ⟨gd,od+k*3,none⟩=some (.bool xd.b)/\W.cell? ⟨gd,od+k*3+1,none⟩=some (.slice xd.A xd.l xd.k)/\W.cell? ⟨gd,od+k*3+2,none⟩=some (.slice xd.B xd.m xd.d)/\W.cell? ⟨ge,oe+k*3,none⟩=some (.bool xe.b)/\W.cell? ⟨ge,oe+k*3+1,none⟩=some (.slice xe.A xe.l xe.k)/\W.cell? ⟨ge,oe+k*3+2,none⟩=some (.slice xe.B xe.m xe.d)/\W.cell? ⟨gf,of+k*3,none⟩=some (.bool xf.b)/\W.cell? ⟨gf,of+k*3+1,none⟩=some (.slice xf.A xf.l xf.k)/\W.cell? ⟨gf,of+k*3+2,none⟩=some (.slice xf.B xf.m xf.d))) (by kernel_rfl) (HC.out _ B1.out) (fun Hh=>?_);generalize V12.drew=Wd at B1 Hh ⊢;refine Ct [0,1,2,3,4,5,6,7,8,9,10,11,12,13,14,15,16,17,18,19,20,21,22,23] (Yl 24 0) (fun HFR=>?_);refine AL 10 [0,1,2,3,4,5,6,7,8,9] Hh fun K hK=>?_
            repeat refine rgA ?_
            refine hK _ _ ?_;clear hK K;refine rgO 10 fun K hK=>?_;go_simp;go_at_call 136;refine (Mg (row:=dv)).mono ?_;rintro e w11 ⟨vs,rfl,hs⟩;have hb:=hs.below;have HSL:=Lib.hid hs.tx;clear hs;have B11:=Lib.hid (Yb B1.out hb);clear hb B1 Hh;go_wp2_with fail;refine rgK hK (HC.out _ B11.out) fun Hh=>?_;clear hK K;refine rgO 11 fun K hK=>?_;go_simp;go_at_call 88;refine (_root_.Go.Proofs.YtlblnmmfphiobaaGreat.K7 (HV.p0.keep B11.out) HSL.out).mono ?_;rintro e w12 ⟨rfl,hb⟩;clear HSL;have B12:=Lib.hid (Yb B11.out hb);obtain ⟨r6,hr6⟩:∃ r,r=decide (ta=[(dv,fq (-1))]):=⟨_,rfl⟩;rw [<- hr6];have Hr6:=Lib.hid hr6;clear hr6;clear hb B11 Hh
            cases r6 with
            | true=>
             as_aux_lemma=>
              go_wp2_with fail;refine rgK hK (HC.out _ B12.out) fun Hh=>?_;clear hK K;refine AL 7 [12,13,14,15,16,17,18] Hh fun K hK=>?_
              repeat refine rgA ?_
              refine hK _ _ ?_;clear hK K;refine rgO 19 fun K hK=>?_;go_simp;go_at_call 137;refine (Iq (z:=0) Yd).mono ?_;rintro e w13 ⟨v0,rfl,h0⟩;have hb:=h0.below;have HZ:=Lib.hid h0.fw;clear h0;have B13:=Lib.hid (Yb B12.out hb);clear hb B12 Hh;go_wp2_with fail;refine rgK hK (HC.out _ B13.out) fun Hh=>?_;clear hK K;refine rgO 20 fun K hK=>?_;go_simp;go_at_call 65;refine (_root_.Go.Proofs.YtlblnmmfphiobaaGreat.C6 (HV.q3.keep B13.out) HZ.out.fv).mono ?_;rintro e w14 ⟨rfl,hb⟩;clear HZ;have B14:=Lib.hid (Yb B13.out hb);obtain ⟨r7,hr7⟩:∃ r,r=decide (tf=fq ((0:Int):Rat)):=⟨_,rfl⟩;rw [<- hr7];have Hr7:=Lib.hid hr7;clear hr7;clear hb B13 Hh
              cases r7 with
              | true=>
               as_aux_lemma=>
                go_wp2_with fail;refine rgK hK (HC.out _ B14.out) fun Hh=>?_;clear hK K;refine rgU 21 173 HFR Hh ?_;refine rgU 22 174 HFR Hh ?_;refine rgU 23 175 HFR Hh ?_;refine Yw ?_;clear Hh;go_wp2_with fail;go_meet;exact ⟨false,rfl,B14.out,fun h=>(by cases h),fun _=>fun _=>⟨by rw [<- HDV.out];exact of_decide_eq_true Hr6.out.symm,of_decide_eq_true Hr7.out.symm⟩⟩
              | false=>
               as_aux_lemma=>
                go_wp2_with fail;refine rgK hK (HC.out _ B14.out) fun Hh=>?_;clear hK K;refine rgU 21 173 HFR Hh ?_;refine rgU 22 174 HFR Hh ?_;refine rgU 23 175 HFR Hh ?_;refine Yw ?_;clear Hh;go_wp2_with fail;go_meet;exact ⟨true,rfl,B14.out,fun _=>(fun h=>(of_decide_eq_false Hr7.out.symm) (h.2.2.2.2.2.2.2 kN).2),fun h=>by cases h⟩
            | false=>
             as_aux_lemma=>
              go_wp2_with fail;refine rgK hK (HC.out _ B12.out) fun Hh=>?_;clear hK K;refine rgU 12 164 HFR Hh ?_;refine rgU 13 165 HFR Hh ?_;refine CB 8 [(14,some 166),(15,some 167),(16,some 168),(17,some 169),(18,some 170),(19,some 171),(20,some 172),(21,some 173)] HFR Hh ?_;dsimp only [skL,skA,List.foldl_cons,List.foldl_nil,List.set_cons_zero,List.set_cons_succ];refine rgU 22 174 HFR Hh ?_;refine rgU 23 175 HFR Hh ?_;refine Yw ?_;clear Hh;go_wp2_with fail;go_meet;exact ⟨true,rfl,B12.out,fun _=>(fun h=>(of_decide_eq_false Hr6.out.symm) (by rw [HDV.out];exact (h.2.2.2.2.2.2.2 kN).1)),fun h=>by cases h⟩
          have B1:=Lib.hid (Yb HQ12.p0 (Ax _));refine wp_region_held_drew (S:=fun W=>Yc7 W w.heap.size (.int .i64 l.n) (.slice (some ⟨ga,oa,none⟩) an ac) (.slice (some ⟨gb,ob,none⟩) bn bc) (.slice (some ⟨gc,oc,none⟩) cn cc) (.slice (some ⟨gd,od,none⟩) dn dc) (.slice (some ⟨ge,oe,none⟩) en ec) (.slice (some ⟨gf,of,none⟩) fn fc) (W.cell? ⟨ga,oa+k,none⟩=some (.slice xa.A xa.l xa.k)/\W.cell? ⟨gb,ob+k,none⟩=some (.bool tb)/\W.cell? ⟨gc,oc+k,none⟩=some (.bool tc)/\W.cell? ⟨gd,od+k*3,none⟩=some (.bool xd.b)/\W.cell? ⟨gd,od+k*3+1,none⟩=some (.slice xd.A xd.l xd.k)/\W.cell? ⟨gd,od+k*3+2,none⟩=some (.slice xd.B xd.m xd.d)/\W.cell? ⟨ge,oe+k*3,none⟩=some (.bool xe.b)/\W.cell? ⟨ge,oe+k*3+1,none⟩=some (.slice xe.A xe.l xe.k)/\W.cell? ⟨ge,oe+k*3+2,none⟩=some (.slice xe.B xe.m xe.d)/\W.cell? ⟨gf,of+k*3,none⟩=some (.bool xf.b)/\W.cell? ⟨gf,of+k*3+1,none⟩=some (.slice xf.A xf.l xf.k)/\W.cell? ⟨gf,of+k*3+2,none⟩=some (.slice xf.B xf.m xf.d))) (by kernel_rfl) (HC.out _ B1.out) (fun Hh=>?_);generalize V12.drew=Wd at B1 Hh ⊢;refine Ct [0,1,2,3,4,5,6,7,8,9,10,11,12,13,14,15,16,17,18,19,20,21,22,23] (Yl 24 0) (fun HFR=>?_);refine AL 5 [0,1,2,3,4] Hh fun K hK=>?_
          repeat refine rgA ?_
          refine hK _ _ ?_;clear hK K;refine CB 18 [(5,some 157),(6,some 158),(7,some 159),(8,some 160),(9,some 161),(10,some 162),(11,some 163),(12,some 164),(13,some 165),(14,some 166),(15,some 167),(16,some 168),(17,some 169),(18,some 170),(19,some 171),(20,some 172),(21,some 173),(22,some 174)] HFR Hh ?_;dsimp only [skL,skA,List.foldl_cons,List.foldl_nil,List.set_cons_zero,List.set_cons_succ];refine rgU 23 175 HFR Hh ?_;refine Yw ?_;clear Hh;go_wp2_with fail;go_meet;exact ⟨false,rfl,B1.out,fun h=>(by cases h),fun _=>fun h=>absurd h Yo⟩
         case rest=>
          obtain ⟨b,rfl,HQ14⟩:=hcut;generalize wc=V14 at HQ14 ⊢
          cases b with
          | true=>
           have hE:Hid (¬ AA l):=HNo.out (HQ14.p1 (by trivial));go_wp2_with fail;go_ret;exact ⟨⟨false,rfl,by simp,fun h=>absurd h hE.out⟩,Yb HBW.out HQ14.p0⟩
          | false=>
           have HOK:Hid (Mq l k):=HP.out.2 (by obtain ⟨q1,q2,q3,q4,q5⟩:=HQ7.q2 (by trivial);exact ⟨q1,q2,q3,q4,q5,of_decide_eq_true Hr8.out.symm,HQ12.q2 (by trivial),HQ14.q2 (by trivial)⟩);go_wp2_with fail
           case roundEnd=>exact ⟨⟨k+1,by go_num,Yo,HQ14.p0,fun j hj=>by rcases Nat.lt_succ_iff_lt_or_eq.1 hj with h | rfl;exact HR.out j h;exact HOK.out⟩,by simp [intOf];omega⟩
  obtain rfl:k=an:=by omega
  have dk:¬ (k:Int)<(k:Int):=Yo;have HE2:Hid (AA l):=⟨⟨hN0,by have:=HL.out;omega,by have:=HL.out;have:=HE.out;omega,by have:=HL.out;have:=HE.out;omega,by have:=HL.out;have:=HE.out;omega,by have:=HL.out;have:=HE.out;omega,by have:=HL.out;have:=HE.out;omega⟩,PG HL.p0 H.q1⟩;have l0:=Bl.ld (HBL.out.keep H.p0) 0 rfl;have l1:=Bl.ld (HBL.out.keep H.p0) 1 rfl;have l2:=Bl.ld (HBL.out.keep H.p0) 2 rfl;have l3:=Bl.ld (HBL.out.keep H.p0) 3 rfl;have l4:=Bl.ld (HBL.out.keep H.p0) 4 rfl;have l5:=Bl.ld (HBL.out.keep H.p0) 5 rfl;have l6:=Bl.ld (HBL.out.keep H.p0) 6 rfl;go_wp2_with fail;go_ret;exact ⟨⟨true,rfl,by simp;exact HE2.out⟩,Yb HBW.out H.p0⟩
end I
end
end Go.Proofs.YtlblnmmfphiobaaGreat
