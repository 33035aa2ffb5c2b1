import Derived.Test.YtlblnmmfphiobaaGreatPNA34
import Derived.Test.YtlblnmmfphiobaaGreatRows
import Derived.Deep.Slices
import Derived.Deep.Strs
import Derived.OpenShut
import Derived.ChangeArms
import Derived.ShutString
import Derived.ProofKit
import Derived.HandedShaped
import Derived.WideKeyArgs
set_option maxRecDepth 100000
set_option maxHeartbeats 8000000
set_option linter.unusedVariables false
set_option linter.unusedSimpArgs false
namespace Go.Proofs.YtlblnmmfphiobaaGreat
section
open Go Go.RowKit Go.Proofs Pl
theorem NS {w:World} {a b:Value} {l:LPx} (h:LPv w a l) (h':LPv w b l):
 Calls Tryz.prog 20 #[a,b] w fun e w'=>e=.returned (.bool true)/\Yg w w':=by
 obtain ⟨aA,an,ac,bA,bn,bc,cA,cn,cc,dA,dn,dc,eA,en,ec,fA,fn,fc,rfl,hP,hla,hlb,hlc,hld,hle,hlf,hma,hmb,hmc,hmd,hme,hmf⟩:=h.open;obtain ⟨aA2,an2,ac2,bA2,bn2,bc2,cA2,cn2,cc2,dA2,dn2,dc2,eA2,en2,ec2,fA2,fn2,fc2,rfl,hP2,hla2,hlb2,hlc2,hld2,hle2,hlf2,-⟩:=h'.open;obtain rfl:an=an2:=hla.symm.trans hla2;obtain rfl:bn=bn2:=hlb.symm.trans hlb2;obtain rfl:cn=cn2:=hlc.symm.trans hlc2;obtain rfl:dn=dn2:=hld.symm.trans hld2;obtain rfl:en=en2:=hle.symm.trans hle2;obtain rfl:fn=fn2:=hlf.symm.trans hlf2;have HS:=Yh2 hP hP2;have HL:=Yh6 hla hlb hlc hld hle hlf;have hma2:an<=9223372036854775807:=by unfold maxLen at hma;omega
 have hmb2:bn<=9223372036854775807:=by unfold maxLen at hmb;omega
 have hmc2:cn<=9223372036854775807:=by unfold maxLen at hmc;omega
 clear hP hP2 hla hlb hlc hld hle hlf hla2 hlb2 hlc2 hld2 hle2 hlf2 hma hmb hmc hmd hme hmf h h';change Calls Tryz.prog 20 #[.agg #[.int .i64 l.n,.slice aA an ac,.slice bA bn bc,.slice cA cn cc,.slice dA dn dc,.slice eA en ec,.slice fA fn fc],.agg #[.int .i64 l.n,.slice aA2 an ac2,.slice bA2 bn bc2,.slice cA2 cn cc2,.slice dA2 dn dc2,.slice eA2 en ec2,.slice fA2 fn fc2]] w _;go_enter Tryz.func20,Tryz.ntmps20;go_upto_region 1 with (fail)
 have hb0:Yg w ((w.alloc (.cells #[.int .i64 l.n,.slice aA an ac,.slice bA bn bc,.slice cA cn cc,.slice dA dn dc,.slice eA en ec,.slice fA fn fc] 26)).alloc (.cells #[.int .i64 l.n,.slice aA2 an ac2,.slice bA2 bn bc2,.slice cA2 cn cc2,.slice dA2 dn dc2,.slice eA2 en ec2,.slice fA2 fn fc2] 26)):=Yb (Ya _ _) (Ya _ _);have HBL:=Lib.hid ((Bl.new w 26 [.int .i64 l.n,.slice aA an ac,.slice bA bn bc,.slice cA cn cc,.slice dA dn dc,.slice eA en ec,.slice fA fn fc]).alloc (.cells #[.int .i64 l.n,.slice aA2 an ac2,.slice bA2 bn bc2,.slice cA2 cn cc2,.slice dA2 dn dc2,.slice eA2 en ec2,.slice fA2 fn fc2] 26));have R0:=Bl.new1 w (.cells #[.int .i64 l.n,.slice aA an ac,.slice bA bn bc,.slice cA cn cc,.slice dA dn dc,.slice eA en ec,.slice fA fn fc] 26) 26 [.int .i64 l.n,.slice aA2 an ac2,.slice bA2 bn bc2,.slice cA2 cn cc2,.slice dA2 dn dc2,.slice eA2 en ec2,.slice fA2 fn fc2];have HA:=Yh6 (HS.p0.1.keep hb0) (HS.p0.2.1.keep hb0) (HS.p0.2.2.1.keep hb0) (HS.p0.2.2.2.1.keep hb0) (HS.p0.2.2.2.2.1.keep hb0) (HS.p0.2.2.2.2.2.keep hb0);have HA2:=Yh6 (HS.p1.keep hb0) (HS.p2.keep hb0) (HS.p3.keep hb0) (HS.p4.keep hb0) (HS.p5.keep hb0) (HS.q6.keep hb0);obtain ⟨gR,hgR⟩:∃ g,g=w.heap.size+1:=⟨_,rfl⟩;rw [<- hgR] at R0 ⊢;have HR0:=Lib.hid R0;have HBW:=Lib.hid hb0;clear HS R0 hb0 hgR;generalize (w.alloc _).alloc _=W0 at HA HA2 HBL HR0 HBW ⊢;have HC:Hid (∀ W,Yg W0 W->(Ye7 W w.heap.size (.int .i64 l.n) (.slice aA an ac) (.slice bA bn bc) (.slice cA cn cc) (.slice dA dn dc) (.slice eA en ec) (.slice fA fn fc))/\(Ye7 W gR (.int .i64 l.n) (.slice aA2 an ac2) (.slice bA2 bn bc2) (.slice cA2 cn cc2) (.slice dA2 dn dc2) (.slice eA2 en ec2) (.slice fA2 fn fc2))):=fun W hb=>⟨⟨Bl.ld (HBL.out.keep hb) 0 rfl,Bl.ld (HBL.out.keep hb) 1 rfl,Bl.ld (HBL.out.keep hb) 2 rfl,Bl.ld (HBL.out.keep hb) 3 rfl,Bl.ld (HBL.out.keep hb) 4 rfl,Bl.ld (HBL.out.keep hb) 5 rfl,Bl.ld (HBL.out.keep hb) 6 rfl⟩,Bl.ld (HR0.out.keep hb) 0 rfl,Bl.ld (HR0.out.keep hb) 1 rfl,Bl.ld (HR0.out.keep hb) 2 rfl,Bl.ld (HR0.out.keep hb) 3 rfl,Bl.ld (HR0.out.keep hb) 4 rfl,Bl.ld (HR0.out.keep hb) 5 rfl,Bl.ld (HR0.out.keep hb) 6 rfl⟩;obtain ⟨⟨l0,l1,l2,l3,l4,l5,l6⟩,k0,k1,k2,k3,k4,k5,k6⟩:=HC.out _ (Below.refl _ _);have e0:(l.n !=l.n)=false:=bne_self_eq_false _;have e1:((an:Int) !=(an:Int))=false:=bne_self_eq_false _;have e2:((bn:Int) !=(bn:Int))=false:=bne_self_eq_false _;have e3:((cn:Int) !=(cn:Int))=false:=bne_self_eq_false _;go_wp2_with fail;clear e0 e1 e2 e3 l0 k0 l1 k1 l2 k2 l3 k3 l4 k4 l5 k5 l6 k6;go_loopw [5] (fun z4 wr=>∃ (k:Nat),z4=.int .i64 (k:Int)/\k<=an/\Hid (Yg W0 wr)) (fun z _=>an - (intOf z).toNat)
 case atStart=>exact ⟨0,rfl,Un _,Below.refl _ _⟩
 case round=>
  obtain ⟨k,rfl,hk,H⟩:=hrel;by_cases hlt:k<an
  · skip;obtain ⟨ta,hta⟩:∃ t,l.cols[k]?=some t:=⟨_,List.getElem?_eq_getElem (by rw [HL.p0];exact hlt)⟩;obtain ⟨ga,oa,qa,xa,e,hga,hva,za0⟩:=HA.p0.at_ hta;rw [HL.p0] at e;injection e with e1 e2 e3
    subst e1;clear e2 e3 qa;obtain ⟨ga2,oa2,qa2,xa2,e,hga2,hva2,za20⟩:=HA2.p0.at_ hta;rw [HL.p0] at e;injection e with e1 e2 e3
    subst e1;clear e2 e3 qa2;have HCx:Hid (∀ W,Yg W0 W->((Ye7 W w.heap.size (.int .i64 l.n) (.slice (some ⟨ga,oa,none⟩) an ac) (.slice bA bn bc) (.slice cA cn cc) (.slice dA dn dc) (.slice eA en ec) (.slice fA fn fc))/\(Ye7 W gR (.int .i64 l.n) (.slice (some ⟨ga2,oa2,none⟩) an ac2) (.slice bA2 bn bc2) (.slice cA2 cn cc2) (.slice dA2 dn dc2) (.slice eA2 en ec2) (.slice fA2 fn fc2)))/\W.cell? ⟨ga,oa+k,none⟩=some (.slice xa.A xa.l xa.k)/\W.cell? ⟨ga2,oa2+k,none⟩=some (.slice xa2.A xa2.l xa2.k)):=fun W hb=>⟨HC.out W hb,(hb.cell (p:=⟨ga,_,none⟩) hga).trans za0,(hb.cell (p:=⟨ga2,_,none⟩) hga2).trans za20⟩;have HV:=Yh2 hva hva2;clear hva2;clear hga hta za0 hva;clear hga2 za20;have dk:(k:Int)<(an:Int):=Yo;obtain ⟨⟨⟨l0,l1,l2,l3,l4,l5,l6⟩,k0,k1,k2,k3,k4,k5,k6⟩,za,zb⟩:=HCx.out _ H.out;go_upto_region 6 with (fail)
    clear za zb l0 k0 l1 k1 l2 k2 l3 k3 l4 k4 l5 k5 l6 k6;have B1:=Lib.hid (Yb H.out (Ax _));clear H;refine wp_region_held_drew (S:=fun W=>((Ye7 W w.heap.size (.int .i64 l.n) (.slice (some ⟨ga,oa,none⟩) an ac) (.slice bA bn bc) (.slice cA cn cc) (.slice dA dn dc) (.slice eA en ec) (.slice fA fn fc))/\(Ye7 W gR (.int .i64 l.n) (.slice (some ⟨ga2,oa2,none⟩) an ac2) (.slice bA2 bn bc2) (.slice cA2 cn cc2) (.slice dA2 dn dc2) (.slice eA2 en ec2) (.slice fA2 fn fc2)))/\W.cell? ⟨ga,oa+k,none⟩=some (.slice xa.A xa.l xa.k)/\W.cell? ⟨ga2,oa2+k,none⟩=some (.slice xa2.A xa2.l xa2.k)) (by kernel_rfl) (HCx.out _ B1.out) (fun Hh=>?_);generalize wr.drew=Wd at B1 Hh ⊢;refine Ct [0,1,2,3,4,5,6,7,8,9,11] (Yl 12 0) (fun HFR=>?_);refine AL 10 [0,1,2,3,4,5,6,7,8,9] Hh fun K hK=>?_
    repeat refine rgA ?_
    refine hK _ _ ?_;clear hK K;refine rgO 10 fun K hK=>?_;go_simp;go_at_call 88;refine (K7 (HV.p0.keep B1.out) (HV.q1.keep B1.out)).mono ?_;rintro e w2 ⟨rfl,hb⟩;rw [decide_eq_true rfl];have B2:=Lib.hid (Yb B1.out hb);clear hb B1 Hh;go_wp2_with fail;refine rgK hK (HCx.out _ B2.out) fun Hh=>?_;clear hK K;refine rgU 11 58 HFR Hh ?_;refine Yw ?_;clear Hh;go_wp2_with fail
    case roundEnd=>exact ⟨⟨k+1,by go_num,Yo,B2.out⟩,by simp [intOf];omega⟩
  obtain rfl:an=k:=by omega
  have dk:¬ (an:Int)<(an:Int):=Yo;obtain ⟨⟨l0,l1,l2,l3,l4,l5,l6⟩,k0,k1,k2,k3,k4,k5,k6⟩:=HC.out _ H.out;go_wp2_with fail;go_loopw [6] (fun z4 wr=>∃ (k:Nat),z4=.int .i64 (k:Int)/\k<=bn/\Hid (Yg W0 wr)) (fun z _=>bn - (intOf z).toNat)
  case atStart=>exact ⟨0,rfl,Un _,H.out⟩
  case round=>
   obtain ⟨k,rfl,hk,H⟩:=hrel;by_cases hlt:k<bn
   · skip;obtain ⟨tb,htb⟩:∃ t,l.hasLo[k]?=some t:=⟨_,List.getElem?_eq_getElem (by rw [HL.p1];exact hlt)⟩;obtain ⟨gb,ob,qb,e,hgb,zb0⟩:=HA.p1.at_ htb;rw [HL.p1] at e;injection e with e1 e2 e3
     subst e1;clear e2 e3 qb;obtain ⟨gb2,ob2,qb2,e,hgb2,zb20⟩:=HA2.p1.at_ htb;rw [HL.p1] at e;injection e with e1 e2 e3
     subst e1;clear e2 e3 qb2;have HCx:Hid (∀ W,Yg W0 W->((Ye7 W w.heap.size (.int .i64 l.n) (.slice aA an ac) (.slice (some ⟨gb,ob,none⟩) bn bc) (.slice cA cn cc) (.slice dA dn dc) (.slice eA en ec) (.slice fA fn fc))/\(Ye7 W gR (.int .i64 l.n) (.slice aA2 an ac2) (.slice (some ⟨gb2,ob2,none⟩) bn bc2) (.slice cA2 cn cc2) (.slice dA2 dn dc2) (.slice eA2 en ec2) (.slice fA2 fn fc2)))/\W.cell? ⟨gb,ob+k,none⟩=some (.bool tb)/\W.cell? ⟨gb2,ob2+k,none⟩=some (.bool tb)):=fun W hb=>⟨HC.out W hb,(hb.cell (p:=⟨gb,_,none⟩) hgb).trans zb0,(hb.cell (p:=⟨gb2,_,none⟩) hgb2).trans zb20⟩;clear hgb htb zb0;clear hgb2 zb20;have dk:(k:Int)<(bn:Int):=Yo;obtain ⟨⟨⟨l0,l1,l2,l3,l4,l5,l6⟩,k0,k1,k2,k3,k4,k5,k6⟩,za,zb⟩:=HCx.out _ H.out;go_upto_region 11 with (fail)
     clear za zb l0 k0 l1 k1 l2 k2 l3 k3 l4 k4 l5 k5 l6 k6
     cases tb
     · skip;have B1:=Lib.hid (Yb H.out (Ax _));clear H;refine wp_region_held_drew (S:=fun W=>((Ye7 W w.heap.size (.int .i64 l.n) (.slice aA an ac) (.slice (some ⟨gb,ob,none⟩) bn bc) (.slice cA cn cc) (.slice dA dn dc) (.slice eA en ec) (.slice fA fn fc))/\(Ye7 W gR (.int .i64 l.n) (.slice aA2 an ac2) (.slice (some ⟨gb2,ob2,none⟩) bn bc2) (.slice cA2 cn cc2) (.slice dA2 dn dc2) (.slice eA2 en ec2) (.slice fA2 fn fc2)))/\W.cell? ⟨gb,ob+k,none⟩=some (.bool false)/\W.cell? ⟨gb2,ob2+k,none⟩=some (.bool false)) (by kernel_rfl) (HCx.out _ B1.out) (fun Hh=>?_);generalize wr.drew=Wd at B1 Hh ⊢;refine Ct [0,1,2,3,4,5,6,7,8,9,10] (Yl 11 0) (fun HFR=>?_);refine AL 11 [0,1,2,3,4,5,6,7,8,9,10] Hh fun K hK=>?_
       repeat refine rgA ?_
       refine hK _ _ ?_;clear hK K;refine Yw ?_;clear Hh;go_wp2_with fail
       case roundEnd=>exact ⟨⟨k+1,by go_num,Yo,B1.out⟩,by simp [intOf];omega⟩
     have B1:=Lib.hid (Yb H.out (Ax _));clear H;refine wp_region_held_drew (S:=fun W=>((Ye7 W w.heap.size (.int .i64 l.n) (.slice aA an ac) (.slice (some ⟨gb,ob,none⟩) bn bc) (.slice cA cn cc) (.slice dA dn dc) (.slice eA en ec) (.slice fA fn fc))/\(Ye7 W gR (.int .i64 l.n) (.slice aA2 an ac2) (.slice (some ⟨gb2,ob2,none⟩) bn bc2) (.slice cA2 cn cc2) (.slice dA2 dn dc2) (.slice eA2 en ec2) (.slice fA2 fn fc2)))/\W.cell? ⟨gb,ob+k,none⟩=some (.bool true)/\W.cell? ⟨gb2,ob2+k,none⟩=some (.bool true)) (by kernel_rfl) (HCx.out _ B1.out) (fun Hh=>?_);generalize wr.drew=Wd at B1 Hh ⊢;refine Ct [0,1,2,3,4,5,6,7,8,9,10] (Yl 11 0) (fun HFR=>?_);refine AL 11 [0,1,2,3,4,5,6,7,8,9,10] Hh fun K hK=>?_
     repeat refine rgA ?_
     refine hK _ _ ?_;clear hK K;refine Yw ?_;clear Hh;go_wp2_with fail
     case roundEnd=>exact ⟨⟨k+1,by go_num,Yo,B1.out⟩,by simp [intOf];omega⟩
   obtain rfl:bn=k:=by omega
   have dk:¬ (bn:Int)<(bn:Int):=Yo;obtain ⟨⟨l0,l1,l2,l3,l4,l5,l6⟩,k0,k1,k2,k3,k4,k5,k6⟩:=HC.out _ H.out;go_wp2_with fail;go_loopw [7] (fun z4 wr=>∃ (k:Nat),z4=.int .i64 (k:Int)/\k<=cn/\Hid (Yg W0 wr)) (fun z _=>cn - (intOf z).toNat)
   case atStart=>exact ⟨0,rfl,Un _,H.out⟩
   case round=>
    obtain ⟨k,rfl,hk,H⟩:=hrel;by_cases hlt:k<cn
    · skip;obtain ⟨tc,htc⟩:∃ t,l.hasHi[k]?=some t:=⟨_,List.getElem?_eq_getElem (by rw [HL.p2];exact hlt)⟩;obtain ⟨gc,oc,qc,e,hgc,zc0⟩:=HA.p2.at_ htc;rw [HL.p2] at e;injection e with e1 e2 e3
      subst e1;clear e2 e3 qc;obtain ⟨gc2,oc2,qc2,e,hgc2,zc20⟩:=HA2.p2.at_ htc;rw [HL.p2] at e;injection e with e1 e2 e3
      subst e1;clear e2 e3 qc2;have HCx:Hid (∀ W,Yg W0 W->((Ye7 W w.heap.size (.int .i64 l.n) (.slice aA an ac) (.slice bA bn bc) (.slice (some ⟨gc,oc,none⟩) cn cc) (.slice dA dn dc) (.slice eA en ec) (.slice fA fn fc))/\(Ye7 W gR (.int .i64 l.n) (.slice aA2 an ac2) (.slice bA2 bn bc2) (.slice (some ⟨gc2,oc2,none⟩) cn cc2) (.slice dA2 dn dc2) (.slice eA2 en ec2) (.slice fA2 fn fc2)))/\W.cell? ⟨gc,oc+k,none⟩=some (.bool tc)/\W.cell? ⟨gc2,oc2+k,none⟩=some (.bool tc)):=fun W hb=>⟨HC.out W hb,(hb.cell (p:=⟨gc,_,none⟩) hgc).trans zc0,(hb.cell (p:=⟨gc2,_,none⟩) hgc2).trans zc20⟩;clear hgc htc zc0;clear hgc2 zc20;have dk:(k:Int)<(cn:Int):=Yo;obtain ⟨⟨⟨l0,l1,l2,l3,l4,l5,l6⟩,k0,k1,k2,k3,k4,k5,k6⟩,za,zb⟩:=HCx.out _ H.out;go_upto_region 16 with (fail)
      clear za zb l0 k0 l1 k1 l2 k2 l3 k3 l4 k4 l5 k5 l6 k6
      cases tc
      · skip;have B1:=Lib.hid (Yb H.out (Ax _));clear H;refine wp_region_held_drew (S:=fun W=>((Ye7 W w.heap.size (.int .i64 l.n) (.slice aA an ac) (.slice bA bn bc) (.slice (some ⟨gc,oc,none⟩) cn cc) (.slice dA dn dc) (.slice eA en ec) (.slice fA fn fc))/\(Ye7 W gR (.int .i64 l.n) (.slice aA2 an ac2) (.slice bA2 bn bc2) (.slice (some ⟨gc2,oc2,none⟩) cn cc2) (.slice dA2 dn dc2) (.slice eA2 en ec2) (.slice fA2 fn fc2)))/\W.cell? ⟨gc,oc+k,none⟩=some (.bool false)/\W.cell? ⟨gc2,oc2+k,none⟩=some (.bool false)) (by kernel_rfl) (HCx.out _ B1.out) (fun Hh=>?_);generalize wr.drew=Wd at B1 Hh ⊢;refine Ct [0,1,2,3,4,5,6,7,8,9,10] (Yl 11 0) (fun HFR=>?_);refine AL 11 [0,1,2,3,4,5,6,7,8,9,10] Hh fun K hK=>?_
        repeat refine rgA ?_
        refine hK _ _ ?_;clear hK K;refine Yw ?_;clear Hh;go_wp2_with fail
        case roundEnd=>exact ⟨⟨k+1,by go_num,Yo,B1.out⟩,by simp [intOf];omega⟩
      have B1:=Lib.hid (Yb H.out (Ax _));clear H;refine wp_region_held_drew (S:=fun W=>((Ye7 W w.heap.size (.int .i64 l.n) (.slice aA an ac) (.slice bA bn bc) (.slice (some ⟨gc,oc,none⟩) cn cc) (.slice dA dn dc) (.slice eA en ec) (.slice fA fn fc))/\(Ye7 W gR (.int .i64 l.n) (.slice aA2 an ac2) (.slice bA2 bn bc2) (.slice (some ⟨gc2,oc2,none⟩) cn cc2) (.slice dA2 dn dc2) (.slice eA2 en ec2) (.slice fA2 fn fc2)))/\W.cell? ⟨gc,oc+k,none⟩=some (.bool true)/\W.cell? ⟨gc2,oc2+k,none⟩=some (.bool true)) (by kernel_rfl) (HCx.out _ B1.out) (fun Hh=>?_);generalize wr.drew=Wd at B1 Hh ⊢;refine Ct [0,1,2,3,4,5,6,7,8,9,10] (Yl 11 0) (fun HFR=>?_);refine AL 11 [0,1,2,3,4,5,6,7,8,9,10] Hh fun K hK=>?_
      repeat refine rgA ?_
      refine hK _ _ ?_;clear hK K;refine Yw ?_;clear Hh;go_wp2_with fail
      case roundEnd=>exact ⟨⟨k+1,by go_num,Yo,B1.out⟩,by simp [intOf];omega⟩
    obtain rfl:cn=k:=by omega
    have dk:¬ (cn:Int)<(cn:Int):=Yo;obtain ⟨⟨l0,l1,l2,l3,l4,l5,l6⟩,k0,k1,k2,k3,k4,k5,k6⟩:=HC.out _ H.out;go_wp2_with fail;refine (FJ (HA.p3.keep H.out) (HA2.p3.keep H.out)).mono ?_;rintro e v1 ⟨rfl,hb⟩;rw [decide_eq_true rfl];have B1:=Lib.hid (Yb H.out hb);clear hb l0 k0 l1 k1 l2 k2 l3 k3 l4 k4 l5 k5 l6 k6;obtain ⟨⟨l0,l1,l2,l3,l4,l5,l6⟩,k0,k1,k2,k3,k4,k5,k6⟩:=HC.out _ B1.out;go_wp2_with fail;refine (FJ (HA.p4.keep B1.out) (HA2.p4.keep B1.out)).mono ?_;rintro e v2 ⟨rfl,hb⟩;rw [decide_eq_true rfl];have B2:=Lib.hid (Yb B1.out hb);clear hb l0 k0 l1 k1 l2 k2 l3 k3 l4 k4 l5 k5 l6 k6;obtain ⟨⟨l0,l1,l2,l3,l4,l5,l6⟩,k0,k1,k2,k3,k4,k5,k6⟩:=HC.out _ B2.out;go_wp2_with fail;refine (FJ (HA.q5.keep B2.out) (HA2.q5.keep B2.out)).mono ?_;rintro e v3 ⟨rfl,hb⟩;rw [decide_eq_true rfl];have B3:=Lib.hid (Yb B2.out hb);clear hb l0 k0 l1 k1 l2 k2 l3 k3 l4 k4 l5 k5 l6 k6;obtain ⟨⟨l0,l1,l2,l3,l4,l5,l6⟩,k0,k1,k2,k3,k4,k5,k6⟩:=HC.out _ B3.out;go_wp2_with fail;go_ret;exact ⟨rfl,Yb HBW.out B3.out⟩
theorem Po {w:World} {v:Value} {a b:LPx} (e:a=b) (h:LPv w v a):LPv w v b:=by subst e;exact h
theorem Og {w0 w w1:World} {v u:Value} {ts us:List Ti} (h:TgR w0 w v ts) (h2:TgR w w1 u us):AM v u:=by
 obtain ⟨xs,h,-⟩:=h;obtain ⟨ys,h2,-⟩:=h2;exact h.apart2 h2
theorem Lg {flags:List Bool} {p:Nat}:∀ {l:LPx},AA l->l.cols.length<=14->∀ ts:List Ti,(alX flags p l ts).2.length<=ts.length+p*392:=by
 induction p with
 | zero=>intro l _ _ ts;simp [alX]
 | succ p ih=>
  intro l hr h14 ts;have h1:=In (flags:=flags) hr h14;rw [alX,Vz]
  split
  · simp only [TM];omega
  · have h2:=CM (flags:=flags) hr;have:=ih h2.1 (by rw [h2.2.2];exact h14) (ts++(AO flags l).2.1);rw [TM] at this;omega
namespace I
set_option maxHeartbeats 32000000 in
theorem MW {w:World} {v u:Value} {l:LPx} {flags:List Bool} {a b:Int} (h:LPv w v l) (hs:Sw l) (hu:Ex w u flags):
 Calls Tryz.prog 5 #[v,u,.agg #[.int .i64 a,.int .i64 b]] w fun e w'=>e=.returned (.bool true)/\Yg w w':=by
 have hlp:=h;obtain ⟨aA,an,ac,bA,bn,bc,cA,cn,cc,dA,dn,dc,eA,en,ec,fA,fn,fc,rfl,hP,hla,hlb,hlc,hld,hle,hlf,hma,hmb,hmc,hmd,hme,hmf⟩:=h.open;obtain ⟨Fl,Fk,rfl,-,hmx⟩:=hu.shape;obtain ⟨m,hm⟩:∃ m,flags.length=m:=⟨_,rfl⟩;rw [hm] at hu ⊢;have HM:=Lib.hid hm;have HS:=Yh3 hlp hs hu;have HLA:=Lib.hid hla;clear hP hlp hs hu hm hla hlb hlc hld hle hlf hma hmb hmc hmd hme hmf h hmx;change Calls Tryz.prog 5 #[.agg #[.int .i64 l.n,.slice aA an ac,.slice bA bn bc,.slice cA cn cc,.slice dA dn dc,.slice eA en ec,.slice fA fn fc],.slice Fl m Fk,.agg #[.int .i64 a,.int .i64 b]] w _;go_enter Tryz.func5,Tryz.ntmps5;go_upto_region 1 with (fail)
 obtain ⟨hX,hY,hB⟩:=box2 w 26 70 [.int .i64 l.n,.slice aA an ac,.slice bA bn bc,.slice cA cn cc,.slice dA dn dc,.slice eA en ec,.slice fA fn fc] [.int .i64 a,.int .i64 b];have H0:=Yh3 hX hY hB;clear hX hY hB;generalize (w.alloc _).alloc _=W0 at H0 ⊢;go_wp2_with fail;refine Ph.mono ?_;rintro e w1 ⟨rfl,hb⟩;have H_1:=Yh3 (H0.p0.keep hb) (H0.p1.keep hb) (Yb H0.q2 hb);clear H0;clear hb;go_upto_region 3 with (fail)
 refine BA (fun W=>Yg w1 W/\W.cell? ⟨(w.heap.size+1),0,none⟩=some (.int .i64 a)/\W.cell? ⟨(w.heap.size+1),1,none⟩=some (.int .i64 b)) (fun _ _=>True) (fun _ _=>False) 0 [⟨[],[(0,23),(1,24),(2,25),(3,26),(4,7),(5,8)],[],[]⟩] [] [] ⟨[],[(0,23),(1,24),(2,25),(3,26),(4,7),(5,8)],[],[]⟩ ⟨Aj,Bl.ld (H_1.p1.keep Aj) 0 rfl,Bl.ld (H_1.p1.keep Aj) 1 rfl⟩ (trivial) (fun _ _ h b=>⟨(Yb h.1 b),Bl.ld (H_1.p1.keep (Yb h.1 b)) 0 rfl,Bl.ld (H_1.p1.keep (Yb h.1 b)) 1 rfl⟩) (fun _ _ _ h _=>h) trivial ⟨?_,trivial⟩ trivial trivial ?_
 · rintro W hS;refine gvN ?_;(repeat refine flA ?_);refine flN (flN ?_);exact flL
 rintro W hS -;have hS:=hS flY;refine gvN ?_;(repeat refine flA ?_);refine flN (flN ?_);have hbw:=hS.1;clear hS;obtain ⟨W3,hWW⟩:∃ X,X=W:=⟨_,rfl⟩;subst hWW;have H_2:=Yh2 (H_1.p0.keep hbw) (Yb H_1.q2 hbw);clear H_1;clear hbw;have m0:=Bl.ld H_2.p0 0 rfl;have m1:=Bl.ld H_2.p0 1 rfl;have m2:=Bl.ld H_2.p0 2 rfl;have m3:=Bl.ld H_2.p0 3 rfl;have m4:=Bl.ld H_2.p0 4 rfl;have m5:=Bl.ld H_2.p0 5 rfl;have m6:=Bl.ld H_2.p0 6 rfl;go_wp2_with fail;refine (Q2 (HS.p0.keep H_2.q1) HS.p1).mono ?_;rintro e w4 ⟨⟨rg,rfl,hg⟩,hb⟩;clear m0 m1 m2 m3 m4 m5 m6;have H_3:=Yh2 (H_2.p0.keep hb) (Yb H_2.q1 hb);clear H_2;clear hb
 cases rg with
 | true=>
  go_wp2_with fail;go_ret;exact ⟨rfl,H_3.q1⟩
 | false=>
  have HF:Hid (Rh l):=hg (by trivial);clear hg;have m1:=Bl.ld H_3.p0 1 rfl;by_cases h8:(8:Int)<(an:Int)
  · skip;go_wp2_with fail;go_ret;exact ⟨rfl,H_3.q1⟩
  clear m1;have m0:=Bl.ld H_3.p0 0 rfl;have m1:=Bl.ld H_3.p0 1 rfl;have m2:=Bl.ld H_3.p0 2 rfl;have m3:=Bl.ld H_3.p0 3 rfl;have m4:=Bl.ld H_3.p0 4 rfl;have m5:=Bl.ld H_3.p0 5 rfl;have m6:=Bl.ld H_3.p0 6 rfl;go_wp2_with fail;refine (SO (HS.p0.keep H_3.q1) HF.p0).mono ?_;rintro e w5 ⟨⟨rr,rfl,hrr⟩,hb⟩;clear m0 m1 m2 m3 m4 m5 m6;have H_4:=Yh2 (H_3.p0.keep hb) (Yb H_3.q1 hb);clear H_3;clear hb
  cases rr with
  | false=>
   go_wp2_with fail;go_ret;exact ⟨rfl,H_4.q1⟩
  | true=>
   obtain ⟨hright,hmn⟩:=hrr.1 (by trivial);clear hrr;have h8n:l.cols.length<=8:=by rw [HLA.out];omega
   have HI:Hid (Iv 200 l):=Iv.start hright HF.out h8n;have HR:=Yh2 hright (show (flags.length:Int)=l.n by rw [HM.out];exact hmn);clear hright hmn h8n;by_cases g0:a<0
   · skip;go_wp2_with fail;go_ret;exact ⟨rfl,H_4.q1⟩
   by_cases g1:2<a
   · skip;go_wp2_with fail;go_ret;exact ⟨rfl,H_4.q1⟩
   by_cases g2:b<0
   · skip;go_wp2_with fail;go_ret;exact ⟨rfl,H_4.q1⟩
   by_cases g3:2<b
   · skip;go_wp2_with fail;go_ret;exact ⟨rfl,H_4.q1⟩
   obtain ⟨a,rfl⟩:∃ x:Nat,a=(x:Int):=⟨a.toNat,Yo⟩;obtain ⟨b,rfl⟩:∃ x:Nat,b=(x:Int):=⟨b.toNat,Yo⟩;have HAB:Hid (a<=2/\b<=2):=⟨Yo,Yo⟩;have m0:=Bl.ld H_4.p0 0 rfl;have m1:=Bl.ld H_4.p0 1 rfl;have m2:=Bl.ld H_4.p0 2 rfl;have m3:=Bl.ld H_4.p0 3 rfl;have m4:=Bl.ld H_4.p0 4 rfl;have m5:=Bl.ld H_4.p0 5 rfl;have m6:=Bl.ld H_4.p0 6 rfl;obtain ⟨⟨l1,ts1⟩,hr1⟩:∃ r,alX flags a l []=r:=⟨_,rfl⟩;have hall:=Js (M:=2000000) (p:=a) (HS.p0.keep H_4.q1) (HS.q2.keep H_4.q1) HR.out.1 (HI.out.fit (by have:=HAB.out;omega) Yd) HR.out.2 (by have:=HAB.out;omega) (HI.out.good Yo (by have:=HAB.out;omega)) Yd Yd;rw [hr1] at hall;have HR1:=Lib.hid hr1;clear hr1;go_wp2_with fail;refine hall.mono ?_;rintro e v1 ⟨x,y,rfl,hx,hy,hb⟩;clear hall;have hxl:=hx.lpv;obtain ⟨aA1,an1,ac1,bA1,bn1,bc1,cA1,cn1,cc1,dA1,dn1,dc1,eA1,en1,ec1,fA1,fn1,fc1,rfl,-⟩:=hxl.open;obtain ⟨U1,c1,rfl⟩:=hy.shape;clear m0 m1 m2 m3 m4 m5 m6;go_upto_region 7 with (fail)
   have hal:=Ya v1 (.cells #[.int .i64 l1.n,.slice aA1 an1 ac1,.slice bA1 bn1 bc1,.slice cA1 cn1 cc1,.slice dA1 dn1 dc1,.slice eA1 en1 ec1,.slice fA1 fn1 fc1] 26);have hbb:=Yb hb hal;have hy2:=(hy.from H_4.q1).keep hal;have H_5:=Yh5 (H_4.p0.keep hbb) (Bl.new v1 26 [.int .i64 l1.n,.slice aA1 an1 ac1,.slice bA1 bn1 bc1,.slice cA1 cn1 cc1,.slice dA1 dn1 dc1,.slice eA1 en1 ec1,.slice fA1 fn1 fc1]) (hxl.keep hal) hy2 (Yb H_4.q1 hbb);clear H_4;clear hbb hal hb hx hy hy2 hxl;generalize v1.heap.size=g9 at H_5 ⊢;generalize v1.alloc _=V1 at H_5 ⊢;have HI1:Hid (Iv (200+a*259200) l1):=by have h7:=HI.out.all (p:=a) (flags:=flags) Yd [];rw [HR1.out] at h7;exact h7
   have HRR1:Hid (AA l1/\(flags.length:Int)=l1.n):=by have h7:=Fc (flags:=flags) a l [] HR.out.1;rw [HR1.out] at h7;exact ⟨h7.1,by rw [h7.2.1];exact HR.out.2⟩
   have n0:=Bl.ld H_5.p1 0 rfl;have n1:=Bl.ld H_5.p1 1 rfl;have n2:=Bl.ld H_5.p1 2 rfl;have n3:=Bl.ld H_5.p1 3 rfl;have n4:=Bl.ld H_5.p1 4 rfl;have n5:=Bl.ld H_5.p1 5 rfl;have n6:=Bl.ld H_5.p1 6 rfl;obtain ⟨⟨l2,ts2⟩,hr2⟩:∃ r,alX flags b l1 []=r:=⟨_,rfl⟩;have hall:=Js (M:=2000000) (p:=b) H_5.p2 (HS.q2.keep H_5.q4) HRR1.p0 (HI1.out.fit (by have:=HAB.out;omega) Yd) HRR1.q1 (by have:=HAB.out;omega) (HI1.out.good Yo (by have:=HAB.out;omega)) Yd Yd;rw [hr2] at hall;have HR2:=Lib.hid hr2;clear hr2;go_wp2_with fail;refine hall.mono ?_;rintro e v2 ⟨x,y,rfl,hx,hy,hb⟩;clear hall;have hxl:=hx.lpv;obtain ⟨aA2,an2,ac2,bA2,bn2,bc2,cA2,cn2,cc2,dA2,dn2,dc2,eA2,en2,ec2,fA2,fn2,fc2,rfl,-⟩:=hxl.open;obtain ⟨U2,c2,rfl⟩:=hy.shape;clear n0 n1 n2 n3 n4 n5 n6;go_upto_region 8 with (fail)
   have hal:=Ya v2 (.cells #[.int .i64 l2.n,.slice aA2 an2 ac2,.slice bA2 bn2 bc2,.slice cA2 cn2 cc2,.slice dA2 dn2 dc2,.slice eA2 en2 ec2,.slice fA2 fn2 fc2] 26);have hbb:=Yb hb hal;have hy2:=(hy.from H_5.q4).keep hal;have H_6:=Yh8 (H_5.p0.keep hbb) (H_5.p1.keep hbb) (H_5.p2.keep hbb) (H_5.p3.keep hbb) (Bl.new v2 26 [.int .i64 l2.n,.slice aA2 an2 ac2,.slice bA2 bn2 bc2,.slice cA2 cn2 cc2,.slice dA2 dn2 dc2,.slice eA2 en2 ec2,.slice fA2 fn2 fc2]) (hxl.keep hal) hy2 (Yb H_5.q4 hbb);clear H_5;clear hbb hal hb hx hy hy2 hxl;generalize v2.heap.size=g12 at H_6 ⊢;generalize v2.alloc _=V2 at H_6 ⊢;have m0:=Bl.ld H_6.p0 0 rfl;have m1:=Bl.ld H_6.p0 1 rfl;have m2:=Bl.ld H_6.p0 2 rfl;have m3:=Bl.ld H_6.p0 3 rfl;have m4:=Bl.ld H_6.p0 4 rfl;have m5:=Bl.ld H_6.p0 5 rfl;have m6:=Bl.ld H_6.p0 6 rfl;have hw:IntKind.i64.wrap ((a:Int)+(b:Int))=((a+b:Nat):Int):=by rw [<- We];exact IntWalk.i64_in _ (by have:=HAB.out;omega)
   obtain ⟨⟨l3,ts3⟩,hr3⟩:∃ r,alX flags (a+b) l []=r:=⟨_,rfl⟩;have hall:=Js (M:=2000000) (p:=(a+b)) (HS.p0.keep H_6.q7) (HS.q2.keep H_6.q7) HR.out.1 (HI.out.fit (by have:=HAB.out;omega) Yd) HR.out.2 (by have:=HAB.out;omega) (HI.out.good Yo (by have:=HAB.out;omega)) Yd Yd;rw [hr3] at hall;have HR3:=Lib.hid hr3;clear hr3;go_wp2_with fail;refine hall.mono ?_;rintro e v3 ⟨x,y,rfl,hx,hy,hb⟩;clear hall;have hxl:=hx.lpv;obtain ⟨aA3,an3,ac3,bA3,bn3,bc3,cA3,cn3,cc3,dA3,dn3,dc3,eA3,en3,ec3,fA3,fn3,fc3,rfl,-⟩:=hxl.open;obtain ⟨U3,c3,rfl⟩:=hy.shape;clear m0 m1 m2 m3 m4 m5 m6;clear hw;have hap:AM (.slice U1 ts1.length c1) (.slice U3 ts3.length c3):=Og H_6.p3 hy;go_upto_region 9 with (fail)
   have hal:=Ya v3 (.cells #[.int .i64 l3.n,.slice aA3 an3 ac3,.slice bA3 bn3 bc3,.slice cA3 cn3 cc3,.slice dA3 dn3 dc3,.slice eA3 en3 ec3,.slice fA3 fn3 fc3] 26);have hbb:=Yb hb hal;have hy2:=(hy.from H_6.q7).keep hal;have H_7:=Kd (H_6.p0.keep hbb) (H_6.p1.keep hbb) (H_6.p2.keep hbb) (H_6.p3.keep hbb) (H_6.p4.keep hbb) (H_6.p5.keep hbb) (H_6.p6.keep hbb) (Bl.new v3 26 [.int .i64 l3.n,.slice aA3 an3 ac3,.slice bA3 bn3 bc3,.slice cA3 cn3 cc3,.slice dA3 dn3 dc3,.slice eA3 en3 ec3,.slice fA3 fn3 fc3]) (hxl.keep hal) hy2 hap (Yb H_6.q7 hbb);clear H_6;clear hbb hal hb hx hy hy2 hxl hap;generalize v3.heap.size=g15 at H_7 ⊢;generalize v3.alloc _=V3 at H_7 ⊢;have m0:=Bl.ld H_7.p0 0 rfl;have m1:=Bl.ld H_7.p0 1 rfl;have m2:=Bl.ld H_7.p0 2 rfl;have m3:=Bl.ld H_7.p0 3 rfl;have m4:=Bl.ld H_7.p0 4 rfl;have m5:=Bl.ld H_7.p0 5 rfl;have m6:=Bl.ld H_7.p0 6 rfl;obtain ⟨⟨l4,ts4⟩,hr4⟩:∃ r,alX flags 0 l []=r:=⟨_,rfl⟩;have hall:=Js (M:=2000000) (p:=0) (HS.p0.keep H_7.q11) (HS.q2.keep H_7.q11) HR.out.1 (HI.out.fit (by have:=HAB.out;omega) Yd) HR.out.2 (by have:=HAB.out;omega) (HI.out.good Yo (by have:=HAB.out;omega)) Yd Yd;rw [hr4] at hall;have HR4:=Lib.hid hr4;clear hr4;rw [show ((0:Nat):Int)=0 from rfl] at hall;go_wp2_with fail;refine hall.mono ?_;rintro e v4 ⟨x,y,rfl,hx,hy,hb⟩;clear hall;have hxl:=hx.lpv;obtain ⟨aA4,an4,ac4,bA4,bn4,bc4,cA4,cn4,cc4,dA4,dn4,dc4,eA4,en4,ec4,fA4,fn4,fc4,rfl,-⟩:=hxl.open;obtain ⟨U4,c4,rfl⟩:=hy.shape;clear m0 m1 m2 m3 m4 m5 m6;go_upto_region 10 with (fail)
   have hal:=Ya v4 (.cells #[.int .i64 l4.n,.slice aA4 an4 ac4,.slice bA4 bn4 bc4,.slice cA4 cn4 cc4,.slice dA4 dn4 dc4,.slice eA4 en4 ec4,.slice fA4 fn4 fc4] 26);have hbb:=Yb hb hal;have H_8:=RJ (H_7.p0.keep hbb) (H_7.p1.keep hbb) (H_7.p2.keep hbb) (H_7.p3.keep hbb) (H_7.p4.keep hbb) (H_7.p5.keep hbb) (H_7.p6.keep hbb) (H_7.p7.keep hbb) (H_7.p8.keep hbb) (H_7.p9.keep hbb) H_7.p10 (Bl.new v4 26 [.int .i64 l4.n,.slice aA4 an4 ac4,.slice bA4 bn4 bc4,.slice cA4 cn4 cc4,.slice dA4 dn4 dc4,.slice eA4 en4 ec4,.slice fA4 fn4 fc4]) (hxl.keep hal) (Yb H_7.q11 hbb);clear H_7;clear hbb hal hb hx hy hxl;generalize v4.heap.size=g18 at H_8 ⊢;generalize v4.alloc _=V4 at H_8 ⊢;have H40:Hid (l4=l/\ts4=[]):=by have h7:=HR4.out;rw [alX] at h7;cases h7;exact ⟨rfl,rfl⟩
   have hn4:ts4.length=0:=by rw [H40.q1];rfl
   rw [hn4];clear hn4;have m0:=Bl.ld H_8.p0 0 rfl;have m1:=Bl.ld H_8.p0 1 rfl;have m2:=Bl.ld H_8.p0 2 rfl;have m3:=Bl.ld H_8.p0 3 rfl;have m4:=Bl.ld H_8.p0 4 rfl;have m5:=Bl.ld H_8.p0 5 rfl;have m6:=Bl.ld H_8.p0 6 rfl;have n0:=Bl.ld H_8.p11 0 rfl;have n1:=Bl.ld H_8.p11 1 rfl;have n2:=Bl.ld H_8.p11 2 rfl;have n3:=Bl.ld H_8.p11 3 rfl;have n4:=Bl.ld H_8.p11 4 rfl;have n5:=Bl.ld H_8.p11 5 rfl;have n6:=Bl.ld H_8.p11 6 rfl;have hsame:=NS (Po H40.p0 H_8.p12) (HS.p0.keep H_8.q13);skip;go_wp2_with fail;refine hsame.mono ?_;rintro e w6 ⟨rfl,hb⟩;clear hsame n0 n1 n2 n3 n4 n5 n6;clear m0 m1 m2 m3 m4 m5 m6;have H_9:=Kd (H_8.p0.keep hb) (H_8.p1.keep hb) (H_8.p2.keep hb) (H_8.p3.keep hb) (H_8.p4.keep hb) (H_8.p5.keep hb) (H_8.p6.keep hb) (H_8.p7.keep hb) (H_8.p8.keep hb) (H_8.p9.keep hb) H_8.p10 (Yb H_8.q13 hb);clear H_8;clear hb;have n0:=Bl.ld H_9.p1 0 rfl;have n1:=Bl.ld H_9.p1 1 rfl;have n2:=Bl.ld H_9.p1 2 rfl;have n3:=Bl.ld H_9.p1 3 rfl;have n4:=Bl.ld H_9.p1 4 rfl;have n5:=Bl.ld H_9.p1 5 rfl;have n6:=Bl.ld H_9.p1 6 rfl;go_wp2_with fail;refine (MD (M:=1000000) H_9.p2 HRR1.p0 (HI1.out.fit (by have:=HAB.out;omega) Yd) Yd Yd).mono ?_;rintro e w7 ⟨⟨rc,rfl,hrc⟩,hb⟩;clear n0 n1 n2 n3 n4 n5 n6;have H_10:=JY (H_9.p0.keep hb) (H_9.p2.keep hb) (H_9.p3.keep hb) (H_9.p4.keep hb) (H_9.p5.keep hb) (H_9.p6.keep hb) (H_9.p7.keep hb) (H_9.p8.keep hb) (H_9.p9.keep hb) H_9.p10 (Yb H_9.q11 hb);clear H_9;clear hb
   cases rc with
   | true=>
    go_wp2_with fail;go_ret;exact ⟨rfl,H_10.q10⟩
   | false=>
    have HML:Hid (l2=l3/\ts1++ts2=ts3):=by
     have h7:=OX (flags:=flags) (a:=a) (b:=b) HR.out.1 (by rw [HR1.out];exact fun h=>absurd (hrc.2 h) Yd);rw [HR1.out,HR2.out,HR3.out] at h7;exact h7
    clear hrc;have n0:=Bl.ld H_10.p3 0 rfl;have n1:=Bl.ld H_10.p3 1 rfl;have n2:=Bl.ld H_10.p3 2 rfl;have n3:=Bl.ld H_10.p3 3 rfl;have n4:=Bl.ld H_10.p3 4 rfl;have n5:=Bl.ld H_10.p3 5 rfl;have n6:=Bl.ld H_10.p3 6 rfl;have m0:=Bl.ld H_10.p6 0 rfl;have m1:=Bl.ld H_10.p6 1 rfl;have m2:=Bl.ld H_10.p6 2 rfl;have m3:=Bl.ld H_10.p6 3 rfl;have m4:=Bl.ld H_10.p6 4 rfl;have m5:=Bl.ld H_10.p6 5 rfl;have m6:=Bl.ld H_10.p6 6 rfl;have hsame:=NS (Po HML.p0 H_10.p4) H_10.p7;go_wp2_with fail;refine hsame.mono ?_;rintro e w8 ⟨rfl,hb⟩;clear hsame n0 m0 n1 m1 n2 m2 n3 m3 n4 m4 n5 m5 n6 m6;have H_11:=Yh5 (H_10.p2.keep hb) (H_10.p5.keep hb) (H_10.p8.keep hb) H_10.p9 (Yb H_10.q10 hb);clear H_10;clear hb;obtain ⟨xs,hx1,hx2,-⟩:=id H_11.p0;obtain ⟨ys,hy0,hy1,hy2⟩:=_root_.Go.Proofs.YtlblnmmfphiobaaGreat.TgR.rv H_11.p1;obtain ⟨zs,hz1,hz2,-⟩:=id H_11.p2
    have hl3:xs.length+ys.length<=1048576:=by
     rw [hx2.1,hy0];have h1:=_root_.Go.Proofs.YtlblnmmfphiobaaGreat.Lg (flags:=flags) (p:=a) HR.out.1 (by have:=HF.p0.1;omega) [];have h2:=_root_.Go.Proofs.YtlblnmmfphiobaaGreat.Lg (flags:=flags) (p:=b) HRR1.p0 (by have h3:=Fc (flags:=flags) a l [] HR.out.1;rw [HR1.out] at h3;rw [h3.2.2];have:=HF.p0.1;omega) [];rw [HR1.out] at h1;rw [HR2.out] at h2;have:=HAB.out;simp only [List.length_nil] at h1 h2;have h3:a*392<=2*392:=TW _ Yo;have h4:b*392<=2*392:=TW _ Yo;omega
    have HXS:=Yh7 hx1 hx2 hy1 hy2 hl3 hz1 hz2;clear hx1 hx2 hy0 hy1 hy2 hl3 hz1 hz2;go_wp2_with (at_builtin;refine Go.BigFrame.wpList_want (by first | rfl | kernel_rfl) (fun K hK=>?_);refine Lf (w0:=w) (f:=Km.cs) (xs:=xs) (ys:=ys) Tryz.underlying50 EJ ⟨Yd,rfl,Yd⟩ Km.len Km.one (.tmp 122) (.tmp 123) rfl rfl rfl HXS.p0 HXS.p2 HXS.p4 H_11.q4 ?_;intro v6 w9 k1 k2 k3 k4;apply hK);have hA:TgL w9 v6 (ts1++ts2):=⟨_,k1.rv,(tgz HXS.p1 (k3 _ Yd) (k3 _ Yd) k2).app2 (tgz HXS.p3 (k3 _ Yd) (k3 _ Yd) k2) |>.imp fun x t ht=>⟨ht.1,ht.2.1,ht.2.2.1,ht.2.2.2.1.fw.fv,ht.2.2.2.2.uv⟩⟩;have hC:TgL w9 (.slice U3 ts3.length c3) ts3:=⟨zs,(Rr.stay HXS.p5 H_11.p3 k4).rv,(tgz HXS.q6 (k3 _ Yd) (k3 _ Yd) k2).imp fun x t ht=>⟨ht.1,ht.2.1,ht.2.2.1,ht.2.2.2.1.fw.fv,ht.2.2.2.2.uv⟩⟩;rw [HML.q1] at hA;have H9:=Yh3 hA hC k2;clear hA hC k1 k2 k3 k4 HXS;go_wp2_with fail;refine (Qi H9.p0 H9.p1).mono ?_;rintro e w10 ⟨rfl,hb⟩;have HE:=Lib.hid (Yb H9.q2 hb);clear hb H9;go_wp2_with fail;go_ret;exact ⟨rfl,HE.out⟩
end I
end
section
open Go Go.ChangeShapes Go.WideShapes Go.ChangeAt Go.RowKit Pl
section
variable {H:Type} {enc:TypeId × Value->H} {W W':World} {base:Nat} {v:Value} {d:DataW H} {p:List MemPlace}
def Wg (t:TypeId) (d:DataW H):Prop:=∀ x∈d.weights Tryz.prog t,x<=reachBytes
theorem Pj {e:TypeId} {ds:List (DataW H)} {d:DataW H} (hd:d∈ds) {x:Nat} (hx:x∈d.weights Tryz.prog e):x∈DataW.weightsAll Tryz.prog e ds:=by
 induction ds with
 | nil=>cases hd
 | cons y r ih=>
  simp only [DataW.weightsAll,Uw]
  rcases Ue.1 hd with rfl | h
  · exact .inl hx
  · exact .inr (ih h)
theorem Wg.slice {t e:TypeId} {es sp:List (DataW H)} (ht:Tryz.prog.underlying t=some (.slice e)) (h:Wg t (.slice es sp)):(es.length+sp.length)*Tryz.prog.bytesOf e<=reachBytes/\∀ d∈es,Wg e d:=by
 have e1:(DataW.slice es sp).weights Tryz.prog t=(es.length+sp.length)*Tryz.prog.bytesOf e::(DataW.weightsAll Tryz.prog e es++DataW.weightsAll Tryz.prog e sp):=by
  simp only [DataW.weights,ht]
 unfold Wg at h;rw [e1] at h;refine ⟨h _ (Vu ..),fun d hd x hx=>h x (UR _ (VU _ (Pj hd hx)))⟩
theorem Wg.agg {t:TypeId} {fs:Array Field} {ps:List (DataW H)} (ht:Tryz.prog.underlying t=some (.struct fs)) (h:Wg t (.agg ps)):∀ x∈DataW.weightsEach Tryz.prog (fs.toList.map (·.type)) ps,x<=reachBytes:=by
 have e1:(DataW.agg ps).weights Tryz.prog t=DataW.weightsEach Tryz.prog (fs.toList.map (·.type)) ps:=by
  simp only [DataW.weights,ht]
 unfold Wg at h;rw [e1] at h;exact h
theorem AV {t:TypeId} {ts:List TypeId} {d:DataW H} {r:List (DataW H)} (h:∀ x∈DataW.weightsEach Tryz.prog (t::ts) (d::r),x<=reachBytes):Wg t d/\∀ x∈DataW.weightsEach Tryz.prog ts r,x<=reachBytes:=by
 simp only [DataW.weightsEach,Uw] at h;exact ⟨fun x hx=>h x (.inl hx),fun x hx=>h x (.inr hx)⟩
theorem Gu {α:Type} [Inhabited α] {t e:TypeId} {s:Nat} {fuel:Nat} {y:DataW H × List MemPlace} (f:α->List Value) (Px:α->DataW H->Prop) (ht:Tryz.prog.underlying t=some (.slice e)) (hs:Tryz.prog.cellsOf e=s) (hf:∀ x,(f x).length=s) (h0:0<s)
 (hel:∀ n cs z,cs.length=s->DataW.trod enc Tryz.prog W 0 (fun _=>true) true n e cs=some z->∃ x,f x=cs/\Px x z.1)
 (h:DataW.trod enc Tryz.prog W 0 (fun _=>true) true fuel t [v]=some y):
 ∃ xs:List α,Rv W f v xs/\(Wg t y.1->xs.length*Tryz.prog.bytesOf e<=reachBytes/\∀ x∈xs,∃ d,Px x d/\Wg e d)/\∀ x∈xs,∃ d,Px x d:=by
 rcases Go.Deep.open_slice ht h with ⟨hcs,hx⟩ | ⟨a,len,cap,m,n,D,Pl,hcs,-,hl,hm,hmm,hx,hi⟩
 · obtain rfl:v=.slice none 0 0:=by simpa using hcs
   exact ⟨[],⟨none,0,rfl,TL _,Un _,fun _=>rfl,.inl rfl⟩,fun _=>⟨by simp,by simp⟩,by simp⟩
 · obtain rfl:v=.slice (some a) len cap:=by simpa using hcs
   have hlm:len<=m:=by simp only [if_true] at hmm;omega
   obtain ⟨X,hX⟩:=Go.Deep.choose_lt (α:=α) (n:=len) (p:=fun i x=>(∀ j u,(f x)[j]?=some u->W.cell? ((a.add (i*s)).add j)=some u)/\Px x (D i)) (fun i hil=>by
    obtain ⟨cs',h1,h2⟩:=hi i Yo;rw [hs] at h1;obtain ⟨-,h3,h4⟩:=World.cells?_some h1;obtain ⟨x,hx1,hx2⟩:=hel _ _ _ h3 h2;refine ⟨x,fun j u hj=>?_,hx2⟩;rw [hx1] at hj;have hjs:j<s:=by rw [<- h3];exact (List.getElem?_eq_some_iff.1 hj).1
    rw [h4 j hjs];exact hj)
   refine ⟨(List.range len).map X,⟨some a,cap,by simp,by simpa using hl,hm,by simp,?_⟩,fun hw=>⟨?_,fun x hx'=>?_⟩,fun x hx'=>?_⟩
   · rcases TQ len with hz | hp
     · left;subst hz;rfl
     · have c0:=(hX 0 hp).1 0;have hfx:∃ u,(f (X 0))[0]?=some u:=⟨_,List.getElem?_eq_getElem (by rw [hf];exact h0)⟩;obtain ⟨u0,hu0⟩:=hfx;have c0:=c0 u0 hu0;obtain ⟨b,off,spot⟩:=a;have hspot:spot=none:=by simpa [Addr.add] using World.cell?_spot c0
       subst hspot;refine .inr ⟨b,off,rfl,?_,fun i u hu=>?_⟩
       · have:=World.block_lt_of_cell? W _ c0
         simpa [Addr.add] using this
       · have hlen:i<len*s:=by
          have:=(List.getElem?_eq_some_iff.1 hu).1;rw [Dx hf,Uz,List.length_range] at this;exact this
         have hi1:i / s<len:=(Nat.div_lt_iff_lt_mul h0).2 hlen;have hi2:i % s<s:=UB _ h0;have hxi:((List.range len).map X)[i / s]?=some (X (i / s)):=by rw [List.getElem?_map,List.getElem?_range hi1];rfl
         obtain ⟨u',hu'⟩:∃ u',(f (X (i / s)))[i % s]?=some u':=⟨_,List.getElem?_eq_getElem (by rw [hf];exact hi2)⟩;have e2:=I4 hf hxi hu';have e3:i / s*s+i % s=i:=by rw [TX];exact Uu i s
         rw [e3] at e2;rw [e2] at hu;have hc:=(hX (i / s) hi1).1 (i % s) u' hu';rw [Go.Deep.add_add,e3,Go.WideShapes.add_plain] at hc;rw [<- Option.some.inj hu];exact hc
   · rw [hx] at hw;have:=(Wg.slice ht hw).1;simp only [Uz,List.length_range] at this ⊢;exact TP (TW _ (VF ..)) this
   · rw [hx] at hw;obtain ⟨i,hi',rfl⟩:=UP.1 hx';have hil:=UY.1 hi';exact ⟨D i,(hX i hil).2,(Wg.slice ht hw).2 _ (UP.2 ⟨i,hi',rfl⟩)⟩
   · obtain ⟨i,hi',rfl⟩:=UP.1 hx';exact ⟨D i,(hX i (UY.1 hi')).2⟩
end
end
section
open Go Go.ChangeShapes Go.WideShapes Go.ChangeAt Go.RowKit Pl
section
variable {H:Type} {enc:TypeId × Value->H} {W W':World} {base:Nat} {v:Value} {d:DataW H} {p:List MemPlace}
theorem QX {P:Program} {w:World} {b:Nat} {sp:Nat->Bool} {hd:Bool} {t:TypeId} {f0 f1 f2 f3 f4 f5 f6:Field} {fuel:Nat} {cs:List Value} {x:DataW H × List MemPlace} (ht:P.underlying t=some (.struct #[f0,f1,f2,f3,f4,f5,f6])) (h:DataW.trod enc P w b sp hd fuel t cs=some x):
 ∃ y0 y1 y2 y3 y4 y5 y6 n,x.1=.agg [y0.1,y1.1,y2.1,y3.1,y4.1,y5.1,y6.1]/\cs.length=P.cellsOf t/\DataW.trod enc P w b sp hd n f0.type ((cs.drop f0.offset).take (P.cellsOf f0.type))=some y0/\DataW.trod enc P w b sp hd n f1.type ((cs.drop f1.offset).take (P.cellsOf f1.type))=some y1/\DataW.trod enc P w b sp hd n f2.type ((cs.drop f2.offset).take (P.cellsOf f2.type))=some y2/\DataW.trod enc P w b sp hd n f3.type ((cs.drop f3.offset).take (P.cellsOf f3.type))=some y3/\DataW.trod enc P w b sp hd n f4.type ((cs.drop f4.offset).take (P.cellsOf f4.type))=some y4/\DataW.trod enc P w b sp hd n f5.type ((cs.drop f5.offset).take (P.cellsOf f5.type))=some y5/\DataW.trod enc P w b sp hd n f6.type ((cs.drop f6.offset).take (P.cellsOf f6.type))=some y6:=by
 obtain ⟨xs,n,_,rfl,hl,hlen,hf⟩:=DataW.trod_struct ht h
 match xs,hlen with
 | [y0,y1,y2,y3,y4,y5,y6],_=>exact ⟨y0,y1,y2,y3,y4,y5,y6,n,by simp,hl,by simpa using hf 0 f0 rfl,by simpa using hf 1 f1 rfl,by simpa using hf 2 f2 rfl,by simpa using hf 3 f3 rfl,by simpa using hf 4 f4 rfl,by simpa using hf 5 f5 rfl,by simpa using hf 6 f6 rfl⟩
theorem SW {α:Type} {l:List α} (h:l.length=3):∃ a b c,l=[a,b,c]:=by
 match l,h with
 | [a,b,c],_=>exact ⟨a,b,c,rfl⟩
theorem Tb {α:Type} {l:List α} (h:l.length=4):∃ a b c d,l=[a,b,c,d]:=by
 match l,h with
 | [a,b,c,d],_=>exact ⟨a,b,c,d,rfl⟩
theorem Td {α:Type} {l:List α} (h:l.length=7):∃ a b c d e f g,l=[a,b,c,d,e,f,g]:=by
 match l,h with
 | [a,b,c,d,e,f,g],_=>exact ⟨a,b,c,d,e,f,g,rfl⟩
theorem EB {α β:Type} {P:α->β->Prop}:∀ {xs:List α},(∀ x∈xs,∃ y,P x y)->∃ ys,Bd P xs ys
 | [],_=>⟨[],Bd.nil⟩
 | x::xs,h=>by
  obtain ⟨y,hy⟩:=h x (Vu ..);obtain ⟨ys,hl,hz⟩:=EB fun z hz=>h z (UR _ hz);refine ⟨y::ys,by simp [hl],fun i a b ha hb=>?_⟩
  cases i with
  | zero=>rw [List.getElem?_cons_zero] at ha hb;cases ha;cases hb;exact hy
  | succ i=>rw [List.getElem?_cons_succ] at ha hb;exact hz i a b ha hb
theorem IE {α β:Type} {P:α->β->Prop} {xs:List α} {ys:List β} (h:Bd P xs ys) {y:β} (hy:y∈ys):∃ x∈xs,P x y:=by
 obtain ⟨i,hi⟩:=List.getElem?_of_mem hy;obtain ⟨x,hx,hp⟩:=h.left hi;exact ⟨x,TO hx,hp⟩
def wcs (n:Nat):List Value:=[.int .u64 (n:Int)]
theorem Ko {n:Nat} (h:n*Tryz.prog.bytesOf 146<=reachBytes):n<=17592186044416:=by
 rw [show Tryz.prog.bytesOf 146=8 by kernel_rfl] at h;unfold reachBytes at h;omega
set_option maxRecDepth 1000000 in
theorem Lw {fuel:Nat} {y:DataW H × List MemPlace} (h:DataW.trod enc Tryz.prog W 0 (fun _=>true) true fuel 32 [v]=some y):∃ xs,Nl W v xs/\(Wg 32 y.1->xs.length<=17592186044416):=by
 obtain ⟨xs,⟨A,cap,e1,h2,h3,h4,h5⟩,h6,h7⟩:=Gu (α:=Nat) (s:=1) wcs (fun x _=>x<WB) Tryz.underlying32 (by kernel_rfl) (fun _=>rfl) Yd (fun n cs z hl hz=>by
  obtain ⟨k,hk,-,hw⟩:=DataW.trod_int Tryz.underlying146 hz;have hb:=bounds_u64 hw;refine ⟨k.toNat,?_,by rw [Bz];omega⟩;rw [hk];show [Value.int .u64 ((k.toNat:Nat):Int)]=_;rw [Int.toNat_of_nonneg hb.1]) h
 refine ⟨xs,⟨A,cap,e1,⟨fun x hx=>?_,?_⟩,h2,h3,h4⟩,fun hw=>Ko (h6 hw).1⟩
 · obtain ⟨_,hd⟩:=h7 x hx;exact hd
 · rcases h5 with h5 | ⟨g,o,e,hg,hc⟩
   · left;have:=congrArg List.length h5;rw [Dx (s:=1) (fun _=>rfl)] at this;exact TN (by simpa using this)
   · exact .inr ⟨g,o,e,fun j x hj=>by
      have:=I4 (f:=wcs) (s:=1) (fun _=>rfl) hj (j:=0) (u:=.int .u64 (x:Int)) rfl;rw [Vk,UE] at this;exact hc j _ this⟩
def Cnt (f:Fx):Prop:=f.xs.length<=17592186044416/\f.ds.length<=17592186044416
set_option maxRecDepth 1000000 in
theorem Il {n:Nat} {cs:List Value} {z:DataW H × List MemPlace} (h:DataW.trod enc Tryz.prog W 0 (fun _=>true) true n 36 cs=some z):∃ x:Rm,x.cs=cs/\∃ f,Fv W x.num f/\(Wg 36 z.1->Cnt f):=by
 obtain ⟨y0,y1,m,rfl,hl,h0,h1⟩:=trod_struct2 Tryz.underlying36 h;obtain ⟨c0,c1,c2,rfl⟩:=SW (hl.trans (show Tryz.prog.cellsOf 36=3 by kernel_rfl));have e0:Tryz.prog.cellsOf 34=2:=by kernel_rfl
 have e1:Tryz.prog.cellsOf 32=1:=by kernel_rfl
 simp only [e0,e1] at h0 h1;obtain ⟨z0,z1,k,rfl,-,g0,g1⟩:=trod_struct2 Tryz.underlying34 h0;have e2:Tryz.prog.cellsOf 4=1:=by kernel_rfl
 simp only [e1,e2] at g0 g1;obtain ⟨b,e3,-⟩:=DataW.trod_bool Tryz.underlying4 g0;obtain rfl:c0=.bool b:=by simpa using e3
 obtain ⟨xs,hxs,b1⟩:=Lw (v:=c1) (by simpa using g1);obtain ⟨ds,hds,b2⟩:=Lw (v:=c2) (by simpa using h1);obtain ⟨A,c,rfl,-⟩:=hxs.shape;obtain ⟨B,k',rfl,-⟩:=hds.shape;refine ⟨⟨b,A,xs.length,c,B,ds.length,k'⟩,rfl,⟨b,xs,ds⟩,⟨_,_,rfl,hxs,hds⟩,fun hw=>?_⟩;have w0:=Wg.agg Tryz.underlying36 hw;obtain ⟨w1,w2⟩:=AV w0;obtain ⟨w3,-⟩:=AV w2;have w4:=Wg.agg Tryz.underlying34 w1;obtain ⟨-,w5⟩:=AV w4;obtain ⟨w6,-⟩:=AV w5;exact ⟨b1 w6,b2 w3⟩
instance:Inhabited Rm:=⟨⟨false,none,0,0,none,0,0⟩⟩
instance:Inhabited Tm:=⟨⟨0,false,none,0,0,none,0,0,0⟩⟩
instance:Inhabited Sl:=⟨⟨none,0,0⟩⟩
instance:Inhabited Um:=⟨⟨0,false,false,none,0,0,none,0,0⟩⟩
theorem Im:Tryz.prog.cellsOf 3=1:=by kernel_rfl
theorem Io:Tryz.prog.cellsOf 36=3:=by kernel_rfl
set_option maxRecDepth 1000000 in
theorem La {fuel:Nat} {y:DataW H × List MemPlace} (h:DataW.trod enc Tryz.prog W 0 (fun _=>true) true fuel 24 [v]=some y):∃ fs,Rx W v fs/\(Wg 24 y.1->∀ f∈fs,Cnt f):=by
 obtain ⟨xs,h1,h2,h3⟩:=Gu (α:=Rm) (s:=3) Rm.cs (fun x d=>∃ f,Fv W x.num f/\(Wg 36 d->Cnt f)) Tryz.underlying24 Io Rm.len Yd (fun n cs z hl hz=>Il hz) h;by_cases hw:Wg 24 y.1
 · obtain ⟨fs,hz⟩:=EB (P:=fun (x:Rm) f=>Fv W x.num f/\Cnt f) (fun x hx=>by
    obtain ⟨d,⟨f,hf1,hf2⟩,hd⟩:=(h2 hw).2 x hx;exact ⟨f,hf1,hf2 hd⟩)
   exact ⟨fs,⟨xs,h1,hz.imp fun x f hf=>hf.1⟩,fun _ f hf=>by obtain ⟨x,-,hx⟩:=IE hz hf;exact hx.2⟩
 · obtain ⟨fs,hz⟩:=EB (P:=fun (x:Rm) f=>Fv W x.num f) (fun x hx=>by
    obtain ⟨d,f,hf1,-⟩:=h3 x hx;exact ⟨f,hf1⟩)
   exact ⟨fs,⟨xs,h1,hz⟩,fun hw'=>absurd hw' hw⟩
set_option maxRecDepth 1000000 in
theorem Kl {n:Nat} {cs:List Value} {z:DataW H × List MemPlace} (h:DataW.trod enc Tryz.prog W 0 (fun _=>true) true n 63 cs=some z):∃ x:Tm,x.cs=cs/\∃ t:Int × Fx,(x.c=t.1/\x.q=t.2.q/\Fv W x.num t.2)/\(Wg 63 z.1->Cnt t.2):=by
 obtain ⟨y0,y1,m,rfl,hl,h0,h1⟩:=trod_struct2 Tryz.underlying63 h;obtain ⟨c0,c1,c2,c3,rfl⟩:=Tb (hl.trans (show Tryz.prog.cellsOf 63=4 by kernel_rfl));simp only [Im,Io] at h0 h1;obtain ⟨k,e0,-,-⟩:=DataW.trod_int Tryz.underlying3 h0;obtain rfl:c0=.int .i64 k:=by simpa using e0
 obtain ⟨x,hx,f,hf,hc⟩:=Il h1;have hx0:x.cs=[c1,c2,c3]:=by simpa using hx
 have hx:[.bool x.b,.slice x.A x.l x.k,.slice x.B x.m x.d]=[c1,c2,c3]:=hx0;injection hx with e1 hx
 injection hx with e2 hx
 injection hx with e3 hx
 subst e1;subst e2;subst e3;refine ⟨⟨k,x.b,x.A,x.l,x.k,x.B,x.m,x.d,f.q⟩,rfl,(k,f),⟨rfl,rfl,hf⟩,fun hw=>?_⟩;have w0:=Wg.agg Tryz.underlying63 hw;obtain ⟨-,w2⟩:=AV w0;obtain ⟨w3,-⟩:=AV w2;exact hc w3
set_option maxRecDepth 1000000 in
theorem Qu {fuel:Nat} {y:DataW H × List MemPlace} (h:DataW.trod enc Tryz.prog W 0 (fun _=>true) true fuel 54 [v]=some y):∃ ts,Tx W v ts/\(Wg 54 y.1->∀ t∈ts,Cnt t.2):=by
 obtain ⟨xs,h1,h2,h3⟩:=Gu (α:=Tm) (s:=4) Tm.cs (fun x d=>∃ t:Int × Fx,(x.c=t.1/\x.q=t.2.q/\Fv W x.num t.2)/\(Wg 63 d->Cnt t.2)) Tryz.underlying54 (by kernel_rfl) Tm.len Yd (fun n cs z hl hz=>Kl hz) h;by_cases hw:Wg 54 y.1
 · obtain ⟨fs,hz⟩:=EB (P:=fun (x:Tm) (t:Int × Fx)=>(x.c=t.1/\x.q=t.2.q/\Fv W x.num t.2)/\Cnt t.2) (fun x hx=>by
    obtain ⟨d,⟨f,hf1,hf2⟩,hd⟩:=(h2 hw).2 x hx;exact ⟨f,hf1,hf2 hd⟩)
   exact ⟨fs,⟨xs,h1,hz.imp fun x f hf=>hf.1⟩,fun _ f hf=>by obtain ⟨x,-,hx⟩:=IE hz hf;exact hx.2⟩
 · obtain ⟨fs,hz⟩:=EB (P:=fun (x:Tm) (t:Int × Fx)=>(x.c=t.1/\x.q=t.2.q/\Fv W x.num t.2)) (fun x hx=>by
    obtain ⟨d,f,hf1,-⟩:=h3 x hx;exact ⟨f,hf1⟩)
   exact ⟨fs,⟨xs,h1,hz⟩,fun hw'=>absurd hw' hw⟩
set_option maxRecDepth 1000000 in
theorem R9 {fuel:Nat} {y:DataW H × List MemPlace} (h:DataW.trod enc Tryz.prog W 0 (fun _=>true) true fuel 22 [v]=some y):∃ cs,Gx W v cs/\(Wg 22 y.1->∀ c∈cs,∀ t∈c,Cnt t.2):=by
 obtain ⟨xs,h1,h2,h3⟩:=Gu (α:=Sl) (s:=1) Sl.cs (fun x d=>∃ ts,Tx W x.v ts/\(Wg 54 d->∀ t∈ts,Cnt t.2)) Tryz.underlying22 (by kernel_rfl) Sl.len Yd (fun n cs z hl hz=>by
  match cs,hl with
  | [c],_=>
   obtain ⟨ts,ht,hw⟩:=Qu hz;obtain ⟨A,cap,rfl,-⟩:=ht.shape;exact ⟨⟨A,ts.length,cap⟩,rfl,ts,ht,hw⟩) h
 by_cases hw:Wg 22 y.1
 · obtain ⟨fs,hz⟩:=EB (P:=fun (x:Sl) (ts:List (Int × Fx))=>Tx W x.v ts/\∀ t∈ts,Cnt t.2) (fun x hx=>by
    obtain ⟨d,⟨f,hf1,hf2⟩,hd⟩:=(h2 hw).2 x hx;exact ⟨f,hf1,hf2 hd⟩)
   exact ⟨fs,⟨xs,h1,hz.imp fun x f hf=>hf.1⟩,fun _ f hf=>by obtain ⟨x,-,hx⟩:=IE hz hf;exact hx.2⟩
 · obtain ⟨fs,hz⟩:=EB (P:=fun (x:Sl) (ts:List (Int × Fx))=>Tx W x.v ts) (fun x hx=>by
    obtain ⟨d,f,hf1,-⟩:=h3 x hx;exact ⟨f,hf1⟩)
   exact ⟨fs,⟨xs,h1,hz⟩,fun hw'=>absurd hw' hw⟩
set_option maxRecDepth 1000000 in
theorem I0 {fuel:Nat} {y:DataW H × List MemPlace} (h:DataW.trod enc Tryz.prog W 0 (fun _=>true) true fuel 23 [v]=some y):∃ bs,Ex W v bs/\(Wg 23 y.1->bs.length<=140737488355328):=by
 obtain ⟨xs,h1,h2,-⟩:=Gu (α:=Bool) (s:=1) bcs (fun _ _=>True) Tryz.underlying23 (by kernel_rfl) Ge Yd (fun n cs z hl hz=>by
  obtain ⟨b,e,-⟩:=DataW.trod_bool Tryz.underlying4 hz;exact ⟨b,e.symm,trivial⟩) h
 exact ⟨xs,h1,fun hw=>by
  have:=(h2 hw).1;rw [show Tryz.prog.bytesOf 4=1 by kernel_rfl] at this;unfold reachBytes at this;omega⟩
theorem MI:Tryz.prog.cellsOf 22=1:=by kernel_rfl
theorem Nb:Tryz.prog.cellsOf 23=1:=by kernel_rfl
theorem Nr:Tryz.prog.cellsOf 24=1:=by kernel_rfl
set_option maxRecDepth 1000000 in
theorem St (hval:Value.okWide Tryz.prog W .any base 26 v) (h:DataW.Trod enc Tryz.prog W 0 (fun _=>true) true 26 v d p):∃ l,LPv W v l/\(Wg 26 d->Sw l/\l.hasLo.length<=140737488355328/\l.hasHi.length<=140737488355328):=by
 obtain ⟨cs,rfl,hsz⟩:=okWide_struct Tryz.underlying26 hval;obtain ⟨fuel,hf⟩:=h;obtain ⟨y0,y1,y2,y3,y4,y5,y6,n,hx,hl,h0,h1,h2,h3,h4,h5,h6⟩:=QX Tryz.underlying26 hf;obtain ⟨l⟩:=cs;have hl:l.length=7:=hsz.trans (show Tryz.prog.cellsOf 26=7 by kernel_rfl);obtain ⟨c0,c1,c2,c3,c4,c5,c6,rfl⟩:=Td hl;simp only [Im,MI,Nb,Nr] at h0 h1 h2 h3 h4 h5 h6;obtain ⟨k,e0,-,-⟩:=DataW.trod_int Tryz.underlying3 h0;obtain rfl:c0=.int .i64 k:=by simpa [Value.cells] using e0
 obtain ⟨cols,g1,w1⟩:=R9 (v:=c1) (by simpa [Value.cells] using h1);obtain ⟨bl,g2,w2⟩:=I0 (v:=c2) (by simpa [Value.cells] using h2);obtain ⟨bh,g3,w3⟩:=I0 (v:=c3) (by simpa [Value.cells] using h3);obtain ⟨lo,g4,w4⟩:=La (v:=c4) (by simpa [Value.cells] using h4);obtain ⟨hi,g5,w5⟩:=La (v:=c5) (by simpa [Value.cells] using h5);obtain ⟨co,g6,w6⟩:=La (v:=c6) (by simpa [Value.cells] using h6);obtain ⟨A1,k1,rfl,-⟩:=g1.shape;obtain ⟨A2,k2,rfl,-⟩:=g2.shape;obtain ⟨A3,k3,rfl,-⟩:=g3.shape;obtain ⟨A4,k4,rfl,-⟩:=g4.shape;obtain ⟨A5,k5,rfl,-⟩:=g5.shape;obtain ⟨A6,k6,rfl,-⟩:=g6.shape;refine ⟨⟨k,cols,bl,bh,lo,hi,co⟩,⟨⟨k,⟨A1,_,k1⟩,⟨A2,_,k2⟩,⟨A3,_,k3⟩,⟨A4,_,k4⟩,⟨A5,_,k5⟩,⟨A6,_,k6⟩⟩,rfl,rfl,g1,g2,g3,g4,g5,g6⟩,fun hw=>?_⟩;have hd:d=.agg [y0.1,y1.1,y2.1,y3.1,y4.1,y5.1,y6.1]:=hx;rw [hd] at hw;have u0:=Wg.agg Tryz.underlying26 hw;obtain ⟨-,u1⟩:=AV u0;obtain ⟨v1,u2⟩:=AV u1;obtain ⟨v2,u3⟩:=AV u2;obtain ⟨v3,u4⟩:=AV u3;obtain ⟨v4,u5⟩:=AV u4;obtain ⟨v5,u6⟩:=AV u5;obtain ⟨v6,-⟩:=AV u6;refine ⟨⟨fun c hc t ht=>?_,fun f hf=>?_⟩,w2 v2,w3 v3⟩
 · have:=w1 v1 c hc t ht;exact ⟨TP this.1 Yd,TP this.2 Yd⟩
 · have:Cnt f:=by
    rcases hf with hf | hf | hf
    · exact w4 v4 f hf
    · exact w5 v5 f hf
    · exact w6 v6 f hf
   exact ⟨TP this.1 Yd,TP this.2 Yd⟩
end
end
section
open Go Go.ChangeShapes Go.WideShapes Go.ChangeAt Go.RowKit Pl
theorem own:ownKnob Tryz.prog.godebug=none:=by kernel_rfl
theorem QC:laidOutB Tryz.prog=true:=by kernel_rfl
section
variable {H:Type} {enc:TypeId × Value->H} {W W':World} {base:Nat} {v:Value} {d:DataW H} {p:List MemPlace}
theorem LK {t:TypeId} (hr:Tryz.prog.readableRec t=true) (hrow:t<Tryz.prog.types.size) (h:DataW.Trod enc Tryz.prog W 0 (fun _=>true) true t v d p) (hb:Below W.heap.size W W') (hlt:∀ x∈p,x.block<W.heap.size) {sp:Nat->Bool} (hsp:∀ x∈p,sp x.block=true):
 DataW.Trod enc Tryz.prog W' 0 sp true t v d p:=
 WideElems.Trod_stays QC hr hrow h (fun x hx=>hb.same (hlt x hx)) hsp
end
end
section
open Go Go.ChangeShapes Go.WideShapes Go.ChangeAt Go.RowKit Pl
section
variable {H:Type} {enc:TypeId × Value->H} {W W':World} {base:Nat} {v:Value} {d:DataW H} {p:List MemPlace}
set_option maxRecDepth 1000000 in
theorem MH (hval:Value.okWide Tryz.prog W .any base 23 v) (h:DataW.Trod enc Tryz.prog W 0 (fun _=>true) true 23 v d p):∃ bs,Ex W v bs/\(Wg 23 d->bs.length<=140737488355328):=by
 obtain ⟨a,len,cap,rfl⟩:=okWide_slice Tryz.underlying23 hval;obtain ⟨fuel,hf⟩:=h;exact I0 (y:=(d,p)) (by simpa [Value.cells] using hf)
set_option maxRecDepth 1000000 in
theorem PQ (hval:Value.okWide Tryz.prog W .any base 70 v) (h:DataW.Trod enc Tryz.prog W 0 (fun _=>true) true 70 v d p):∃ a b:Int,v=.agg #[.int .i64 a,.int .i64 b]:=by
 have ht:Tryz.prog.underlying 70=some (.array 2 3):=by kernel_rfl
 simp only [Value.okWide,ht] at hval;obtain ⟨cs,rfl,hsz,-⟩:=hval;obtain ⟨fuel,hf⟩:=h;have hc1:Tryz.prog.cellsOf 3=1:=by kernel_rfl
 obtain ⟨xs,m,-,-,hl,hn,hel⟩:=DataW.trod_array ht hf;obtain ⟨l⟩:=cs;have hl:l.length=2:=hsz.trans (show Tryz.prog.cellsOf 70=2 by kernel_rfl)
 obtain ⟨c0,c1,rfl⟩:∃ a b,l=[a,b]:=by
  match l,hl with
  | [a,b],_=>exact ⟨a,b,rfl⟩
 obtain ⟨x0,x1,rfl⟩:∃ a b,xs=[a,b]:=by
  match xs,hn with
  | [a,b],_=>exact ⟨a,b,rfl⟩
 have h0:=hel 0 Yd;have h1:=hel 1 Yd;rw [hc1] at h0 h1;have h0:DataW.trod enc Tryz.prog W 0 (fun _=>true) true m 3 [c0]=some x0:=by simpa [Value.cells] using h0
 have h1:DataW.trod enc Tryz.prog W 0 (fun _=>true) true m 3 [c1]=some x1:=by simpa [Value.cells] using h1
 obtain ⟨a,e0,-⟩:=DataW.trod_int Tryz.underlying3 h0;obtain ⟨b,e1,-⟩:=DataW.trod_int Tryz.underlying3 h1;injection e0 with e0
 injection e1 with e1
 exact ⟨a,b,by rw [e0,e1]⟩
end
end
end Go.Proofs.YtlblnmmfphiobaaGreat
