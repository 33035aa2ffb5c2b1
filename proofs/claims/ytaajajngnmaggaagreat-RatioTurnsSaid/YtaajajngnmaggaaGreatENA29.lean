import Derived.Test.YtaajajngnmaggaaGreatENA28
import Derived.Test.YtaajajngnmaggaaGreatRows
import Derived.Deep.Slices
import Derived.Deep.Strs
import Derived.OpenShut
import Derived.ChangeArms
import Derived.ShutString
set_option maxRecDepth 100000
set_option maxHeartbeats 8000000
set_option linter.unusedVariables false
set_option linter.unusedSimpArgs false
namespace Go.Proofs.YtaajajngnmaggaaGreat
section
section
open Go Go.RowKit Go.Proofs Pl
namespace I
theorem ints_d {w:World} {u v:Value} {xs:List Int} (ha:Iv w u xs) (hb:Iv w v xs) (hl:xs.length<=1000):
 Calls Tryz.prog 38 #[u,v] w fun e w'=>e=.returned (.bool true)/\Yg w w':=by
 obtain ⟨A,ca,rfl,-,-⟩:=ha.shape
 obtain ⟨B,cb,rfl,-,-⟩:=hb.shape
 obtain ⟨n,hn⟩:∃ n,xs.length=n:=⟨_,rfl⟩
 rw [hn] at ha hb hl ⊢
 have HS:=Yh3 ha hb hn
 have HL:=Lib.hid hl
 clear ha hb hn
 go_enter Tryz.func38,Tryz.ntmps38
 have hnn:((n:Int) !=(n:Int))=false:=by simp
 go_wp2_with fail
 go_loopw [5] (fun z wr=>∃ k:Nat,z=.int .i64 (k:Int)/\k<=n/\Hid (Yg w wr)) (fun z _=>n - (intOf z).toNat)
 case atStart=>exact ⟨0,rfl,Nat.zero_le _,Below.refl _ _⟩
 case round=>
  obtain ⟨k,rfl,hk,H⟩:=hrel
  have hl:=HL.out
  by_cases hlt:k<n
  · skip
    obtain ⟨x,h0⟩:∃ x,xs[k]?=some x:=⟨_,List.getElem?_eq_getElem (by rw [HS.q2];exact hlt)⟩
    obtain ⟨gu,ou,_,e,hgu,cu0⟩:=HS.p0.at_ h0
    rw [HS.q2] at e
    injection e with e1 e2 e3
    subst e1
    clear e2 e3
    obtain ⟨gy,oy,_,e,hgy,cy0⟩:=HS.p1.at_ h0
    rw [HS.q2] at e
    injection e with e1 e2 e3
    subst e1
    clear e2 e3
    have HC:Hid (∀ W,Yg w W->W.cell? ⟨gu,ou+k,none⟩=some (.int .i64 x)/\W.cell? ⟨gy,oy+k,none⟩=some (.int .i64 x)):=fun W b=>⟨(b.cell (p:=⟨gu,ou+k,none⟩) hgu).trans cu0,(b.cell (p:=⟨gy,oy+k,none⟩) hgy).trans cy0⟩
    clear h0 hgu hgy cu0 cy0
    have hxx:(x !=x)=false:=by simp
    have ix:(k:Int)<(n:Int):=Yo
    go_upto_region 6 with (fail)
    refine flow (fun W=>Yg wr W/\W.cell? ⟨gu,ou+k,none⟩=some (.int .i64 x)/\W.cell? ⟨gy,oy+k,none⟩=some (.int .i64 x)) (fun _ _=>True) (fun _ _=>False) 0 [⟨[],[(0,17),(1,18),(2,19),(3,20),(4,21),(5,22),(6,23),(7,24),(8,25)],[],[]⟩] [] [] ⟨[],[(0,17),(1,18),(2,19),(3,20),(4,21),(5,22),(6,23),(7,24),(8,25)],[],[]⟩ ⟨below_nil,HC.out _ (Yb H.out below_nil)⟩ (trivial) (fun _ _ h b=>⟨(Yb h.1 b),HC.out _ (Yb H.out (Yb h.1 b))⟩) (fun _ _ _ h _=>h) trivial ⟨?_,trivial⟩ trivial trivial ?_
    · rintro W hS
      refine gvN ?_;(repeat refine flA ?_);refine flN (flN ?_)
      exact flL
    rintro W hS -
    have hS:=hS flY
    refine gvN ?_;(repeat refine flA ?_);refine flN (flN ?_)
    obtain ⟨W7,hWW⟩:∃ X,X=W:=⟨_,rfl⟩
    subst hWW
    have HB:=Lib.hid (Yb H.out hS.1)
    clear hS
    go_wp2_with fail
    case roundEnd=>exact ⟨⟨k+1,by go_num,Yo,HB.out⟩,by simp [intOf];omega⟩
  obtain rfl:k=n:=by omega
  go_wp2_with fail
  go_ret
  exact ⟨rfl,H.out⟩
end I
end
end
section
section
open Go Go.RowKit Go.Proofs Pl
theorem same_l {w:World} {a b:Value} {l:LPx} (h:LPv w a l) (h':LPv w b l):
 Calls Tryz.prog 17 #[a,b] w fun e w'=>e=.returned (.bool true)/\Yg w w':=by
 obtain ⟨aA,an,ac,bA,bn,bc,cA,cn,cc,dA,dn,dc,eA,en,ec,fA,fn,fc,rfl,hP,hla,hlb,hlc,hld,hle,hlf,hma,hmb,hmc,hmd,hme,hmf⟩:=h.open
 obtain ⟨aA2,an2,ac2,bA2,bn2,bc2,cA2,cn2,cc2,dA2,dn2,dc2,eA2,en2,ec2,fA2,fn2,fc2,rfl,hP2,hla2,hlb2,hlc2,hld2,hle2,hlf2,-⟩:=h'.open
 obtain rfl:an=an2:=hla.symm.trans hla2
 obtain rfl:bn=bn2:=hlb.symm.trans hlb2
 obtain rfl:cn=cn2:=hlc.symm.trans hlc2
 obtain rfl:dn=dn2:=hld.symm.trans hld2
 obtain rfl:en=en2:=hle.symm.trans hle2
 obtain rfl:fn=fn2:=hlf.symm.trans hlf2
 have HS:=Yh2 hP hP2
 have HL:=Yh6 hla hlb hlc hld hle hlf
 have hma2:an<=9223372036854775807:=by unfold maxLen at hma;omega
 have hmb2:bn<=9223372036854775807:=by unfold maxLen at hmb;omega
 have hmc2:cn<=9223372036854775807:=by unfold maxLen at hmc;omega
 clear hP hP2 hla hlb hlc hld hle hlf hla2 hlb2 hlc2 hld2 hle2 hlf2 hma hmb hmc hmd hme hmf h h'
 change Calls Tryz.prog 17 #[.agg #[.int .i64 l.n,.slice aA an ac,.slice bA bn bc,.slice cA cn cc,.slice dA dn dc,.slice eA en ec,.slice fA fn fc],.agg #[.int .i64 l.n,.slice aA2 an ac2,.slice bA2 bn bc2,.slice cA2 cn cc2,.slice dA2 dn dc2,.slice eA2 en ec2,.slice fA2 fn fc2]] w _
 go_enter Tryz.func17,Tryz.ntmps17
 go_upto_region 1 with (fail)
 have hb0:Yg w ((w.alloc (.cells #[.int .i64 l.n,.slice aA an ac,.slice bA bn bc,.slice cA cn cc,.slice dA dn dc,.slice eA en ec,.slice fA fn fc] 26)).alloc (.cells #[.int .i64 l.n,.slice aA2 an ac2,.slice bA2 bn bc2,.slice cA2 cn cc2,.slice dA2 dn dc2,.slice eA2 en ec2,.slice fA2 fn fc2] 26)):=Yb (Ya _ _) (Ya _ _)
 have HBL:=Lib.hid ((Bl.new w 26 [.int .i64 l.n,.slice aA an ac,.slice bA bn bc,.slice cA cn cc,.slice dA dn dc,.slice eA en ec,.slice fA fn fc]).alloc (.cells #[.int .i64 l.n,.slice aA2 an ac2,.slice bA2 bn bc2,.slice cA2 cn cc2,.slice dA2 dn dc2,.slice eA2 en ec2,.slice fA2 fn fc2] 26))
 have R0:=Bl.new1 w (.cells #[.int .i64 l.n,.slice aA an ac,.slice bA bn bc,.slice cA cn cc,.slice dA dn dc,.slice eA en ec,.slice fA fn fc] 26) 26 [.int .i64 l.n,.slice aA2 an ac2,.slice bA2 bn bc2,.slice cA2 cn cc2,.slice dA2 dn dc2,.slice eA2 en ec2,.slice fA2 fn fc2]
 have HA:=Yh6 (HS.p0.1.keep hb0) (HS.p0.2.1.keep hb0) (HS.p0.2.2.1.keep hb0) (HS.p0.2.2.2.1.keep hb0) (HS.p0.2.2.2.2.1.keep hb0) (HS.p0.2.2.2.2.2.keep hb0)
 have HA2:=Yh6 (HS.p1.keep hb0) (HS.p2.keep hb0) (HS.p3.keep hb0) (HS.p4.keep hb0) (HS.p5.keep hb0) (HS.q6.keep hb0)
 obtain ⟨gR,hgR⟩:∃ g,g=w.heap.size+1:=⟨_,rfl⟩
 rw [<- hgR] at R0 ⊢
 have HR0:=Lib.hid R0
 have HBW:=Lib.hid hb0
 clear HS R0 hb0 hgR
 generalize (w.alloc _).alloc _=W0 at HA HA2 HBL HR0 HBW ⊢
 have HC:Hid (∀ W,Yg W0 W->(Ye7 W w.heap.size (.int .i64 l.n) (.slice aA an ac) (.slice bA bn bc) (.slice cA cn cc) (.slice dA dn dc) (.slice eA en ec) (.slice fA fn fc))/\(Ye7 W gR (.int .i64 l.n) (.slice aA2 an ac2) (.slice bA2 bn bc2) (.slice cA2 cn cc2) (.slice dA2 dn dc2) (.slice eA2 en ec2) (.slice fA2 fn fc2))):=fun W hb=>⟨⟨Bl.ld (HBL.out.keep hb) 0 rfl,Bl.ld (HBL.out.keep hb) 1 rfl,Bl.ld (HBL.out.keep hb) 2 rfl,Bl.ld (HBL.out.keep hb) 3 rfl,Bl.ld (HBL.out.keep hb) 4 rfl,Bl.ld (HBL.out.keep hb) 5 rfl,Bl.ld (HBL.out.keep hb) 6 rfl⟩,Bl.ld (HR0.out.keep hb) 0 rfl,Bl.ld (HR0.out.keep hb) 1 rfl,Bl.ld (HR0.out.keep hb) 2 rfl,Bl.ld (HR0.out.keep hb) 3 rfl,Bl.ld (HR0.out.keep hb) 4 rfl,Bl.ld (HR0.out.keep hb) 5 rfl,Bl.ld (HR0.out.keep hb) 6 rfl⟩
 obtain ⟨⟨l0,l1,l2,l3,l4,l5,l6⟩,k0,k1,k2,k3,k4,k5,k6⟩:=HC.out _ (Below.refl _ _)
 have e0:(l.n !=l.n)=false:=bne_self_eq_false _
 have e1:((an:Int) !=(an:Int))=false:=bne_self_eq_false _
 have e2:((bn:Int) !=(bn:Int))=false:=bne_self_eq_false _
 have e3:((cn:Int) !=(cn:Int))=false:=bne_self_eq_false _
 go_wp2_with fail
 clear e0 e1 e2 e3 l0 k0 l1 k1 l2 k2 l3 k3 l4 k4 l5 k5 l6 k6
 go_loopw [5] (fun z4 wr=>∃ (k:Nat),z4=.int .i64 (k:Int)/\k<=an/\Hid (Yg W0 wr)) (fun z _=>an - (intOf z).toNat)
 case atStart=>exact ⟨0,rfl,Nat.zero_le _,Below.refl _ _⟩
 case round=>
  obtain ⟨k,rfl,hk,H⟩:=hrel
  by_cases hlt:k<an
  · skip
    obtain ⟨ta,hta⟩:∃ t,l.cols[k]?=some t:=⟨_,List.getElem?_eq_getElem (by rw [HL.p0];exact hlt)⟩
    obtain ⟨ga,oa,qa,xa,e,hga,hva,za0⟩:=HA.p0.at_ hta
    rw [HL.p0] at e
    injection e with e1 e2 e3
    subst e1
    clear e2 e3 qa
    obtain ⟨ga2,oa2,qa2,xa2,e,hga2,hva2,za20⟩:=HA2.p0.at_ hta
    rw [HL.p0] at e
    injection e with e1 e2 e3
    subst e1
    clear e2 e3 qa2
    have HCx:Hid (∀ W,Yg W0 W->((Ye7 W w.heap.size (.int .i64 l.n) (.slice (some ⟨ga,oa,none⟩) an ac) (.slice bA bn bc) (.slice cA cn cc) (.slice dA dn dc) (.slice eA en ec) (.slice fA fn fc))/\(Ye7 W gR (.int .i64 l.n) (.slice (some ⟨ga2,oa2,none⟩) an ac2) (.slice bA2 bn bc2) (.slice cA2 cn cc2) (.slice dA2 dn dc2) (.slice eA2 en ec2) (.slice fA2 fn fc2)))/\W.cell? ⟨ga,oa+k,none⟩=some (.slice xa.A xa.l xa.k)/\W.cell? ⟨ga2,oa2+k,none⟩=some (.slice xa2.A xa2.l xa2.k)):=fun W hb=>⟨HC.out W hb,(hb.cell (p:=⟨ga,_,none⟩) hga).trans za0,(hb.cell (p:=⟨ga2,_,none⟩) hga2).trans za20⟩
    have HV:=Yh2 hva hva2
    clear hva2
    clear hga hta za0 hva
    clear hga2 za20
    have dk:(k:Int)<(an:Int):=Yo
    obtain ⟨⟨⟨l0,l1,l2,l3,l4,l5,l6⟩,k0,k1,k2,k3,k4,k5,k6⟩,za,zb⟩:=HCx.out _ H.out
    go_upto_region 6 with (fail)
    clear za zb l0 k0 l1 k1 l2 k2 l3 k3 l4 k4 l5 k5 l6 k6
    have B1:=Lib.hid (Yb H.out (below_d _))
    clear H
    refine wp_region_held_drew (S:=fun W=>((Ye7 W w.heap.size (.int .i64 l.n) (.slice (some ⟨ga,oa,none⟩) an ac) (.slice bA bn bc) (.slice cA cn cc) (.slice dA dn dc) (.slice eA en ec) (.slice fA fn fc))/\(Ye7 W gR (.int .i64 l.n) (.slice (some ⟨ga2,oa2,none⟩) an ac2) (.slice bA2 bn bc2) (.slice cA2 cn cc2) (.slice dA2 dn dc2) (.slice eA2 en ec2) (.slice fA2 fn fc2)))/\W.cell? ⟨ga,oa+k,none⟩=some (.slice xa.A xa.l xa.k)/\W.cell? ⟨ga2,oa2+k,none⟩=some (.slice xa2.A xa2.l xa2.k)) (by kernel_rfl) (HCx.out _ B1.out) (fun Hh=>?_)
    generalize wr.drew=Wd at B1 Hh ⊢
    refine rgFree [0,1,2,3,4,5,6,7,8,9,11] (Yl 12 0) (fun HFR=>?_)
    refine rgRun 10 [0,1,2,3,4,5,6,7,8,9] Hh fun K hK=>?_
    repeat refine rgA ?_
    refine hK _ _ ?_;clear hK K
    refine rgO 10 fun K hK=>?_
    go_simp
    go_at_call 75;refine (same_t (HV.p0.keep B1.out) (HV.q1.keep B1.out)).mono ?_;rintro e w2 ⟨rfl,hb⟩
    rw [decide_eq_true rfl]
    have B2:=Lib.hid (Yb B1.out hb)
    clear hb B1 Hh
    go_wp2_with fail
    refine rgK hK (HCx.out _ B2.out) fun Hh=>?_;clear hK K
    refine rgU 11 58 HFR Hh ?_
    refine Yw ?_
    clear Hh
    go_wp2_with fail
    case roundEnd=>exact ⟨⟨k+1,by go_num,Yo,B2.out⟩,by simp [intOf];omega⟩
  obtain rfl:an=k:=by omega
  have dk:¬ (an:Int)<(an:Int):=Yo
  obtain ⟨⟨l0,l1,l2,l3,l4,l5,l6⟩,k0,k1,k2,k3,k4,k5,k6⟩:=HC.out _ H.out
  go_wp2_with fail
  go_loopw [6] (fun z4 wr=>∃ (k:Nat),z4=.int .i64 (k:Int)/\k<=bn/\Hid (Yg W0 wr)) (fun z _=>bn - (intOf z).toNat)
  case atStart=>exact ⟨0,rfl,Nat.zero_le _,H.out⟩
  case round=>
   obtain ⟨k,rfl,hk,H⟩:=hrel
   by_cases hlt:k<bn
   · skip
     obtain ⟨tb,htb⟩:∃ t,l.hasLo[k]?=some t:=⟨_,List.getElem?_eq_getElem (by rw [HL.p1];exact hlt)⟩
     obtain ⟨gb,ob,qb,e,hgb,zb0⟩:=HA.p1.at_ htb
     rw [HL.p1] at e
     injection e with e1 e2 e3
     subst e1
     clear e2 e3 qb
     obtain ⟨gb2,ob2,qb2,e,hgb2,zb20⟩:=HA2.p1.at_ htb
     rw [HL.p1] at e
     injection e with e1 e2 e3
     subst e1
     clear e2 e3 qb2
     have HCx:Hid (∀ W,Yg W0 W->((Ye7 W w.heap.size (.int .i64 l.n) (.slice aA an ac) (.slice (some ⟨gb,ob,none⟩) bn bc) (.slice cA cn cc) (.slice dA dn dc) (.slice eA en ec) (.slice fA fn fc))/\(Ye7 W gR (.int .i64 l.n) (.slice aA2 an ac2) (.slice (some ⟨gb2,ob2,none⟩) bn bc2) (.slice cA2 cn cc2) (.slice dA2 dn dc2) (.slice eA2 en ec2) (.slice fA2 fn fc2)))/\W.cell? ⟨gb,ob+k,none⟩=some (.bool tb)/\W.cell? ⟨gb2,ob2+k,none⟩=some (.bool tb)):=fun W hb=>⟨HC.out W hb,(hb.cell (p:=⟨gb,_,none⟩) hgb).trans zb0,(hb.cell (p:=⟨gb2,_,none⟩) hgb2).trans zb20⟩
     clear hgb htb zb0
     clear hgb2 zb20
     have dk:(k:Int)<(bn:Int):=Yo
     obtain ⟨⟨⟨l0,l1,l2,l3,l4,l5,l6⟩,k0,k1,k2,k3,k4,k5,k6⟩,za,zb⟩:=HCx.out _ H.out
     go_upto_region 11 with (fail)
     clear za zb l0 k0 l1 k1 l2 k2 l3 k3 l4 k4 l5 k5 l6 k6
     cases tb
     · skip
       have B1:=Lib.hid (Yb H.out (below_d _))
       clear H
       refine wp_region_held_drew (S:=fun W=>((Ye7 W w.heap.size (.int .i64 l.n) (.slice aA an ac) (.slice (some ⟨gb,ob,none⟩) bn bc) (.slice cA cn cc) (.slice dA dn dc) (.slice eA en ec) (.slice fA fn fc))/\(Ye7 W gR (.int .i64 l.n) (.slice aA2 an ac2) (.slice (some ⟨gb2,ob2,none⟩) bn bc2) (.slice cA2 cn cc2) (.slice dA2 dn dc2) (.slice eA2 en ec2) (.slice fA2 fn fc2)))/\W.cell? ⟨gb,ob+k,none⟩=some (.bool false)/\W.cell? ⟨gb2,ob2+k,none⟩=some (.bool false)) (by kernel_rfl) (HCx.out _ B1.out) (fun Hh=>?_)
       generalize wr.drew=Wd at B1 Hh ⊢
       refine rgFree [0,1,2,3,4,5,6,7,8,9,10] (Yl 11 0) (fun HFR=>?_)
       refine rgRun 11 [0,1,2,3,4,5,6,7,8,9,10] Hh fun K hK=>?_
       repeat refine rgA ?_
       refine hK _ _ ?_;clear hK K
       refine Yw ?_
       clear Hh
       go_wp2_with fail
       case roundEnd=>exact ⟨⟨k+1,by go_num,Yo,B1.out⟩,by simp [intOf];omega⟩
     have B1:=Lib.hid (Yb H.out (below_d _))
     clear H
     refine wp_region_held_drew (S:=fun W=>((Ye7 W w.heap.size (.int .i64 l.n) (.slice aA an ac) (.slice (some ⟨gb,ob,none⟩) bn bc) (.slice cA cn cc) (.slice dA dn dc) (.slice eA en ec) (.slice fA fn fc))/\(Ye7 W gR (.int .i64 l.n) (.slice aA2 an ac2) (.slice (some ⟨gb2,ob2,none⟩) bn bc2) (.slice cA2 cn cc2) (.slice dA2 dn dc2) (.slice eA2 en ec2) (.slice fA2 fn fc2)))/\W.cell? ⟨gb,ob+k,none⟩=some (.bool true)/\W.cell? ⟨gb2,ob2+k,none⟩=some (.bool true)) (by kernel_rfl) (HCx.out _ B1.out) (fun Hh=>?_)
     generalize wr.drew=Wd at B1 Hh ⊢
     refine rgFree [0,1,2,3,4,5,6,7,8,9,10] (Yl 11 0) (fun HFR=>?_)
     refine rgRun 11 [0,1,2,3,4,5,6,7,8,9,10] Hh fun K hK=>?_
     repeat refine rgA ?_
     refine hK _ _ ?_;clear hK K
     refine Yw ?_
     clear Hh
     go_wp2_with fail
     case roundEnd=>exact ⟨⟨k+1,by go_num,Yo,B1.out⟩,by simp [intOf];omega⟩
   obtain rfl:bn=k:=by omega
   have dk:¬ (bn:Int)<(bn:Int):=Yo
   obtain ⟨⟨l0,l1,l2,l3,l4,l5,l6⟩,k0,k1,k2,k3,k4,k5,k6⟩:=HC.out _ H.out
   go_wp2_with fail
   go_loopw [7] (fun z4 wr=>∃ (k:Nat),z4=.int .i64 (k:Int)/\k<=cn/\Hid (Yg W0 wr)) (fun z _=>cn - (intOf z).toNat)
   case atStart=>exact ⟨0,rfl,Nat.zero_le _,H.out⟩
   case round=>
    obtain ⟨k,rfl,hk,H⟩:=hrel
    by_cases hlt:k<cn
    · skip
      obtain ⟨tc,htc⟩:∃ t,l.hasHi[k]?=some t:=⟨_,List.getElem?_eq_getElem (by rw [HL.p2];exact hlt)⟩
      obtain ⟨gc,oc,qc,e,hgc,zc0⟩:=HA.p2.at_ htc
      rw [HL.p2] at e
      injection e with e1 e2 e3
      subst e1
      clear e2 e3 qc
      obtain ⟨gc2,oc2,qc2,e,hgc2,zc20⟩:=HA2.p2.at_ htc
      rw [HL.p2] at e
      injection e with e1 e2 e3
      subst e1
      clear e2 e3 qc2
      have HCx:Hid (∀ W,Yg W0 W->((Ye7 W w.heap.size (.int .i64 l.n) (.slice aA an ac) (.slice bA bn bc) (.slice (some ⟨gc,oc,none⟩) cn cc) (.slice dA dn dc) (.slice eA en ec) (.slice fA fn fc))/\(Ye7 W gR (.int .i64 l.n) (.slice aA2 an ac2) (.slice bA2 bn bc2) (.slice (some ⟨gc2,oc2,none⟩) cn cc2) (.slice dA2 dn dc2) (.slice eA2 en ec2) (.slice fA2 fn fc2)))/\W.cell? ⟨gc,oc+k,none⟩=some (.bool tc)/\W.cell? ⟨gc2,oc2+k,none⟩=some (.bool tc)):=fun W hb=>⟨HC.out W hb,(hb.cell (p:=⟨gc,_,none⟩) hgc).trans zc0,(hb.cell (p:=⟨gc2,_,none⟩) hgc2).trans zc20⟩
      clear hgc htc zc0
      clear hgc2 zc20
      have dk:(k:Int)<(cn:Int):=Yo
      obtain ⟨⟨⟨l0,l1,l2,l3,l4,l5,l6⟩,k0,k1,k2,k3,k4,k5,k6⟩,za,zb⟩:=HCx.out _ H.out
      go_upto_region 16 with (fail)
      clear za zb l0 k0 l1 k1 l2 k2 l3 k3 l4 k4 l5 k5 l6 k6
      cases tc
      · skip
        have B1:=Lib.hid (Yb H.out (below_d _))
        clear H
        refine wp_region_held_drew (S:=fun W=>((Ye7 W w.heap.size (.int .i64 l.n) (.slice aA an ac) (.slice bA bn bc) (.slice (some ⟨gc,oc,none⟩) cn cc) (.slice dA dn dc) (.slice eA en ec) (.slice fA fn fc))/\(Ye7 W gR (.int .i64 l.n) (.slice aA2 an ac2) (.slice bA2 bn bc2) (.slice (some ⟨gc2,oc2,none⟩) cn cc2) (.slice dA2 dn dc2) (.slice eA2 en ec2) (.slice fA2 fn fc2)))/\W.cell? ⟨gc,oc+k,none⟩=some (.bool false)/\W.cell? ⟨gc2,oc2+k,none⟩=some (.bool false)) (by kernel_rfl) (HCx.out _ B1.out) (fun Hh=>?_)
        generalize wr.drew=Wd at B1 Hh ⊢
        refine rgFree [0,1,2,3,4,5,6,7,8,9,10] (Yl 11 0) (fun HFR=>?_)
        refine rgRun 11 [0,1,2,3,4,5,6,7,8,9,10] Hh fun K hK=>?_
        repeat refine rgA ?_
        refine hK _ _ ?_;clear hK K
        refine Yw ?_
        clear Hh
        go_wp2_with fail
        case roundEnd=>exact ⟨⟨k+1,by go_num,Yo,B1.out⟩,by simp [intOf];omega⟩
      have B1:=Lib.hid (Yb H.out (below_d _))
      clear H
      refine wp_region_held_drew (S:=fun W=>((Ye7 W w.heap.size (.int .i64 l.n) (.slice aA an ac) (.slice bA bn bc) (.slice (some ⟨gc,oc,none⟩) cn cc) (.slice dA dn dc) (.slice eA en ec) (.slice fA fn fc))/\(Ye7 W gR (.int .i64 l.n) (.slice aA2 an ac2) (.slice bA2 bn bc2) (.slice (some ⟨gc2,oc2,none⟩) cn cc2) (.slice dA2 dn dc2) (.slice eA2 en ec2) (.slice fA2 fn fc2)))/\W.cell? ⟨gc,oc+k,none⟩=some (.bool true)/\W.cell? ⟨gc2,oc2+k,none⟩=some (.bool true)) (by kernel_rfl) (HCx.out _ B1.out) (fun Hh=>?_)
      generalize wr.drew=Wd at B1 Hh ⊢
      refine rgFree [0,1,2,3,4,5,6,7,8,9,10] (Yl 11 0) (fun HFR=>?_)
      refine rgRun 11 [0,1,2,3,4,5,6,7,8,9,10] Hh fun K hK=>?_
      repeat refine rgA ?_
      refine hK _ _ ?_;clear hK K
      refine Yw ?_
      clear Hh
      go_wp2_with fail
      case roundEnd=>exact ⟨⟨k+1,by go_num,Yo,B1.out⟩,by simp [intOf];omega⟩
    obtain rfl:cn=k:=by omega
    have dk:¬ (cn:Int)<(cn:Int):=Yo
    obtain ⟨⟨l0,l1,l2,l3,l4,l5,l6⟩,k0,k1,k2,k3,k4,k5,k6⟩:=HC.out _ H.out
    go_wp2_with fail
    refine (sameAll_r (HA.p3.keep H.out) (HA2.p3.keep H.out)).mono ?_;rintro e v1 ⟨rfl,hb⟩
    rw [decide_eq_true rfl]
    have B1:=Lib.hid (Yb H.out hb)
    clear hb l0 k0 l1 k1 l2 k2 l3 k3 l4 k4 l5 k5 l6 k6
    obtain ⟨⟨l0,l1,l2,l3,l4,l5,l6⟩,k0,k1,k2,k3,k4,k5,k6⟩:=HC.out _ B1.out
    go_wp2_with fail
    refine (sameAll_r (HA.p4.keep B1.out) (HA2.p4.keep B1.out)).mono ?_;rintro e v2 ⟨rfl,hb⟩
    rw [decide_eq_true rfl]
    have B2:=Lib.hid (Yb B1.out hb)
    clear hb l0 k0 l1 k1 l2 k2 l3 k3 l4 k4 l5 k5 l6 k6
    obtain ⟨⟨l0,l1,l2,l3,l4,l5,l6⟩,k0,k1,k2,k3,k4,k5,k6⟩:=HC.out _ B2.out
    go_wp2_with fail
    refine (sameAll_r (HA.q5.keep B2.out) (HA2.q5.keep B2.out)).mono ?_;rintro e v3 ⟨rfl,hb⟩
    rw [decide_eq_true rfl]
    have B3:=Lib.hid (Yb B2.out hb)
    clear hb l0 k0 l1 k1 l2 k2 l3 k3 l4 k4 l5 k5 l6 k6
    obtain ⟨⟨l0,l1,l2,l3,l4,l5,l6⟩,k0,k1,k2,k3,k4,k5,k6⟩:=HC.out _ B3.out
    go_wp2_with fail
    go_ret
    exact ⟨rfl,Yb HBW.out B3.out⟩
end
end
section
section
open Go Go.RowKit Go.Proofs Pl
theorem goEnter_len {f:Bool} {h:Int->Bool} {st:Int->Rat}:∀ {L:List (Int × Rat)} {s:Rat} {fl:List Int} {c:Int} {g:List Int} {ok:Bool},goEnter f h st L s fl=(c,g,ok)->g.length<=fl.length+L.length
 | [],s,fl,c,g,ok,e=>by
  injection e with _ e;injection e with e _
  rw [<- e];simp
 | x::L,s,fl,c,g,ok,e=>by
  unfold goEnter at e
  split at e
  · injection e with _ e;injection e with e _
    rw [<- e];omega
  · split at e
    · injection e with _ e;injection e with e _
      rw [<- e];omega
    · have:=goEnter_len e
      rw [List.length_append] at this
      simp only [List.length_cons,List.length_nil] at this ⊢
      omega
namespace I
theorem enters_walk {w:World} {v u y d r:Value} {l:LPx} {bs st:List Int} {ds rs:List Fx} {up sb flip:Bool} {As Bs:Option Addr} {ls cs ms ds_:Nat} {sh:Fx} (h:LPv w v l) (hf:Sane l) (hb1:l.hasLo.length<=140737488355328) (hb2:l.hasHi.length<=140737488355328) (hb:Iv w u bs) (hs:Iv w y st) (hd:Rx w d ds) (hds:∀ f∈ds,f.xs.length<=2305843009213693951/\f.ds.length<=2305843009213693951) (hr:Rx w r rs) (hrs:∀ f∈rs,f.xs.length<=2305843009213693951/\f.ds.length<=2305843009213693951) (hq:Fv w (.agg #[.bool sb,.slice As ls cs,.slice Bs ms ds_]) sh) (hsh:sh.xs.length+sh.ds.length<=4611686018427387903):
 Calls Tryz.prog 7 #[v,.agg #[u,y],.agg #[d,r,.bool up,.bool sb,.slice As ls cs,.slice Bs ms ds_,.bool flip]] w fun e w'=>e=.returned (.bool true)/\Yg w w':=by
 have hlp:=h
 obtain ⟨aA,an,ac,bA,bn,bc,cA,cn,cc,dA,dn,dc,eA,en,ec,fA,fn,fc,rfl,hP,hla,hlb,hlc,hld,hle,hlf,hma,hmb,hmc,hmd,hme,hmf⟩:=h.open
 obtain ⟨Au,cu,rfl,hz1,hz2⟩:=hb.shape
 obtain ⟨Av,cv,rfl,-,-⟩:=hs.shape
 obtain ⟨Ay,cy,rfl,-,-⟩:=hd.shape
 obtain ⟨Az,cz,rfl,-,-⟩:=hr.shape
 obtain ⟨n,hnn⟩:∃ n,bs.length=n:=⟨_,rfl⟩
 obtain ⟨m,hnm⟩:∃ n,st.length=n:=⟨_,rfl⟩
 obtain ⟨N,hnN⟩:∃ n,ds.length=n:=⟨_,rfl⟩
 obtain ⟨M,hnM⟩:∃ n,rs.length=n:=⟨_,rfl⟩
 rw [hnn] at hb ⊢
 rw [hnm] at hs ⊢
 rw [hnN] at hd ⊢
 rw [hnM] at hr ⊢
 have HS:=Yh6 hlp hb hs hd hr hq
 have HN:=Yh4 hnn hnm hnN hnM
 have HF:=Yh4 hf hds hrs hsh
 have HB2:=Yh2 hb1 hb2
 have HAN:=Lib.hid hla
 clear hP hlp hb hs hd hr hq hnn hnm hnN hnM hf hds hrs hsh hb1 hb2 hz1 hz2 hla hlb hlc hld hle hlf hma hmb hmc hmd hme hmf h
 change Calls Tryz.prog 7 #[.agg #[.int .i64 l.n,.slice aA an ac,.slice bA bn bc,.slice cA cn cc,.slice dA dn dc,.slice eA en ec,.slice fA fn fc],.agg #[.slice Au n cu,.slice Av m cv],.agg #[.slice Ay N cy,.slice Az M cz,.bool up,.bool sb,.slice As ls cs,.slice Bs ms ds_,.bool flip]] w _
 go_enter Tryz.func7,Tryz.ntmps7
 go_upto_region 1 with (fail)
 obtain ⟨hX,hT,hU,hB⟩:=box3 w 26 75 82 [.int .i64 l.n,.slice aA an ac,.slice bA bn bc,.slice cA cn cc,.slice dA dn dc,.slice eA en ec,.slice fA fn fc] [.slice Au n cu,.slice Av m cv] [.slice Ay N cy,.slice Az M cz,.bool up,.bool sb,.slice As ls cs,.slice Bs ms ds_,.bool flip]
 have H0:=Yh4 hX hT hU hB
 clear hX hT hU hB
 generalize ((w.alloc _).alloc _).alloc _=W0 at H0 ⊢
 go_wp2_with fail
 refine (speaks13).mono ?_;rintro e w1 ⟨rfl,hb⟩
 have H1:=Yh4 (H0.p0.keep hb) (H0.p1.keep hb) (H0.p2.keep hb) (Yb H0.q3 hb)
 clear H0
 clear hb
 have n0:=Bl.ld H1.p2 0 rfl
 go_wp2_with fail
 refine (greatAll_r (HS.p3.keep H1.q3) HF.p1).mono ?_;rintro e w2 ⟨⟨r,rfl,hr⟩,hb⟩
 have H2:=Yh4 (H1.p0.keep hb) (H1.p1.keep hb) (H1.p2.keep hb) (Yb H1.q3 hb)
 clear H1
 have HR:=Lib.hid hr
 clear hb hr
 clear n0
 cases r with
 | true=>
  go_wp2_with fail
  go_ret
  exact ⟨rfl,H2.q3⟩
 | false=>
  have HD:=Lib.hid (HR.out rfl)
  clear HR
  have n1:=Bl.ld H2.p2 1 rfl
  go_wp2_with fail
  refine (greatAll_r (HS.p4.keep H2.q3) HF.p2).mono ?_;rintro e w2 ⟨⟨r,rfl,hr⟩,hb⟩
  have H3:=Yh4 (H2.p0.keep hb) (H2.p1.keep hb) (H2.p2.keep hb) (Yb H2.q3 hb)
  clear H2
  have HR:=Lib.hid hr
  clear hb hr
  clear n1
  cases r with
  | true=>
   go_wp2_with fail
   go_ret
   exact ⟨rfl,H3.q3⟩
  | false=>
   have HW:=Lib.hid (HR.out rfl)
   clear HR
   have l0:=Bl.ld H3.p0 0 rfl
   have l1:=Bl.ld H3.p0 1 rfl
   have l2:=Bl.ld H3.p0 2 rfl
   have l3:=Bl.ld H3.p0 3 rfl
   have l4:=Bl.ld H3.p0 4 rfl
   have l5:=Bl.ld H3.p0 5 rfl
   have l6:=Bl.ld H3.p0 6 rfl
   go_wp2_with fail
   refine (great_l (HS.p0.keep H3.q3) HF.p0).mono ?_;rintro e w2 ⟨⟨r,rfl,hr⟩,hb⟩
   have H4:=Yh4 (H3.p0.keep hb) (H3.p1.keep hb) (H3.p2.keep hb) (Yb H3.q3 hb)
   clear H3
   have HR:=Lib.hid hr
   clear hb hr
   clear l0 l1 l2 l3 l4 l5 l6
   cases r with
   | true=>
    go_wp2_with fail
    go_ret
    exact ⟨rfl,H4.q3⟩
   | false=>
    have HFT:=Lib.hid (HR.out rfl)
    clear HR
    have HDS:Hid (∀ f∈ds,f.xs.length<=6/\f.ds.length<=6):=fun f hf=>by have:=HD.q1 f hf;omega
    have HRS:Hid (∀ f∈rs,f.xs.length<=6/\f.ds.length<=6):=fun f hf=>by have:=HW.q1 f hf;omega
    have n3:=Bl.ld H4.p2 3 rfl
    have n4:=Bl.ld H4.p2 4 rfl
    have n5:=Bl.ld H4.p2 5 rfl
    go_wp2_with fail
    refine (words_qb (HS.q5.keep H4.q3) HF.q3).mono ?_;rintro e w3 ⟨rfl,hb⟩
    have H5:=Yh4 (H4.p0.keep hb) (H4.p1.keep hb) (H4.p2.keep hb) (Yb H4.q3 hb)
    clear H4
    clear hb n3 n4 n5
    obtain ⟨kk,hkk⟩:∃ kk,sh.xs.length+sh.ds.length=kk:=⟨_,rfl⟩
    rw [hkk]
    by_cases hk6:(6:Int)<(kk:Int)
    · skip
      go_wp2_with fail
      go_ret
      exact ⟨rfl,H5.q3⟩
    have HSH:Hid (sh.xs.length<=6/\sh.ds.length<=6):=⟨Yo,Yo⟩
    have l0:=Bl.ld H5.p0 0 rfl
    have l1:=Bl.ld H5.p0 1 rfl
    have l2:=Bl.ld H5.p0 2 rfl
    have l3:=Bl.ld H5.p0 3 rfl
    have l4:=Bl.ld H5.p0 4 rfl
    have l5:=Bl.ld H5.p0 5 rfl
    have l6:=Bl.ld H5.p0 6 rfl
    go_wp2_with fail
    refine (copy_l (HS.p0.keep H5.q3) HFT.out HB2.p0 HB2.q1).mono ?_;rintro e w4 ⟨u,rfl,h⟩
    have hb:=h.below
    have h2:=h.lpv
    obtain ⟨A1,n1,c1,A2,n2,c2,A3,n3,c3,A4,n4,c4,A5,n5,c5,A6,n6,c6,rfl,-⟩:=h2.open
    clear h
    go_upto_region 6 with (fail)
    have hal:=Ya w4 (.cells #[.int .i64 l.n,.slice A1 n1 c1,.slice A2 n2 c2,.slice A3 n3 c3,.slice A4 n4 c4,.slice A5 n5 c5,.slice A6 n6 c6] 26)
    have hbb:=Yb hb hal
    have H6:=Yh6 (H5.p0.keep hbb) (H5.p1.keep hbb) (H5.p2.keep hbb) (Bl.new w4 26 [.int .i64 l.n,.slice A1 n1 c1,.slice A2 n2 c2,.slice A3 n3 c3,.slice A4 n4 c4,.slice A5 n5 c5,.slice A6 n6 c6]) (h2.keep hal) (Yb H5.q3 hbb)
    clear H5
    clear hb hal hbb h2 l0 l1 l2 l3 l4 l5 l6 hkk hk6
    obtain ⟨g7,hg7⟩:∃ g,g=w4.heap.size:=⟨_,rfl⟩
    rw [<- hg7] at H6 ⊢
    clear hg7
    generalize w4.alloc _=W6 at H6 ⊢
    have n2:=Bl.ld H6.p2 2 rfl
    have n3:=Bl.ld H6.p2 3 rfl
    have n4:=Bl.ld H6.p2 4 rfl
    have n5:=Bl.ld H6.p2 5 rfl
    have n6:=Bl.ld H6.p2 6 rfl
    go_upto_region 7 with (fail)
    have hal:=Ya W6 (.cells #[.bool up,.bool sb,.slice As ls cs,.slice Bs ms ds_,.bool flip] 85)
    have H7:=Yh7 (H6.p0.keep hal) (H6.p1.keep hal) (H6.p2.keep hal) (H6.p3.keep hal) (H6.p4.keep hal) (Bl.new W6 85 [.bool up,.bool sb,.slice As ls cs,.slice Bs ms ds_,.bool flip]) (Yb H6.q5 hal)
    clear H6
    obtain ⟨g8,hg8⟩:∃ g,g=W6.heap.size:=⟨_,rfl⟩
    rw [<- hg8] at H7 ⊢
    clear hg8
    generalize W6.alloc _=W7 at H7 ⊢
    clear n2 n3 n4 n5 n6
    have i0:=Bl.ld H7.p3 0 rfl
    have i1:=Bl.ld H7.p3 1 rfl
    have i2:=Bl.ld H7.p3 2 rfl
    have i3:=Bl.ld H7.p3 3 rfl
    have i4:=Bl.ld H7.p3 4 rfl
    have i5:=Bl.ld H7.p3 5 rfl
    have i6:=Bl.ld H7.p3 6 rfl
    have t0:=Bl.ld H7.p5 0 rfl
    have t1:=Bl.ld H7.p5 1 rfl
    have t2:=Bl.ld H7.p5 2 rfl
    have t3:=Bl.ld H7.p5 3 rfl
    have t4:=Bl.ld H7.p5 4 rfl
    have b0:=Bl.ld H7.p1 0 rfl
    have b1:=Bl.ld H7.p1 1 rfl
    have n0:=Bl.ld H7.p2 0 rfl
    have n1:=Bl.ld H7.p2 1 rfl
    have n2:=Bl.ld H7.p2 2 rfl
    have n3:=Bl.ld H7.p2 3 rfl
    have n4:=Bl.ld H7.p2 4 rfl
    have n5:=Bl.ld H7.p2 5 rfl
    have n6:=Bl.ld H7.p2 6 rfl
    have l0:=Bl.ld H7.p0 0 rfl
    have l1:=Bl.ld H7.p0 1 rfl
    have l2:=Bl.ld H7.p0 2 rfl
    have l3:=Bl.ld H7.p0 3 rfl
    have l4:=Bl.ld H7.p0 4 rfl
    have l5:=Bl.ld H7.p0 5 rfl
    have l6:=Bl.ld H7.p0 6 rfl
    go_wp2_with fail
    refine (enter_a (flip:=flip) (up:=up) H7.p4 (HS.p2.keep H7.q6) (HS.p3.keep H7.q6) (HS.p4.keep H7.q6) (HS.q5.keep H7.q6) HFT.out HDS.out HRS.out HSH.out).mono ?_;rintro e w8 ⟨c,fl,ok,fv,rfl,hfl,hb,hE⟩
    have HE:=Lib.hid hE
    have H8:=Yh8 (H7.p0.keep hb) (H7.p1.keep hb) (H7.p2.keep hb) (H7.p3.keep hb) (H7.p4.keep hb) (H7.p5.keep hb) hfl.rv (Yb H7.q6 hb)
    clear H7
    clear hb hE hfl
    clear i0 i1 i2 i3 i4 i5 i6 t0 t1 t2 t3 t4 b0 b1 n0 n1 n2 n3 n4 n5 n6 l0 l1 l2 l3 l4 l5 l6
    have i0:=Bl.ld H8.p3 0 rfl
    have i1:=Bl.ld H8.p3 1 rfl
    have i2:=Bl.ld H8.p3 2 rfl
    have i3:=Bl.ld H8.p3 3 rfl
    have i4:=Bl.ld H8.p3 4 rfl
    have i5:=Bl.ld H8.p3 5 rfl
    have i6:=Bl.ld H8.p3 6 rfl
    have t0:=Bl.ld H8.p5 0 rfl
    have t1:=Bl.ld H8.p5 1 rfl
    have t2:=Bl.ld H8.p5 2 rfl
    have t3:=Bl.ld H8.p5 3 rfl
    have t4:=Bl.ld H8.p5 4 rfl
    have b0:=Bl.ld H8.p1 0 rfl
    have b1:=Bl.ld H8.p1 1 rfl
    have n0:=Bl.ld H8.p2 0 rfl
    have n1:=Bl.ld H8.p2 1 rfl
    have n2:=Bl.ld H8.p2 2 rfl
    have n3:=Bl.ld H8.p2 3 rfl
    have n4:=Bl.ld H8.p2 4 rfl
    have n5:=Bl.ld H8.p2 5 rfl
    have n6:=Bl.ld H8.p2 6 rfl
    have l0:=Bl.ld H8.p0 0 rfl
    have l1:=Bl.ld H8.p0 1 rfl
    have l2:=Bl.ld H8.p0 2 rfl
    have l3:=Bl.ld H8.p0 3 rfl
    have l4:=Bl.ld H8.p0 4 rfl
    have l5:=Bl.ld H8.p0 5 rfl
    have l6:=Bl.ld H8.p0 6 rfl
    go_wp2_with fail
    refine (feas_v H8.p4 (HS.p2.keep H8.q7) (HS.p3.keep H8.q7) HFT.out HDS.out).mono ?_;rintro e w9 ⟨⟨fine,rfl,hF⟩,hb⟩
    have HFE:=Lib.hid hF
    have H9:=Yh8 (H8.p0.keep hb) (H8.p1.keep hb) (H8.p2.keep hb) (H8.p3.keep hb) (H8.p4.keep hb) (H8.p5.keep hb) (H8.p6.keep hb) (Yb H8.q7 hb)
    clear H8
    clear hb hF
    clear i0 i1 i2 i3 i4 i5 i6 t0 t1 t2 t3 t4 b0 b1 n0 n1 n2 n3 n4 n5 n6 l0 l1 l2 l3 l4 l5 l6
    have i0:=Bl.ld H9.p3 0 rfl
    have i1:=Bl.ld H9.p3 1 rfl
    have i2:=Bl.ld H9.p3 2 rfl
    have i3:=Bl.ld H9.p3 3 rfl
    have i4:=Bl.ld H9.p3 4 rfl
    have i5:=Bl.ld H9.p3 5 rfl
    have i6:=Bl.ld H9.p3 6 rfl
    have t0:=Bl.ld H9.p5 0 rfl
    have t1:=Bl.ld H9.p5 1 rfl
    have t2:=Bl.ld H9.p5 2 rfl
    have t3:=Bl.ld H9.p5 3 rfl
    have t4:=Bl.ld H9.p5 4 rfl
    have b0:=Bl.ld H9.p1 0 rfl
    have b1:=Bl.ld H9.p1 1 rfl
    have n0:=Bl.ld H9.p2 0 rfl
    have n1:=Bl.ld H9.p2 1 rfl
    have n2:=Bl.ld H9.p2 2 rfl
    have n3:=Bl.ld H9.p2 3 rfl
    have n4:=Bl.ld H9.p2 4 rfl
    have n5:=Bl.ld H9.p2 5 rfl
    have n6:=Bl.ld H9.p2 6 rfl
    have l0:=Bl.ld H9.p0 0 rfl
    have l1:=Bl.ld H9.p0 1 rfl
    have l2:=Bl.ld H9.p0 2 rfl
    have l3:=Bl.ld H9.p0 3 rfl
    have l4:=Bl.ld H9.p0 4 rfl
    have l5:=Bl.ld H9.p0 5 rfl
    have l6:=Bl.ld H9.p0 6 rfl
    go_wp2_with fail
    refine (stands13 (HS.p0.keep H9.q7) (HS.p1.keep H9.q7) (HS.p2.keep H9.q7) HF.p0).mono ?_;rintro e w10 ⟨⟨r,rfl,hr⟩,hb⟩
    have H10:=Yh8 (H9.p0.keep hb) (H9.p1.keep hb) (H9.p2.keep hb) (H9.p3.keep hb) (H9.p4.keep hb) (H9.p5.keep hb) (H9.p6.keep hb) (Yb H9.q7 hb)
    clear H9
    have HR:=Lib.hid hr
    clear hb hr
    clear i0 i1 i2 i3 i4 i5 i6 t0 t1 t2 t3 t4 b0 b1 n0 n1 n2 n3 n4 n5 n6 l0 l1 l2 l3 l4 l5 l6
    cases r with
    | false=>
     go_wp2_with fail
     go_ret
     exact ⟨rfl,H10.q7⟩
    | true=>
     have HSQ:=Lib.hid (HR.out rfl)
     clear HR
     have i0:=Bl.ld H10.p3 0 rfl
     have i1:=Bl.ld H10.p3 1 rfl
     have i2:=Bl.ld H10.p3 2 rfl
     have i3:=Bl.ld H10.p3 3 rfl
     have i4:=Bl.ld H10.p3 4 rfl
     have i5:=Bl.ld H10.p3 5 rfl
     have i6:=Bl.ld H10.p3 6 rfl
     have t0:=Bl.ld H10.p5 0 rfl
     have t1:=Bl.ld H10.p5 1 rfl
     have t2:=Bl.ld H10.p5 2 rfl
     have t3:=Bl.ld H10.p5 3 rfl
     have t4:=Bl.ld H10.p5 4 rfl
     have b0:=Bl.ld H10.p1 0 rfl
     have b1:=Bl.ld H10.p1 1 rfl
     have n0:=Bl.ld H10.p2 0 rfl
     have n1:=Bl.ld H10.p2 1 rfl
     have n2:=Bl.ld H10.p2 2 rfl
     have n3:=Bl.ld H10.p2 3 rfl
     have n4:=Bl.ld H10.p2 4 rfl
     have n5:=Bl.ld H10.p2 5 rfl
     have n6:=Bl.ld H10.p2 6 rfl
     have l0:=Bl.ld H10.p0 0 rfl
     have l1:=Bl.ld H10.p0 1 rfl
     have l2:=Bl.ld H10.p0 2 rfl
     have l3:=Bl.ld H10.p0 3 rfl
     have l4:=Bl.ld H10.p0 4 rfl
     have l5:=Bl.ld H10.p0 5 rfl
     have l6:=Bl.ld H10.p0 6 rfl
     by_cases hNa:an=N
     · skip
       subst hNa
       have hNN:((an:Int) !=(an:Int))=false:=by simp
       by_cases hMa:an=M
       · skip
         subst hMa
         have HFO:Hid (fitsOne l ds.length):=by
          rw [HN.p2,<- HAN.out]
          have:=HSQ.p0.1
          exact ⟨rfl,this.2.2.1,this.2.2.2.1,this.2.2.2.2.1,this.2.2.2.2.2.1⟩
         have HST:Hid (st.length=ds.length/\st.length=rs.length):=by
          rw [HN.p2,HN.q3,HSQ.p1.1,HAN.out];exact ⟨rfl,rfl⟩
         have HF3:Hid (fitsX l [(st.length:Int),(ds.length:Int),(rs.length:Int)]=true/\fitsX l [(st.length:Int),(ds.length:Int)]=true):=by
          obtain ⟨e1,e2,e3,e4,e5⟩:=HFO.out
          rw [<- HST.q1,HST.p0]
          exact ⟨by simp [fitsX,allIs,e1,e2,e3,e4,e5],by simp [fitsX,allIs,e1,e2,e3,e4,e5]⟩
         obtain ⟨L,hL,hso,hgo⟩:=HE.out HF3.p0
         have HL:=Yh3 hL hso hgo
         have hfe:=HFE.out HF3.q1
         have HFEQ:=Lib.hid hfe
         clear hL hso hgo hfe HE HFE
         go_wp2_with fail
         refine (enter_d (flip:=flip) (up:=up) (L:=L) (HS.p0.keep H10.q7) (HS.p2.keep H10.q7) (HS.p3.keep H10.q7) (HS.p4.keep H10.q7) (HS.q5.keep H10.q7) HFT.out HFO.out HST.p0 HST.q1 HDS.out HRS.out HSH.out (fun i x hx=>⟨(HSQ.p1.2.2 i x hx).1,(HSQ.p1.2.2 i x hx).2.1⟩) HL.p0 HL.p1).mono ?_;rintro e w11 ⟨c2,fl2,ok2,fv2,rfl,hfl,hb,hG⟩
         have hg1:=hG
         rw [HL.q2] at hg1
         injection hg1 with e1 e2;injection e2 with e2 e3;subst e1;subst e2;subst e3
         have HFLN:Hid (fl.length<=1000):=by
          have e1:=goEnter_len HL.q2
          have e2:=HL.p0.length_eq
          have e3:(candX l st ds rs up st.length).length<=st.length:=candK_len _
          have e4:=HSQ.p3
          simp only [List.length_nil] at e1
          exact (by omega:fl.length<=1000)
         have H11:=Yh9 (H10.p0.keep hb) (H10.p1.keep hb) (H10.p2.keep hb) (H10.p3.keep hb) (H10.p4.keep hb) (H10.p5.keep hb) (H10.p6.keep hb) hfl (Yb H10.q7 hb)
         clear H10
         clear hb hfl hG
         clear i0 i1 i2 i3 i4 i5 i6 t0 t1 t2 t3 t4 b0 b1 n0 n1 n2 n3 n4 n5 n6 l0 l1 l2 l3 l4 l5 l6
         have i0:=Bl.ld H11.p3 0 rfl
         have i1:=Bl.ld H11.p3 1 rfl
         have i2:=Bl.ld H11.p3 2 rfl
         have i3:=Bl.ld H11.p3 3 rfl
         have i4:=Bl.ld H11.p3 4 rfl
         have i5:=Bl.ld H11.p3 5 rfl
         have i6:=Bl.ld H11.p3 6 rfl
         have t0:=Bl.ld H11.p5 0 rfl
         have t1:=Bl.ld H11.p5 1 rfl
         have t2:=Bl.ld H11.p5 2 rfl
         have t3:=Bl.ld H11.p5 3 rfl
         have t4:=Bl.ld H11.p5 4 rfl
         have b0:=Bl.ld H11.p1 0 rfl
         have b1:=Bl.ld H11.p1 1 rfl
         have n0:=Bl.ld H11.p2 0 rfl
         have n1:=Bl.ld H11.p2 1 rfl
         have n2:=Bl.ld H11.p2 2 rfl
         have n3:=Bl.ld H11.p2 3 rfl
         have n4:=Bl.ld H11.p2 4 rfl
         have n5:=Bl.ld H11.p2 5 rfl
         have n6:=Bl.ld H11.p2 6 rfl
         have l0:=Bl.ld H11.p0 0 rfl
         have l1:=Bl.ld H11.p0 1 rfl
         have l2:=Bl.ld H11.p0 2 rfl
         have l3:=Bl.ld H11.p0 3 rfl
         have l4:=Bl.ld H11.p0 4 rfl
         have l5:=Bl.ld H11.p0 5 rfl
         have l6:=Bl.ld H11.p0 6 rfl
         have hcc:(c==c)=true:=by simp
         have hok:(ok==ok)=true:=by simp
         have hff:(fine==fine)=true:=by simp
         go_wp2_with fail
         refine (ints_d H11.p6 H11.p7 HFLN.out).mono ?_;rintro e w12 ⟨rfl,hb⟩
         have H12:=Yh9 (H11.p0.keep hb) (H11.p1.keep hb) (H11.p2.keep hb) (H11.p3.keep hb) (H11.p4.keep hb) (H11.p5.keep hb) (H11.p6.keep hb) (H11.p7.keep hb) (Yb H11.q8 hb)
         clear H11
         clear hb
         clear i0 i1 i2 i3 i4 i5 i6 t0 t1 t2 t3 t4 b0 b1 n0 n1 n2 n3 n4 n5 n6 l0 l1 l2 l3 l4 l5 l6
         have i0:=Bl.ld H12.p3 0 rfl
         have i1:=Bl.ld H12.p3 1 rfl
         have i2:=Bl.ld H12.p3 2 rfl
         have i3:=Bl.ld H12.p3 3 rfl
         have i4:=Bl.ld H12.p3 4 rfl
         have i5:=Bl.ld H12.p3 5 rfl
         have i6:=Bl.ld H12.p3 6 rfl
         have t0:=Bl.ld H12.p5 0 rfl
         have t1:=Bl.ld H12.p5 1 rfl
         have t2:=Bl.ld H12.p5 2 rfl
         have t3:=Bl.ld H12.p5 3 rfl
         have t4:=Bl.ld H12.p5 4 rfl
         have b0:=Bl.ld H12.p1 0 rfl
         have b1:=Bl.ld H12.p1 1 rfl
         have n0:=Bl.ld H12.p2 0 rfl
         have n1:=Bl.ld H12.p2 1 rfl
         have n2:=Bl.ld H12.p2 2 rfl
         have n3:=Bl.ld H12.p2 3 rfl
         have n4:=Bl.ld H12.p2 4 rfl
         have n5:=Bl.ld H12.p2 5 rfl
         have n6:=Bl.ld H12.p2 6 rfl
         have l0:=Bl.ld H12.p0 0 rfl
         have l1:=Bl.ld H12.p0 1 rfl
         have l2:=Bl.ld H12.p0 2 rfl
         have l3:=Bl.ld H12.p0 3 rfl
         have l4:=Bl.ld H12.p0 4 rfl
         have l5:=Bl.ld H12.p0 5 rfl
         have l6:=Bl.ld H12.p0 6 rfl
         go_wp2_with fail
         refine (feas_d (HS.p0.keep H12.q8) (HS.p2.keep H12.q8) (HS.p3.keep H12.q8) HFT.out HFO.out HST.p0 HDS.out (fun i x hx=>⟨(HSQ.p1.2.2 i x hx).1,(HSQ.p1.2.2 i x hx).2.1⟩)).mono ?_;rintro e w13 ⟨⟨r2,rfl,h2⟩,hb⟩
         have h2:r2=fine:=h2.trans HFEQ.out.symm
         subst h2
         have H13:=Yh9 (H12.p0.keep hb) (H12.p1.keep hb) (H12.p2.keep hb) (H12.p3.keep hb) (H12.p4.keep hb) (H12.p5.keep hb) (H12.p6.keep hb) (H12.p7.keep hb) (Yb H12.q8 hb)
         clear H12
         clear hb
         clear i0 i1 i2 i3 i4 i5 i6 t0 t1 t2 t3 t4 b0 b1 n0 n1 n2 n3 n4 n5 n6 l0 l1 l2 l3 l4 l5 l6
         have i0:=Bl.ld H13.p3 0 rfl
         have i1:=Bl.ld H13.p3 1 rfl
         have i2:=Bl.ld H13.p3 2 rfl
         have i3:=Bl.ld H13.p3 3 rfl
         have i4:=Bl.ld H13.p3 4 rfl
         have i5:=Bl.ld H13.p3 5 rfl
         have i6:=Bl.ld H13.p3 6 rfl
         have t0:=Bl.ld H13.p5 0 rfl
         have t1:=Bl.ld H13.p5 1 rfl
         have t2:=Bl.ld H13.p5 2 rfl
         have t3:=Bl.ld H13.p5 3 rfl
         have t4:=Bl.ld H13.p5 4 rfl
         have b0:=Bl.ld H13.p1 0 rfl
         have b1:=Bl.ld H13.p1 1 rfl
         have n0:=Bl.ld H13.p2 0 rfl
         have n1:=Bl.ld H13.p2 1 rfl
         have n2:=Bl.ld H13.p2 2 rfl
         have n3:=Bl.ld H13.p2 3 rfl
         have n4:=Bl.ld H13.p2 4 rfl
         have n5:=Bl.ld H13.p2 5 rfl
         have n6:=Bl.ld H13.p2 6 rfl
         have l0:=Bl.ld H13.p0 0 rfl
         have l1:=Bl.ld H13.p0 1 rfl
         have l2:=Bl.ld H13.p0 2 rfl
         have l3:=Bl.ld H13.p0 3 rfl
         have l4:=Bl.ld H13.p0 4 rfl
         have l5:=Bl.ld H13.p0 5 rfl
         have l6:=Bl.ld H13.p0 6 rfl
         go_wp2_with fail
         refine (same_l H13.p4 (HS.p0.keep H13.q8)).mono ?_;rintro e w14 ⟨rfl,hb⟩
         have H14:=Yh9 (H13.p0.keep hb) (H13.p1.keep hb) (H13.p2.keep hb) (H13.p3.keep hb) (H13.p4.keep hb) (H13.p5.keep hb) (H13.p6.keep hb) (H13.p7.keep hb) (Yb H13.q8 hb)
         clear H13
         clear hb
         clear i0 i1 i2 i3 i4 i5 i6 t0 t1 t2 t3 t4 b0 b1 n0 n1 n2 n3 n4 n5 n6 l0 l1 l2 l3 l4 l5 l6
         go_wp2_with fail
         go_ret
         exact ⟨rfl,H14.q8⟩
       have hNN:((M:Int) !=(an:Int))=true:=by simp;omega
       go_wp2_with fail
       go_ret
       exact ⟨rfl,H10.q7⟩
     have hNN:((N:Int) !=(an:Int))=true:=by simp;omega
     go_wp2_with fail
     go_ret
     exact ⟨rfl,H10.q7⟩
end I
end
end
section
open Go Go.ChangeShapes Go.WideShapes Go.ChangeAt Go.RowKit Pl
section
variable {H:Type} {enc:TypeId × Value->H} {W W':World} {base:Nat} {v:Value} {d:DataW H} {p:List MemPlace}
def Wg (t:TypeId) (d:DataW H):Prop:=∀ x∈d.weights Tryz.prog t,x<=reachBytes
theorem wAll_mem {e:TypeId} {ds:List (DataW H)} {d:DataW H} (hd:d∈ds) {x:Nat} (hx:x∈d.weights Tryz.prog e):x∈DataW.weightsAll Tryz.prog e ds:=by
 induction ds with
 | nil=>cases hd
 | cons y r ih=>
  simp only [DataW.weightsAll,List.mem_append]
  rcases List.mem_cons.1 hd with rfl | h
  · exact .inl hx
  · exact .inr (ih h)
theorem Wg.slice {t e:TypeId} {es sp:List (DataW H)} (ht:Tryz.prog.underlying t=some (.slice e)) (h:Wg t (.slice es sp)):(es.length+sp.length)*Tryz.prog.bytesOf e<=reachBytes/\∀ d∈es,Wg e d:=by
 have e1:(DataW.slice es sp).weights Tryz.prog t=(es.length+sp.length)*Tryz.prog.bytesOf e::(DataW.weightsAll Tryz.prog e es++DataW.weightsAll Tryz.prog e sp):=by
  simp only [DataW.weights,ht]
 unfold Wg at h
 rw [e1] at h
 refine ⟨h _ (List.mem_cons_self ..),fun d hd x hx=>h x (List.mem_cons_of_mem _ (List.mem_append_left _ (wAll_mem hd hx)))⟩
theorem Wg.agg {t:TypeId} {fs:Array Field} {ps:List (DataW H)} (ht:Tryz.prog.underlying t=some (.struct fs)) (h:Wg t (.agg ps)):∀ x∈DataW.weightsEach Tryz.prog (fs.toList.map (·.type)) ps,x<=reachBytes:=by
 have e1:(DataW.agg ps).weights Tryz.prog t=DataW.weightsEach Tryz.prog (fs.toList.map (·.type)) ps:=by
  simp only [DataW.weights,ht]
 unfold Wg at h
 rw [e1] at h
 exact h
theorem each_cons {t:TypeId} {ts:List TypeId} {d:DataW H} {r:List (DataW H)} (h:∀ x∈DataW.weightsEach Tryz.prog (t::ts) (d::r),x<=reachBytes):Wg t d/\∀ x∈DataW.weightsEach Tryz.prog ts r,x<=reachBytes:=by
 simp only [DataW.weightsEach,List.mem_append] at h
 exact ⟨fun x hx=>h x (.inl hx),fun x hx=>h x (.inr hx)⟩
theorem row_of {α:Type} [Inhabited α] {t e:TypeId} {s:Nat} {fuel:Nat} {y:DataW H × List MemPlace} (f:α->List Value) (Px:α->DataW H->Prop) (ht:Tryz.prog.underlying t=some (.slice e)) (hs:Tryz.prog.cellsOf e=s) (hf:∀ x,(f x).length=s) (h0:0<s)
 (hel:∀ n cs z,cs.length=s->DataW.trod enc Tryz.prog W 0 (fun _=>true) true n e cs=some z->∃ x,f x=cs/\Px x z.1)
 (h:DataW.trod enc Tryz.prog W 0 (fun _=>true) true fuel t [v]=some y):
 ∃ xs:List α,Rv W f v xs/\(Wg t y.1->xs.length*Tryz.prog.bytesOf e<=reachBytes/\∀ x∈xs,∃ d,Px x d/\Wg e d)/\∀ x∈xs,∃ d,Px x d:=by
 rcases Go.Deep.open_slice ht h with ⟨hcs,hx⟩ | ⟨a,len,cap,m,n,D,Pl,hcs,-,hl,hm,hmm,hx,hi⟩
 · obtain rfl:v=.slice none 0 0:=by simpa using hcs
   exact ⟨[],⟨none,0,rfl,Nat.le_refl _,Nat.zero_le _,fun _=>rfl,.inl rfl⟩,fun _=>⟨by simp,by simp⟩,by simp⟩
 · obtain rfl:v=.slice (some a) len cap:=by simpa using hcs
   have hlm:len<=m:=by simp only [if_true] at hmm;omega
   obtain ⟨X,hX⟩:=Go.Deep.choose_lt (α:=α) (n:=len) (p:=fun i x=>(∀ j u,(f x)[j]?=some u->W.cell? ((a.add (i*s)).add j)=some u)/\Px x (D i)) (fun i hil=>by
    obtain ⟨cs',h1,h2⟩:=hi i Yo
    rw [hs] at h1
    obtain ⟨-,h3,h4⟩:=World.cells?_some h1
    obtain ⟨x,hx1,hx2⟩:=hel _ _ _ h3 h2
    refine ⟨x,fun j u hj=>?_,hx2⟩
    rw [hx1] at hj
    have hjs:j<s:=by rw [<- h3];exact (List.getElem?_eq_some_iff.1 hj).1
    rw [h4 j hjs];exact hj)
   refine ⟨(List.range len).map X,⟨some a,cap,by simp,by simpa using hl,hm,by simp,?_⟩,fun hw=>⟨?_,fun x hx'=>?_⟩,fun x hx'=>?_⟩
   · rcases Nat.eq_zero_or_pos len with hz | hp
     · left;subst hz;rfl
     · have c0:=(hX 0 hp).1 0
       have hfx:∃ u,(f (X 0))[0]?=some u:=⟨_,List.getElem?_eq_getElem (by rw [hf];exact h0)⟩
       obtain ⟨u0,hu0⟩:=hfx
       have c0:=c0 u0 hu0
       obtain ⟨b,off,spot⟩:=a
       have hspot:spot=none:=by simpa [Addr.add] using World.cell?_spot c0
       subst hspot
       refine .inr ⟨b,off,rfl,?_,fun i u hu=>?_⟩
       · have:=World.block_lt_of_cell? W _ c0
         simpa [Addr.add] using this
       · have hlen:i<len*s:=by
          have:=(List.getElem?_eq_some_iff.1 hu).1
          rw [flat_len hf,List.length_map,List.length_range] at this
          exact this
         have hi1:i / s<len:=(Nat.div_lt_iff_lt_mul h0).2 hlen
         have hi2:i % s<s:=Nat.mod_lt _ h0
         have hxi:((List.range len).map X)[i / s]?=some (X (i / s)):=by rw [List.getElem?_map,List.getElem?_range hi1];rfl
         obtain ⟨u',hu'⟩:∃ u',(f (X (i / s)))[i % s]?=some u':=⟨_,List.getElem?_eq_getElem (by rw [hf];exact hi2)⟩
         have e2:=flat_at hf hxi hu'
         have e3:i / s*s+i % s=i:=by rw [Nat.mul_comm];exact Nat.div_add_mod i s
         rw [e3] at e2
         rw [e2] at hu
         have hc:=(hX (i / s) hi1).1 (i % s) u' hu'
         rw [Go.Deep.add_add,e3,Go.WideShapes.add_plain] at hc
         rw [<- Option.some.inj hu];exact hc
   · rw [hx] at hw
     have:=(Wg.slice ht hw).1
     simp only [List.length_map,List.length_range] at this ⊢
     exact Nat.le_trans (Nat.mul_le_mul_right _ (Nat.le_add_right ..)) this
   · rw [hx] at hw
     obtain ⟨i,hi',rfl⟩:=List.mem_map.1 hx'
     have hil:=List.mem_range.1 hi'
     exact ⟨D i,(hX i hil).2,(Wg.slice ht hw).2 _ (List.mem_map.2 ⟨i,hi',rfl⟩)⟩
   · obtain ⟨i,hi',rfl⟩:=List.mem_map.1 hx'
     exact ⟨D i,(hX i (List.mem_range.1 hi')).2⟩
end
end
end Go.Proofs.YtaajajngnmaggaaGreat
