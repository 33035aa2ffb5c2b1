import Derived.Test.YtaajajngnmaggaaGreatLNA28
import Derived.Test.YtaajajngnmaggaaGreatLNA27
import Derived.Test.YtaajajngnmaggaaGreatRows
import Derived.Deep.Slices
import Derived.Deep.Strs
import Derived.OpenShut
import Derived.ChangeArms
import Derived.ShutString
import Derived.ProofKit
import Derived.HandedShaped
import Derived.WideKeyArgs
import Derived.ChangeSame
set_option maxRecDepth 100000
set_option maxHeartbeats 8000000
set_option linter.unusedVariables false
set_option linter.unusedSimpArgs false
namespace Go.Proofs.YtaajajngnmaggaaGreat
section
section
open Go Go.RowKit Go.Proofs Pl
def StandsQ (l:LPx) (bs st:List Int):Prop:=RightX l/\StandsP l bs st/\bs.length<=20/\st.length<=20
namespace I
theorem stands13 {w:World} {v u y:Value} {l:LPx} {bs st:List Int} (h:LPv w v l) (hb:Iv w u bs) (hs:Iv w y st) (hf:Sane l):
 Calls Tryz.prog 32 #[v,.agg #[u,y]] w fun e w'=>Saysb (fun r=>r=true->StandsQ l bs st) e/\Yg w w':=by
 have hlp:=h
 obtain ⟨aA,an,ac,bA,bn,bc,cA,cn,cc,dA,dn,dc,eA,en,ec,fA,fn,fc,rfl,hP,hla,hlb,hlc,hld,hle,hlf,hma,hmb,hmc,hmd,hme,hmf⟩:=h.open
 obtain ⟨Au,cu,rfl,-,-⟩:=hb.shape
 obtain ⟨Av,cv,rfl,-,-⟩:=hs.shape
 obtain ⟨n,hn⟩:∃ n,bs.length=n:=⟨_,rfl⟩
 obtain ⟨m,hm⟩:∃ m,st.length=m:=⟨_,rfl⟩
 rw [hn] at hb ⊢
 rw [hm] at hs ⊢
 have HS:=Yh3 hlp hb hs
 have HN:=Yh2 hn hm
 have HF:=Lib.hid hf
 clear hP hlp hb hs hn hm hf hla hlb hlc hld hle hlf hma hmb hmc hmd hme hmf h
 change Calls Tryz.prog 32 #[.agg #[.int .i64 l.n,.slice aA an ac,.slice bA bn bc,.slice cA cn cc,.slice dA dn dc,.slice eA en ec,.slice fA fn fc],.agg #[.slice Au n cu,.slice Av m cv]] w _
 go_enter Tryz.func32,Tryz.ntmps32
 go_upto_region 1 with (fail)
 obtain ⟨hX,hT,hB⟩:=box2 w 26 75 [.int .i64 l.n,.slice aA an ac,.slice bA bn bc,.slice cA cn cc,.slice dA dn dc,.slice eA en ec,.slice fA fn fc] [.slice Au n cu,.slice Av m cv]
 have HX:=Yh3 hX hT hB
 clear hX hT hB
 generalize (w.alloc _).alloc _=W0 at HX ⊢
 have l0:=Bl.ld HX.p0 0 rfl
 have l1:=Bl.ld HX.p0 1 rfl
 have l2:=Bl.ld HX.p0 2 rfl
 have l3:=Bl.ld HX.p0 3 rfl
 have l4:=Bl.ld HX.p0 4 rfl
 have l5:=Bl.ld HX.p0 5 rfl
 have l6:=Bl.ld HX.p0 6 rfl
 go_wp2_with fail
 refine (great_l (HS.p0.keep HX.q2) HF.out).mono ?_;rintro e w1 ⟨⟨r,rfl,hr⟩,hb⟩
 have H1:=Yh3 (HX.p0.keep hb) (HX.p1.keep hb) (Yb HX.q2 hb)
 have HR:=Lib.hid hr
 clear hb hr HX l0 l1 l2 l3 l4 l5 l6
 cases r with
 | true=>
  go_wp2_with fail
  go_ret
  exact ⟨⟨false,rfl,fun h=>by cases h⟩,H1.q2⟩
 | false=>
  have HFT:=Lib.hid (HR.out rfl)
  clear HR
  by_cases hn20:(n:Int)<=20
  · skip
    by_cases hm20:(m:Int)<=20
    · skip
      have q0:=Bl.ld H1.p1 0 rfl
      have q1:=Bl.ld H1.p1 1 rfl
      have l0:=Bl.ld H1.p0 0 rfl
      have l1:=Bl.ld H1.p0 1 rfl
      have l2:=Bl.ld H1.p0 2 rfl
      have l3:=Bl.ld H1.p0 3 rfl
      have l4:=Bl.ld H1.p0 4 rfl
      have l5:=Bl.ld H1.p0 5 rfl
      have l6:=Bl.ld H1.p0 6 rfl
      go_wp2_with fail
      refine (right_d (HS.p0.keep H1.q2) HFT.p0).mono ?_;rintro e w2 ⟨⟨r,rfl,hr⟩,hb⟩
      have H2:=Yh3 (H1.p0.keep hb) (H1.p1.keep hb) (Yb H1.q2 hb)
      have HR:=Lib.hid hr
      clear hb hr H1 q0 q1 l0 l1 l2 l3 l4 l5 l6
      cases r with
      | false=>
       go_wp2_with fail
       go_ret
       exact ⟨⟨false,rfl,fun h=>by cases h⟩,H2.q2⟩
      | true=>
       have HRX:=Lib.hid (HR.out.1 rfl)
       clear HR
       have q0:=Bl.ld H2.p1 0 rfl
       have q1:=Bl.ld H2.p1 1 rfl
       have l0:=Bl.ld H2.p0 0 rfl
       have l1:=Bl.ld H2.p0 1 rfl
       have l2:=Bl.ld H2.p0 2 rfl
       have l3:=Bl.ld H2.p0 3 rfl
       have l4:=Bl.ld H2.p0 4 rfl
       have l5:=Bl.ld H2.p0 5 rfl
       have l6:=Bl.ld H2.p0 6 rfl
       go_wp2_with fail
       refine (stands_d (HS.p0.keep H2.q2) (HS.p1.keep H2.q2) (HS.q2.keep H2.q2) (by rw [HN.p0];omega) (by rw [HN.q1];omega) HRX.p0.2.2.2.2.1 HRX.p0.2.2.2.2.2.1 HRX.p0.1 HFT.p0.1 HRX.p0.2.1).mono ?_;rintro e w3 ⟨⟨r,rfl,hr⟩,hb⟩
       have H3:=Yh2 (Yb H2.q2 hb) hr
       clear hb hr H2 q0 q1 l0 l1 l2 l3 l4 l5 l6
       go_wp2_with fail
       go_ret
       exact ⟨⟨r,rfl,fun e=>⟨HRX.out,H3.q1 e,by rw [HN.p0];omega,by rw [HN.q1];omega⟩⟩,H3.p0⟩
    have q0:=Bl.ld H1.p1 0 rfl
    have q1:=Bl.ld H1.p1 1 rfl
    go_wp2_with fail
    go_ret
    exact ⟨⟨false,rfl,fun h=>by cases h⟩,H1.q2⟩
  have q0:=Bl.ld H1.p1 0 rfl
  have q1:=Bl.ld H1.p1 1 rfl
  go_wp2_with fail
  go_ret
  exact ⟨⟨false,rfl,fun h=>by cases h⟩,H1.q2⟩
end I
namespace I
theorem leaves_walk {w:World} {v u y z:Value} {l:LPx} {bs st:List Int} {xs:List Fx} (h:LPv w v l) (hf:Sane l) (hb1:l.hasLo.length<=140737488355328) (hb2:l.hasHi.length<=140737488355328) (hb:Iv w u bs) (hbl:bs.length<=17592186044416) (hs:Iv w y st) (hx:Rx w z xs) (hxs:∀ f∈xs,f.xs.length<=2305843009213693951/\f.ds.length<=2305843009213693951):
 Calls Tryz.prog 6 #[v,.agg #[u,y],z] w fun e w'=>e=.returned (.bool true)/\Yg w w':=by
 have hlp:=h
 obtain ⟨aA,an,ac,bA,bn,bc,cA,cn,cc,dA,dn,dc,eA,en,ec,fA,fn,fc,rfl,hP,hla,hlb,hlc,hld,hle,hlf,hma,hmb,hmc,hmd,hme,hmf⟩:=h.open
 obtain ⟨Au,cu,rfl,hz1,hz2⟩:=hb.shape
 obtain ⟨Av,cv,rfl,-,-⟩:=hs.shape
 obtain ⟨Ax,cx,rfl,-,-⟩:=hx.shape
 obtain ⟨n,hn⟩:∃ n,bs.length=n:=⟨_,rfl⟩
 obtain ⟨m,hm⟩:∃ m,st.length=m:=⟨_,rfl⟩
 obtain ⟨N,hN⟩:∃ n,xs.length=n:=⟨_,rfl⟩
 rw [hn] at hb hbl ⊢
 rw [hm] at hs ⊢
 rw [hN] at hx ⊢
 have HS:=Yh4 hlp hb hs hx
 have HN:=Yh3 hn hm hN
 have HF:=Yh2 hf hxs
 have HB2:=Yh3 hb1 hb2 hbl
 have HAN:=Lib.hid hla
 clear hP hlp hb hs hx hn hm hN hf hxs hb1 hb2 hbl hz1 hz2 hla hlb hlc hld hle hlf hma hmb hmc hmd hme hmf h
 change Calls Tryz.prog 6 #[.agg #[.int .i64 l.n,.slice aA an ac,.slice bA bn bc,.slice cA cn cc,.slice dA dn dc,.slice eA en ec,.slice fA fn fc],.agg #[.slice Au n cu,.slice Av m cv],.slice Ax N cx] w _
 go_enter Tryz.func6,Tryz.ntmps6
 go_upto_region 1 with (fail)
 obtain ⟨hX,hT,hB⟩:=box2 w 26 75 [.int .i64 l.n,.slice aA an ac,.slice bA bn bc,.slice cA cn cc,.slice dA dn dc,.slice eA en ec,.slice fA fn fc] [.slice Au n cu,.slice Av m cv]
 have HX:=Yh3 hX hT hB
 clear hX hT hB
 generalize (w.alloc _).alloc _=W0 at HX ⊢
 go_wp2_with fail
 refine (speaks13).mono ?_;rintro e w1 ⟨rfl,hb⟩
 have H1:=Yh3 (HX.p0.keep hb) (HX.p1.keep hb) (Yb HX.q2 hb)
 clear hb HX
 go_wp2_with fail
 refine (greatAll_r (HS.q3.keep H1.q2) HF.q1).mono ?_;rintro e w2 ⟨⟨r,rfl,hr⟩,hb⟩
 have H2:=Yh3 (H1.p0.keep hb) (H1.p1.keep hb) (Yb H1.q2 hb)
 have HR:=Lib.hid hr
 clear hb hr H1
 cases r with
 | true=>
  go_wp2_with fail
  go_ret
  exact ⟨rfl,H2.q2⟩
 | false=>
  have HXL:=Lib.hid (HR.out rfl)
  clear HR
  have l0:=Bl.ld H2.p0 0 rfl
  have l1:=Bl.ld H2.p0 1 rfl
  have l2:=Bl.ld H2.p0 2 rfl
  have l3:=Bl.ld H2.p0 3 rfl
  have l4:=Bl.ld H2.p0 4 rfl
  have l5:=Bl.ld H2.p0 5 rfl
  have l6:=Bl.ld H2.p0 6 rfl
  go_wp2_with fail
  refine (great_l (HS.p0.keep H2.q2) HF.p0).mono ?_;rintro e w3 ⟨⟨r,rfl,hr⟩,hb⟩
  have H3:=Yh3 (H2.p0.keep hb) (H2.p1.keep hb) (Yb H2.q2 hb)
  have HR:=Lib.hid hr
  clear hb hr H2 l0 l1 l2 l3 l4 l5 l6
  cases r with
  | true=>
   go_wp2_with fail
   go_ret
   exact ⟨rfl,H3.q2⟩
  | false=>
   have HFT:=Lib.hid (HR.out rfl)
   clear HR
   have HXW:Hid (∀ f∈xs,f.xs.length<=6/\f.ds.length<=6):=fun f hf=>by have:=HXL.q1 f hf;omega
   have HXN:Hid (xs.length<=30):=HXL.p0
   go_wp2_with fail
   go_loopw [7] (fun z wr=>∃ i:Nat,z=.int .i64 (i:Int)/\i<=2/\Hid (Bl wr 26 w.heap.size [.int .i64 l.n,.slice aA an ac,.slice bA bn bc,.slice cA cn cc,.slice dA dn dc,.slice eA en ec,.slice fA fn fc]/\Bl wr 75 (w.heap.size+1) [.slice Au n cu,.slice Av m cv]/\Yg w wr)) (fun z _=>2 - (intOf z).toNat)
   case atStart=>exact ⟨0,rfl,Yd,H3.out⟩
   case round=>
    obtain ⟨i,rfl,hi,H⟩:=hrel
    by_cases hlt:i<2
    · skip
      rcases (show i=0∨i=1 by omega) with rfl | rfl
      · skip
        have HB:=Lib.hid H.q2
        go_upto_region 8 with (fail)
        refine flow (fun W=>Yg wr W/\W.cell? ⟨w.heap.size,0,none⟩=some (.int .i64 l.n)/\W.cell? ⟨w.heap.size,1,none⟩=some (.slice aA an ac)/\W.cell? ⟨w.heap.size,2,none⟩=some (.slice bA bn bc)/\W.cell? ⟨w.heap.size,3,none⟩=some (.slice cA cn cc)/\W.cell? ⟨w.heap.size,4,none⟩=some (.slice dA dn dc)/\W.cell? ⟨w.heap.size,5,none⟩=some (.slice eA en ec)/\W.cell? ⟨w.heap.size,6,none⟩=some (.slice fA fn fc)/\W.cell? ⟨(w.heap.size+1),0,none⟩=some (.slice Au n cu)/\W.cell? ⟨(w.heap.size+1),1,none⟩=some (.slice Av m cv)) (fun _ _=>True) (fun _ _=>False) 0 [⟨[],[(0,27),(3,30),(4,31),(6,33),(8,35),(9,36)],[],[(1,28,fun v W=>∃ A1 n1 c1 A2 n2 c2 A3 n3 c3 A4 n4 c4 A5 n5 c5 A6 n6 c6,v=.agg #[.int .i64 l.n,.slice A1 n1 c1,.slice A2 n2 c2,.slice A3 n3 c3,.slice A4 n4 c4,.slice A5 n5 c5,.slice A6 n6 c6]/\LPv W (.agg #[.int .i64 l.n,.slice A1 n1 c1,.slice A2 n2 c2,.slice A3 n3 c3,.slice A4 n4 c4,.slice A5 n5 c5,.slice A6 n6 c6]) l),(2,29,fun v W=>∃ g,v=.slice (some ⟨g,0,none⟩) 0 0/\Bl W 3 g []),(7,34,fun v W=>∃ A c,v=.slice A N c/\Rx W (.slice A N c) xs)]⟩,⟨[(2,29)],[(3,30),(4,31)],[],[(5,32,fun v W=>∃ A c,v=.slice A n c/\Iv W (.slice A n c) bs)]⟩,⟨[(10,37)],[(11,26),(12,38),(13,39),(14,40),(15,8),(16,9),(17,10)],[],[]⟩,⟨[(1,28),(5,32),(7,34)],[(8,35),(9,36)],[],[(10,37,fun v W=>∃ p up ok,v=.tuple #[.int .i64 p,.bool up,.bool ok]/\(fitsX l [(N:Int)]=true->leaveX l bs xs true=(p,up,ok)))]⟩] [] [] ⟨[(1,28),(2,29),(5,32),(7,34),(10,37)],[(0,27),(3,30),(4,31),(6,33),(8,35),(9,36),(11,26),(12,38),(13,39),(14,40),(15,8),(16,9),(17,10)],[],[]⟩ ⟨below_nil,Bl.ld (H.p0.keep below_nil) 0 rfl,Bl.ld (H.p0.keep below_nil) 1 rfl,Bl.ld (H.p0.keep below_nil) 2 rfl,Bl.ld (H.p0.keep below_nil) 3 rfl,Bl.ld (H.p0.keep below_nil) 4 rfl,Bl.ld (H.p0.keep below_nil) 5 rfl,Bl.ld (H.p0.keep below_nil) 6 rfl,Bl.ld (H.p1.keep below_nil) 0 rfl,Bl.ld (H.p1.keep below_nil) 1 rfl⟩ (trivial) (fun _ _ h b=>⟨(Yb h.1 b),Bl.ld (H.p0.keep (Yb h.1 b)) 0 rfl,Bl.ld (H.p0.keep (Yb h.1 b)) 1 rfl,Bl.ld (H.p0.keep (Yb h.1 b)) 2 rfl,Bl.ld (H.p0.keep (Yb h.1 b)) 3 rfl,Bl.ld (H.p0.keep (Yb h.1 b)) 4 rfl,Bl.ld (H.p0.keep (Yb h.1 b)) 5 rfl,Bl.ld (H.p0.keep (Yb h.1 b)) 6 rfl,Bl.ld (H.p1.keep (Yb h.1 b)) 0 rfl,Bl.ld (H.p1.keep (Yb h.1 b)) 1 rfl⟩) (fun _ _ _ h _=>h) ⟨fun _ _ _ ⟨A1,n1,c1,A2,n2,c2,A3,n3,c3,A4,n4,c4,A5,n5,c5,A6,n6,c6,e,h⟩ b=>⟨A1,n1,c1,A2,n2,c2,A3,n3,c3,A4,n4,c4,A5,n5,c5,A6,n6,c6,e,h.keep b⟩,fun _ _ _ _ h=>h.elim,⟨fun _ _ _ ⟨g,e,h⟩ b=>⟨g,e,h.keep b⟩,fun _ _ _ _ h=>h.elim,⟨fun _ _ _ ⟨A,c,e,h⟩ b=>⟨A,c,e,h.keep b⟩,fun _ _ _ _ h=>h.elim,⟨fun _ _ _ ⟨A,c,e,h⟩ b=>⟨A,c,e,h.keep b⟩,fun _ _ _ _ h=>h.elim,⟨fun _ _ _ h _=>h,fun _ _ _ _ h=>h.elim,trivial⟩⟩⟩⟩⟩ ⟨?_,?_,?_,?_,trivial⟩ trivial trivial ?_
        · rintro W hS
          refine gvN ?_;(repeat refine flA ?_);refine flN (flN ?_)
          refine flK (fun K hK=>?_) (flK (fun K hK=>?_) (flK (fun K hK=>?_) flL))
          · go_simp
            go_at_call 11;refine (copy_l (HS.p0.keep (Yb HB.out hS.1)) HFT.out HB2.p0 HB2.p1).mono ?_;rintro e W2 ⟨u,rfl,h⟩
            have h2:=h.lpv
            obtain ⟨A1,n1,c1,A2,n2,c2,A3,n3,c3,A4,n4,c4,A5,n5,c5,A6,n6,c6,rfl,-⟩:=h2.open
            go_wp2_with fail
            exact hK.out _ _ ⟨⟨_,_,_,_,_,_,_,_,_,_,_,_,_,_,_,_,_,_,rfl,h.lpv⟩,h.below⟩
          · have hal:=Ya W (.cells #[] 3)
            go_simp
            exact hK.out _ _ ⟨⟨_,rfl,Bl.new W 3 []⟩,hal⟩
          · go_simp
            go_at_call 31;refine (copyAll_r (HS.q3.keep (Yb HB.out hS.1)) (Nat.le_trans HXN.out Yd) (fun f hf=>⟨Nat.le_trans (HXW.out f hf).1 Yd,Nat.le_trans (HXW.out f hf).2 Yd⟩)).mono ?_;rintro e W2 ⟨u,rfl,h⟩
            have hb:=h.below
            have h:=h.rx
            obtain ⟨A,c,hv,-⟩:=h.shape
            rw [HN.q2] at hv
            subst hv
            go_wp2_with fail
            exact hK.out _ _ ⟨⟨_,_,rfl,h⟩,hb⟩
        · rintro W hS v2 ⟨g2,rfl,h2⟩
          refine gvN ?_;(repeat refine flA ?_);refine flN (flN ?_)
          refine flK (fun K hK=>?_) flL
          rw [if_pos (by rfl)]
          refine app_lit (B:=0) (f:=ics) (ys:=bs) Tryz.underlying73 int_info ⟨Yd,rfl⟩ ics_len ics_one (.tmp 29) (.tmp 31) rfl rfl rfl h2 (Nat.zero_le _) (HS.p1.keep (Yb HB.out hS.1)) (by have:=HB2.q2;have:=HN.p0;omega) ?_
          rw [HN.p0]
          intro A c W2 k1 hb
          exact hK.out _ _ ⟨⟨_,_,rfl,k1.rv⟩,hb⟩
        · rintro W hS v10 ⟨p,up,ok,rfl,h10⟩
          refine gvN ?_;(repeat refine flA ?_);refine flN (flN ?_)
          exact flL
        · rintro W hS v1 ⟨A1,n1,c1,A2,n2,c2,A3,n3,c3,A4,n4,c4,A5,n5,c5,A6,n6,c6,rfl,h1⟩ v5 ⟨A8,c8,rfl,h5⟩ v7 ⟨A9,c9,rfl,h7⟩
          refine gvN ?_;(repeat refine flA ?_);refine flN (flN ?_)
          refine flK (fun K hK=>?_) flL
          go_simp
          go_at_call 30;refine (leave_v (first:=true) h1 h5 h7 HFT.out HXW.out HXN.out).mono ?_;rintro e W2 ⟨p,up,ok,rfl,hb,h⟩
          rw [HN.q2] at h
          go_wp2_with fail
          exact hK.out _ _ ⟨⟨_,_,_,rfl,h⟩,hb⟩
        rintro W hS - v1 ⟨A1,n1,c1,A2,n2,c2,A3,n3,c3,A4,n4,c4,A5,n5,c5,A6,n6,c6,rfl,h1⟩ v2 ⟨g2,rfl,h2⟩ v5 ⟨A8,c8,rfl,h5⟩ v7 ⟨A9,c9,rfl,h7⟩ v10 ⟨p,up,ok,rfl,h10⟩
        have hS:=hS flY
        refine gvN ?_;(repeat refine flA ?_);refine flN (flN ?_)
        obtain ⟨W8,hWW⟩:∃ X,X=W:=⟨_,rfl⟩
        subst hWW
        have H8:=Yh3 (H.p0.keep hS.1) (H.p1.keep hS.1) (Yb HB.out hS.1)
        have H10:=Lib.hid h10
        clear hS H HB h10 h1 h2 h5 h7
        have l0:=Bl.ld H8.p0 0 rfl
        have l1:=Bl.ld H8.p0 1 rfl
        have l2:=Bl.ld H8.p0 2 rfl
        have l3:=Bl.ld H8.p0 3 rfl
        have l4:=Bl.ld H8.p0 4 rfl
        have l5:=Bl.ld H8.p0 5 rfl
        have l6:=Bl.ld H8.p0 6 rfl
        have q0:=Bl.ld H8.p1 0 rfl
        have q1:=Bl.ld H8.p1 1 rfl
        go_wp2_with fail
        refine (stands13 (HS.p0.keep H8.q2) (HS.p1.keep H8.q2) (HS.p2.keep H8.q2) HF.p0).mono ?_;rintro e w9 ⟨⟨r,rfl,hr⟩,hb⟩
        have H9:=Yh3 (H8.p0.keep hb) (H8.p1.keep hb) (Yb H8.q2 hb)
        have HR:=Lib.hid hr
        clear hb hr H8 q0 q1 l0 l1 l2 l3 l4 l5 l6
        cases r with
        | false=>
         go_wp2_with fail
         case roundEnd=>exact ⟨⟨0+1,by go_num,Yo,H9.out⟩,by simp [intOf]⟩
        | true=>
         have HSQ:=Lib.hid (HR.out rfl)
         clear HR
         have l0:=Bl.ld H9.p0 0 rfl
         have l1:=Bl.ld H9.p0 1 rfl
         have l2:=Bl.ld H9.p0 2 rfl
         have l3:=Bl.ld H9.p0 3 rfl
         have l4:=Bl.ld H9.p0 4 rfl
         have l5:=Bl.ld H9.p0 5 rfl
         have l6:=Bl.ld H9.p0 6 rfl
         by_cases hNa:N=an
         · skip
           subst hNa
           have hNN:((N:Int) !=(N:Int))=false:=by simp
           have HFO:Hid (fitsOne l xs.length):=by
            rw [HN.q2,<- HAN.out]
            have:=HSQ.p0.1
            exact ⟨rfl,this.2.2.1,this.2.2.2.1,this.2.2.2.2.1,this.2.2.2.2.2.1⟩
           have HL0:Hid (∀ (i:Nat) b,bs[i]?=some b->0<=b/\b<(xs.length:Int)):=fun j b hb=>by
            have h1:=HSQ.p1.2.1 j b hb
            rw [HSQ.p1.1,HAN.out] at h1
            rw [HN.q2];exact h1
           have HLX:Hid (leaveX l bs xs true=(p,up,ok)):=H10.out (by
            have h1:=HFO.out
            rw [HN.q2] at h1
            obtain ⟨e1,e2,e3,e4,e5⟩:=h1
            simp [fitsX,allIs,e1,e2,e3,e4,e5])
           have q0:=Bl.ld H9.p1 0 rfl
           have q1:=Bl.ld H9.p1 1 rfl
           go_wp2_with fail
           refine (leave_d (first:=true) (HS.p0.keep H9.q2) (HS.p1.keep H9.q2) (HS.q3.keep H9.q2) HFT.out HFO.out HXW.out HXN.out HSQ.p2 HL0.out).mono ?_;rintro e w11 ⟨p2,up2,ok2,rfl,hb,hl2⟩
           rw [HLX.out] at hl2
           injection hl2 with e1 e2;injection e2 with e2 e3;subst e1;subst e2;subst e3
           have H11:=Yh3 (H9.p0.keep hb) (H9.p1.keep hb) (Yb H9.q2 hb)
           clear hb H9 q0 q1 l0 l1 l2 l3 l4 l5 l6
           have hpp:(p !=p)=false:=by simp
           have hup:(up !=up)=false:=by simp
           have hok:(ok !=ok)=false:=by simp
           go_wp2_with fail
           case roundEnd=>exact ⟨⟨0+1,by go_num,Yo,H11.out⟩,by simp [intOf]⟩
         have hNN:((N:Int) !=(an:Int))=true:=by simp;omega
         go_wp2_with fail
         case roundEnd=>exact ⟨⟨0+1,by go_num,Yo,H9.out⟩,by simp [intOf]⟩
      have HB:=Lib.hid H.q2
      go_upto_region 8 with (fail)
      refine flow (fun W=>Yg wr W/\W.cell? ⟨w.heap.size,0,none⟩=some (.int .i64 l.n)/\W.cell? ⟨w.heap.size,1,none⟩=some (.slice aA an ac)/\W.cell? ⟨w.heap.size,2,none⟩=some (.slice bA bn bc)/\W.cell? ⟨w.heap.size,3,none⟩=some (.slice cA cn cc)/\W.cell? ⟨w.heap.size,4,none⟩=some (.slice dA dn dc)/\W.cell? ⟨w.heap.size,5,none⟩=some (.slice eA en ec)/\W.cell? ⟨w.heap.size,6,none⟩=some (.slice fA fn fc)/\W.cell? ⟨(w.heap.size+1),0,none⟩=some (.slice Au n cu)/\W.cell? ⟨(w.heap.size+1),1,none⟩=some (.slice Av m cv)) (fun _ _=>True) (fun _ _=>False) 0 [⟨[],[(0,27),(3,30),(4,31),(6,33),(8,35),(9,36)],[],[(1,28,fun v W=>∃ A1 n1 c1 A2 n2 c2 A3 n3 c3 A4 n4 c4 A5 n5 c5 A6 n6 c6,v=.agg #[.int .i64 l.n,.slice A1 n1 c1,.slice A2 n2 c2,.slice A3 n3 c3,.slice A4 n4 c4,.slice A5 n5 c5,.slice A6 n6 c6]/\LPv W (.agg #[.int .i64 l.n,.slice A1 n1 c1,.slice A2 n2 c2,.slice A3 n3 c3,.slice A4 n4 c4,.slice A5 n5 c5,.slice A6 n6 c6]) l),(2,29,fun v W=>∃ g,v=.slice (some ⟨g,0,none⟩) 0 0/\Bl W 3 g []),(7,34,fun v W=>∃ A c,v=.slice A N c/\Rx W (.slice A N c) xs)]⟩,⟨[(2,29)],[(3,30),(4,31)],[],[(5,32,fun v W=>∃ A c,v=.slice A n c/\Iv W (.slice A n c) bs)]⟩,⟨[(10,37)],[(11,26),(12,38),(13,39),(14,40),(15,8),(16,9),(17,10)],[],[]⟩,⟨[(1,28),(5,32),(7,34)],[(8,35),(9,36)],[],[(10,37,fun v W=>∃ p up ok,v=.tuple #[.int .i64 p,.bool up,.bool ok]/\(fitsX l [(N:Int)]=true->leaveX l bs xs false=(p,up,ok)))]⟩] [] [] ⟨[(1,28),(2,29),(5,32),(7,34),(10,37)],[(0,27),(3,30),(4,31),(6,33),(8,35),(9,36),(11,26),(12,38),(13,39),(14,40),(15,8),(16,9),(17,10)],[],[]⟩ ⟨below_nil,Bl.ld (H.p0.keep below_nil) 0 rfl,Bl.ld (H.p0.keep below_nil) 1 rfl,Bl.ld (H.p0.keep below_nil) 2 rfl,Bl.ld (H.p0.keep below_nil) 3 rfl,Bl.ld (H.p0.keep below_nil) 4 rfl,Bl.ld (H.p0.keep below_nil) 5 rfl,Bl.ld (H.p0.keep below_nil) 6 rfl,Bl.ld (H.p1.keep below_nil) 0 rfl,Bl.ld (H.p1.keep below_nil) 1 rfl⟩ (trivial) (fun _ _ h b=>⟨(Yb h.1 b),Bl.ld (H.p0.keep (Yb h.1 b)) 0 rfl,Bl.ld (H.p0.keep (Yb h.1 b)) 1 rfl,Bl.ld (H.p0.keep (Yb h.1 b)) 2 rfl,Bl.ld (H.p0.keep (Yb h.1 b)) 3 rfl,Bl.ld (H.p0.keep (Yb h.1 b)) 4 rfl,Bl.ld (H.p0.keep (Yb h.1 b)) 5 rfl,Bl.ld (H.p0.keep (Yb h.1 b)) 6 rfl,Bl.ld (H.p1.keep (Yb h.1 b)) 0 rfl,Bl.ld (H.p1.keep (Yb h.1 b)) 1 rfl⟩) (fun _ _ _ h _=>h) ⟨fun _ _ _ ⟨A1,n1,c1,A2,n2,c2,A3,n3,c3,A4,n4,c4,A5,n5,c5,A6,n6,c6,e,h⟩ b=>⟨A1,n1,c1,A2,n2,c2,A3,n3,c3,A4,n4,c4,A5,n5,c5,A6,n6,c6,e,h.keep b⟩,fun _ _ _ _ h=>h.elim,⟨fun _ _ _ ⟨g,e,h⟩ b=>⟨g,e,h.keep b⟩,fun _ _ _ _ h=>h.elim,⟨fun _ _ _ ⟨A,c,e,h⟩ b=>⟨A,c,e,h.keep b⟩,fun _ _ _ _ h=>h.elim,⟨fun _ _ _ ⟨A,c,e,h⟩ b=>⟨A,c,e,h.keep b⟩,fun _ _ _ _ h=>h.elim,⟨fun _ _ _ h _=>h,fun _ _ _ _ h=>h.elim,trivial⟩⟩⟩⟩⟩ ⟨?_,?_,?_,?_,trivial⟩ trivial trivial ?_
      · rintro W hS
        refine gvN ?_;(repeat refine flA ?_);refine flN (flN ?_)
        refine flK (fun K hK=>?_) (flK (fun K hK=>?_) (flK (fun K hK=>?_) flL))
        · go_simp
          go_at_call 11;refine (copy_l (HS.p0.keep (Yb HB.out hS.1)) HFT.out HB2.p0 HB2.p1).mono ?_;rintro e W2 ⟨u,rfl,h⟩
          have h2:=h.lpv
          obtain ⟨A1,n1,c1,A2,n2,c2,A3,n3,c3,A4,n4,c4,A5,n5,c5,A6,n6,c6,rfl,-⟩:=h2.open
          go_wp2_with fail
          exact hK.out _ _ ⟨⟨_,_,_,_,_,_,_,_,_,_,_,_,_,_,_,_,_,_,rfl,h.lpv⟩,h.below⟩
        · have hal:=Ya W (.cells #[] 3)
          go_simp
          exact hK.out _ _ ⟨⟨_,rfl,Bl.new W 3 []⟩,hal⟩
        · go_simp
          go_at_call 31;refine (copyAll_r (HS.q3.keep (Yb HB.out hS.1)) (Nat.le_trans HXN.out Yd) (fun f hf=>⟨Nat.le_trans (HXW.out f hf).1 Yd,Nat.le_trans (HXW.out f hf).2 Yd⟩)).mono ?_;rintro e W2 ⟨u,rfl,h⟩
          have hb:=h.below
          have h:=h.rx
          obtain ⟨A,c,hv,-⟩:=h.shape
          rw [HN.q2] at hv
          subst hv
          go_wp2_with fail
          exact hK.out _ _ ⟨⟨_,_,rfl,h⟩,hb⟩
      · rintro W hS v2 ⟨g2,rfl,h2⟩
        refine gvN ?_;(repeat refine flA ?_);refine flN (flN ?_)
        refine flK (fun K hK=>?_) flL
        rw [if_pos (by rfl)]
        refine app_lit (B:=0) (f:=ics) (ys:=bs) Tryz.underlying73 int_info ⟨Yd,rfl⟩ ics_len ics_one (.tmp 29) (.tmp 31) rfl rfl rfl h2 (Nat.zero_le _) (HS.p1.keep (Yb HB.out hS.1)) (by have:=HB2.q2;have:=HN.p0;omega) ?_
        rw [HN.p0]
        intro A c W2 k1 hb
        exact hK.out _ _ ⟨⟨_,_,rfl,k1.rv⟩,hb⟩
      · rintro W hS v10 ⟨p,up,ok,rfl,h10⟩
        refine gvN ?_;(repeat refine flA ?_);refine flN (flN ?_)
        exact flL
      · rintro W hS v1 ⟨A1,n1,c1,A2,n2,c2,A3,n3,c3,A4,n4,c4,A5,n5,c5,A6,n6,c6,rfl,h1⟩ v5 ⟨A8,c8,rfl,h5⟩ v7 ⟨A9,c9,rfl,h7⟩
        refine gvN ?_;(repeat refine flA ?_);refine flN (flN ?_)
        refine flK (fun K hK=>?_) flL
        go_simp
        go_at_call 30;refine (leave_v (first:=false) h1 h5 h7 HFT.out HXW.out HXN.out).mono ?_;rintro e W2 ⟨p,up,ok,rfl,hb,h⟩
        rw [HN.q2] at h
        go_wp2_with fail
        exact hK.out _ _ ⟨⟨_,_,_,rfl,h⟩,hb⟩
      rintro W hS - v1 ⟨A1,n1,c1,A2,n2,c2,A3,n3,c3,A4,n4,c4,A5,n5,c5,A6,n6,c6,rfl,h1⟩ v2 ⟨g2,rfl,h2⟩ v5 ⟨A8,c8,rfl,h5⟩ v7 ⟨A9,c9,rfl,h7⟩ v10 ⟨p,up,ok,rfl,h10⟩
      have hS:=hS flY
      refine gvN ?_;(repeat refine flA ?_);refine flN (flN ?_)
      obtain ⟨W8,hWW⟩:∃ X,X=W:=⟨_,rfl⟩
      subst hWW
      have H8:=Yh3 (H.p0.keep hS.1) (H.p1.keep hS.1) (Yb HB.out hS.1)
      have H10:=Lib.hid h10
      clear hS H HB h10 h1 h2 h5 h7
      have l0:=Bl.ld H8.p0 0 rfl
      have l1:=Bl.ld H8.p0 1 rfl
      have l2:=Bl.ld H8.p0 2 rfl
      have l3:=Bl.ld H8.p0 3 rfl
      have l4:=Bl.ld H8.p0 4 rfl
      have l5:=Bl.ld H8.p0 5 rfl
      have l6:=Bl.ld H8.p0 6 rfl
      have q0:=Bl.ld H8.p1 0 rfl
      have q1:=Bl.ld H8.p1 1 rfl
      go_wp2_with fail
      refine (stands13 (HS.p0.keep H8.q2) (HS.p1.keep H8.q2) (HS.p2.keep H8.q2) HF.p0).mono ?_;rintro e w9 ⟨⟨r,rfl,hr⟩,hb⟩
      have H9:=Yh3 (H8.p0.keep hb) (H8.p1.keep hb) (Yb H8.q2 hb)
      have HR:=Lib.hid hr
      clear hb hr H8 q0 q1 l0 l1 l2 l3 l4 l5 l6
      cases r with
      | false=>
       go_wp2_with fail
       case roundEnd=>exact ⟨⟨1+1,by go_num,Yo,H9.out⟩,by simp [intOf]⟩
      | true=>
       have HSQ:=Lib.hid (HR.out rfl)
       clear HR
       have l0:=Bl.ld H9.p0 0 rfl
       have l1:=Bl.ld H9.p0 1 rfl
       have l2:=Bl.ld H9.p0 2 rfl
       have l3:=Bl.ld H9.p0 3 rfl
       have l4:=Bl.ld H9.p0 4 rfl
       have l5:=Bl.ld H9.p0 5 rfl
       have l6:=Bl.ld H9.p0 6 rfl
       by_cases hNa:N=an
       · skip
         subst hNa
         have hNN:((N:Int) !=(N:Int))=false:=by simp
         have HFO:Hid (fitsOne l xs.length):=by
          rw [HN.q2,<- HAN.out]
          have:=HSQ.p0.1
          exact ⟨rfl,this.2.2.1,this.2.2.2.1,this.2.2.2.2.1,this.2.2.2.2.2.1⟩
         have HL0:Hid (∀ (i:Nat) b,bs[i]?=some b->0<=b/\b<(xs.length:Int)):=fun j b hb=>by
          have h1:=HSQ.p1.2.1 j b hb
          rw [HSQ.p1.1,HAN.out] at h1
          rw [HN.q2];exact h1
         have HLX:Hid (leaveX l bs xs false=(p,up,ok)):=H10.out (by
          have h1:=HFO.out
          rw [HN.q2] at h1
          obtain ⟨e1,e2,e3,e4,e5⟩:=h1
          simp [fitsX,allIs,e1,e2,e3,e4,e5])
         have q0:=Bl.ld H9.p1 0 rfl
         have q1:=Bl.ld H9.p1 1 rfl
         go_wp2_with fail
         refine (leave_d (first:=false) (HS.p0.keep H9.q2) (HS.p1.keep H9.q2) (HS.q3.keep H9.q2) HFT.out HFO.out HXW.out HXN.out HSQ.p2 HL0.out).mono ?_;rintro e w11 ⟨p2,up2,ok2,rfl,hb,hl2⟩
         rw [HLX.out] at hl2
         injection hl2 with e1 e2;injection e2 with e2 e3;subst e1;subst e2;subst e3
         have H11:=Yh3 (H9.p0.keep hb) (H9.p1.keep hb) (Yb H9.q2 hb)
         clear hb H9 q0 q1 l0 l1 l2 l3 l4 l5 l6
         have hpp:(p !=p)=false:=by simp
         have hup:(up !=up)=false:=by simp
         have hok:(ok !=ok)=false:=by simp
         go_wp2_with fail
         case roundEnd=>exact ⟨⟨1+1,by go_num,Yo,H11.out⟩,by simp [intOf]⟩
       have hNN:((N:Int) !=(an:Int))=true:=by simp;omega
       go_wp2_with fail
       case roundEnd=>exact ⟨⟨1+1,by go_num,Yo,H9.out⟩,by simp [intOf]⟩
    obtain rfl:i=2:=by omega
    go_wp2_with fail
    go_ret
    exact ⟨rfl,H.q2⟩
end I
end
end
section
open Go Go.ChangeShapes Go.WideShapes Go.ChangeAt Go.RowKit Pl
section
variable {H:Type} {enc:TypeId × Value->H} {W W':World} {base:Nat} {v:Value} {d:DataW H} {p:List MemPlace}
def Wg (t:TypeId) (d:DataW H):Prop:=∀ x∈d.weights Tryz.prog t,x<=reachBytes
theorem wAll_mem {e:TypeId} {ds:List (DataW H)} {d:DataW H} (hd:d∈ds) {x:Nat} (hx:x∈d.weights Tryz.prog e):x∈DataW.weightsAll Tryz.prog e ds:=by
 induction ds with
 | nil=>cases hd
 | cons y r ih=>
  simp only [DataW.weightsAll,List.mem_append]
  rcases List.mem_cons.1 hd with rfl | h
  · exact .inl hx
  · exact .inr (ih h)
theorem Wg.slice {t e:TypeId} {es sp:List (DataW H)} (ht:Tryz.prog.underlying t=some (.slice e)) (h:Wg t (.slice es sp)):(es.length+sp.length)*Tryz.prog.bytesOf e<=reachBytes/\∀ d∈es,Wg e d:=by
 have e1:(DataW.slice es sp).weights Tryz.prog t=(es.length+sp.length)*Tryz.prog.bytesOf e::(DataW.weightsAll Tryz.prog e es++DataW.weightsAll Tryz.prog e sp):=by
  simp only [DataW.weights,ht]
 unfold Wg at h
 rw [e1] at h
 refine ⟨h _ (List.mem_cons_self ..),fun d hd x hx=>h x (List.mem_cons_of_mem _ (List.mem_append_left _ (wAll_mem hd hx)))⟩
theorem Wg.agg {t:TypeId} {fs:Array Field} {ps:List (DataW H)} (ht:Tryz.prog.underlying t=some (.struct fs)) (h:Wg t (.agg ps)):∀ x∈DataW.weightsEach Tryz.prog (fs.toList.map (·.type)) ps,x<=reachBytes:=by
 have e1:(DataW.agg ps).weights Tryz.prog t=DataW.weightsEach Tryz.prog (fs.toList.map (·.type)) ps:=by
  simp only [DataW.weights,ht]
 unfold Wg at h
 rw [e1] at h
 exact h
theorem each_cons {t:TypeId} {ts:List TypeId} {d:DataW H} {r:List (DataW H)} (h:∀ x∈DataW.weightsEach Tryz.prog (t::ts) (d::r),x<=reachBytes):Wg t d/\∀ x∈DataW.weightsEach Tryz.prog ts r,x<=reachBytes:=by
 simp only [DataW.weightsEach,List.mem_append] at h
 exact ⟨fun x hx=>h x (.inl hx),fun x hx=>h x (.inr hx)⟩
theorem row_of {α:Type} [Inhabited α] {t e:TypeId} {s:Nat} {fuel:Nat} {y:DataW H × List MemPlace} (f:α->List Value) (Px:α->DataW H->Prop) (ht:Tryz.prog.underlying t=some (.slice e)) (hs:Tryz.prog.cellsOf e=s) (hf:∀ x,(f x).length=s) (h0:0<s)
 (hel:∀ n cs z,cs.length=s->DataW.trod enc Tryz.prog W 0 (fun _=>true) true n e cs=some z->∃ x,f x=cs/\Px x z.1)
 (h:DataW.trod enc Tryz.prog W 0 (fun _=>true) true fuel t [v]=some y):
 ∃ xs:List α,Rv W f v xs/\(Wg t y.1->xs.length*Tryz.prog.bytesOf e<=reachBytes/\∀ x∈xs,∃ d,Px x d/\Wg e d)/\∀ x∈xs,∃ d,Px x d:=by
 rcases Go.Deep.open_slice ht h with ⟨hcs,hx⟩ | ⟨a,len,cap,m,n,D,Pl,hcs,-,hl,hm,hmm,hx,hi⟩
 · obtain rfl:v=.slice none 0 0:=by simpa using hcs
   exact ⟨[],⟨none,0,rfl,Nat.le_refl _,Nat.zero_le _,fun _=>rfl,.inl rfl⟩,fun _=>⟨by simp,by simp⟩,by simp⟩
 · obtain rfl:v=.slice (some a) len cap:=by simpa using hcs
   have hlm:len<=m:=by simp only [if_true] at hmm;omega
   obtain ⟨X,hX⟩:=Go.Deep.choose_lt (α:=α) (n:=len) (p:=fun i x=>(∀ j u,(f x)[j]?=some u->W.cell? ((a.add (i*s)).add j)=some u)/\Px x (D i)) (fun i hil=>by
    obtain ⟨cs',h1,h2⟩:=hi i Yo
    rw [hs] at h1
    obtain ⟨-,h3,h4⟩:=World.cells?_some h1
    obtain ⟨x,hx1,hx2⟩:=hel _ _ _ h3 h2
    refine ⟨x,fun j u hj=>?_,hx2⟩
    rw [hx1] at hj
    have hjs:j<s:=by rw [<- h3];exact (List.getElem?_eq_some_iff.1 hj).1
    rw [h4 j hjs];exact hj)
   refine ⟨(List.range len).map X,⟨some a,cap,by simp,by simpa using hl,hm,by simp,?_⟩,fun hw=>⟨?_,fun x hx'=>?_⟩,fun x hx'=>?_⟩
   · rcases Nat.eq_zero_or_pos len with hz | hp
     · left;subst hz;rfl
     · have c0:=(hX 0 hp).1 0
       have hfx:∃ u,(f (X 0))[0]?=some u:=⟨_,List.getElem?_eq_getElem (by rw [hf];exact h0)⟩
       obtain ⟨u0,hu0⟩:=hfx
       have c0:=c0 u0 hu0
       obtain ⟨b,off,spot⟩:=a
       have hspot:spot=none:=by simpa [Addr.add] using World.cell?_spot c0
       subst hspot
       refine .inr ⟨b,off,rfl,?_,fun i u hu=>?_⟩
       · have:=World.block_lt_of_cell? W _ c0
         simpa [Addr.add] using this
       · have hlen:i<len*s:=by
          have:=(List.getElem?_eq_some_iff.1 hu).1
          rw [flat_len hf,List.length_map,List.length_range] at this
          exact this
         have hi1:i / s<len:=(Nat.div_lt_iff_lt_mul h0).2 hlen
         have hi2:i % s<s:=Nat.mod_lt _ h0
         have hxi:((List.range len).map X)[i / s]?=some (X (i / s)):=by rw [List.getElem?_map,List.getElem?_range hi1];rfl
         obtain ⟨u',hu'⟩:∃ u',(f (X (i / s)))[i % s]?=some u':=⟨_,List.getElem?_eq_getElem (by rw [hf];exact hi2)⟩
         have e2:=flat_at hf hxi hu'
         have e3:i / s*s+i % s=i:=by rw [Nat.mul_comm];exact Nat.div_add_mod i s
         rw [e3] at e2
         rw [e2] at hu
         have hc:=(hX (i / s) hi1).1 (i % s) u' hu'
         rw [Go.Deep.add_add,e3,Go.WideShapes.add_plain] at hc
         rw [<- Option.some.inj hu];exact hc
   · rw [hx] at hw
     have:=(Wg.slice ht hw).1
     simp only [List.length_map,List.length_range] at this ⊢
     exact Nat.le_trans (Nat.mul_le_mul_right _ (Nat.le_add_right ..)) this
   · rw [hx] at hw
     obtain ⟨i,hi',rfl⟩:=List.mem_map.1 hx'
     have hil:=List.mem_range.1 hi'
     exact ⟨D i,(hX i hil).2,(Wg.slice ht hw).2 _ (List.mem_map.2 ⟨i,hi',rfl⟩)⟩
   · obtain ⟨i,hi',rfl⟩:=List.mem_map.1 hx'
     exact ⟨D i,(hX i (List.mem_range.1 hi')).2⟩
end
end
section
open Go Go.ChangeShapes Go.WideShapes Go.ChangeAt Go.RowKit Pl
section
variable {H:Type} {enc:TypeId × Value->H} {W W':World} {base:Nat} {v:Value} {d:DataW H} {p:List MemPlace}
theorem struct7 {P:Program} {w:World} {b:Nat} {sp:Nat->Bool} {hd:Bool} {t:TypeId} {f0 f1 f2 f3 f4 f5 f6:Field} {fuel:Nat} {cs:List Value} {x:DataW H × List MemPlace} (ht:P.underlying t=some (.struct #[f0,f1,f2,f3,f4,f5,f6])) (h:DataW.trod enc P w b sp hd fuel t cs=some x):
 ∃ y0 y1 y2 y3 y4 y5 y6 n,x.1=.agg [y0.1,y1.1,y2.1,y3.1,y4.1,y5.1,y6.1]/\cs.length=P.cellsOf t/\DataW.trod enc P w b sp hd n f0.type ((cs.drop f0.offset).take (P.cellsOf f0.type))=some y0/\DataW.trod enc P w b sp hd n f1.type ((cs.drop f1.offset).take (P.cellsOf f1.type))=some y1/\DataW.trod enc P w b sp hd n f2.type ((cs.drop f2.offset).take (P.cellsOf f2.type))=some y2/\DataW.trod enc P w b sp hd n f3.type ((cs.drop f3.offset).take (P.cellsOf f3.type))=some y3/\DataW.trod enc P w b sp hd n f4.type ((cs.drop f4.offset).take (P.cellsOf f4.type))=some y4/\DataW.trod enc P w b sp hd n f5.type ((cs.drop f5.offset).take (P.cellsOf f5.type))=some y5/\DataW.trod enc P w b sp hd n f6.type ((cs.drop f6.offset).take (P.cellsOf f6.type))=some y6:=by
 obtain ⟨xs,n,_,rfl,hl,hlen,hf⟩:=DataW.trod_struct ht h
 match xs,hlen with
 | [y0,y1,y2,y3,y4,y5,y6],_=>exact ⟨y0,y1,y2,y3,y4,y5,y6,n,by simp,hl,by simpa using hf 0 f0 rfl,by simpa using hf 1 f1 rfl,by simpa using hf 2 f2 rfl,by simpa using hf 3 f3 rfl,by simpa using hf 4 f4 rfl,by simpa using hf 5 f5 rfl,by simpa using hf 6 f6 rfl⟩
theorem list3 {α:Type} {l:List α} (h:l.length=3):∃ a b c,l=[a,b,c]:=by
 match l,h with
 | [a,b,c],_=>exact ⟨a,b,c,rfl⟩
theorem list4 {α:Type} {l:List α} (h:l.length=4):∃ a b c d,l=[a,b,c,d]:=by
 match l,h with
 | [a,b,c,d],_=>exact ⟨a,b,c,d,rfl⟩
theorem list7 {α:Type} {l:List α} (h:l.length=7):∃ a b c d e f g,l=[a,b,c,d,e,f,g]:=by
 match l,h with
 | [a,b,c,d,e,f,g],_=>exact ⟨a,b,c,d,e,f,g,rfl⟩
theorem zip_of {α β:Type} {P:α->β->Prop}:∀ {xs:List α},(∀ x∈xs,∃ y,P x y)->∃ ys,Zip2 P xs ys
 | [],_=>⟨[],Zip2.nil⟩
 | x::xs,h=>by
  obtain ⟨y,hy⟩:=h x (List.mem_cons_self ..)
  obtain ⟨ys,hl,hz⟩:=zip_of fun z hz=>h z (List.mem_cons_of_mem _ hz)
  refine ⟨y::ys,by simp [hl],fun i a b ha hb=>?_⟩
  cases i with
  | zero=>rw [List.getElem?_cons_zero] at ha hb;cases ha;cases hb;exact hy
  | succ i=>rw [List.getElem?_cons_succ] at ha hb;exact hz i a b ha hb
theorem zip_mem {α β:Type} {P:α->β->Prop} {xs:List α} {ys:List β} (h:Zip2 P xs ys) {y:β} (hy:y∈ys):∃ x∈xs,P x y:=by
 obtain ⟨i,hi⟩:=List.getElem?_of_mem hy
 obtain ⟨x,hx,hp⟩:=h.left hi
 exact ⟨x,List.mem_of_getElem? hx,hp⟩
def wcs (n:Nat):List Value:=[.int .u64 (n:Int)]
theorem word_reach {n:Nat} (h:n*Tryz.prog.bytesOf 125<=reachBytes):n<=17592186044416:=by
 rw [show Tryz.prog.bytesOf 125=8 by kernel_rfl] at h
 unfold reachBytes at h;omega
set_option maxRecDepth 1000000 in
theorem words_w {fuel:Nat} {y:DataW H × List MemPlace} (h:DataW.trod enc Tryz.prog W 0 (fun _=>true) true fuel 32 [v]=some y):∃ xs,Nl W v xs/\(Wg 32 y.1->xs.length<=17592186044416):=by
 obtain ⟨xs,⟨A,cap,e1,h2,h3,h4,h5⟩,h6,h7⟩:=row_of (α:=Nat) (s:=1) wcs (fun x _=>x<WB) Tryz.underlying32 (by kernel_rfl) (fun _=>rfl) Yd (fun n cs z hl hz=>by
  obtain ⟨k,hk,-,hw⟩:=DataW.trod_int Tryz.underlying125 hz
  have hb:=bounds_u64 hw
  refine ⟨k.toNat,?_,by rw [WB_eq];omega⟩
  rw [hk]
  show [Value.int .u64 ((k.toNat:Nat):Int)]=_
  rw [Int.toNat_of_nonneg hb.1]) h
 refine ⟨xs,⟨A,cap,e1,⟨fun x hx=>?_,?_⟩,h2,h3,h4⟩,fun hw=>word_reach (h6 hw).1⟩
 · obtain ⟨_,hd⟩:=h7 x hx;exact hd
 · rcases h5 with h5 | ⟨g,o,e,hg,hc⟩
   · left
     have:=congrArg List.length h5
     rw [flat_len (s:=1) (fun _=>rfl)] at this
     exact List.eq_nil_of_length_eq_zero (by simpa using this)
   · exact .inr ⟨g,o,e,fun j x hj=>by
      have:=flat_at (f:=wcs) (s:=1) (fun _=>rfl) hj (j:=0) (u:=.int .u64 (x:Int)) rfl
      rw [Nat.mul_one,Nat.add_zero] at this
      exact hc j _ this⟩
def Cnt (f:Fx):Prop:=f.xs.length<=17592186044416/\f.ds.length<=17592186044416
set_option maxRecDepth 1000000 in
theorem rat_cells {n:Nat} {cs:List Value} {z:DataW H × List MemPlace} (h:DataW.trod enc Tryz.prog W 0 (fun _=>true) true n 36 cs=some z):∃ x:Rm,x.cs=cs/\∃ f,Fv W x.num f/\(Wg 36 z.1->Cnt f):=by
 obtain ⟨y0,y1,m,rfl,hl,h0,h1⟩:=trod_struct2 Tryz.underlying36 h
 obtain ⟨c0,c1,c2,rfl⟩:=list3 (hl.trans (show Tryz.prog.cellsOf 36=3 by kernel_rfl))
 have e0:Tryz.prog.cellsOf 34=2:=by kernel_rfl
 have e1:Tryz.prog.cellsOf 32=1:=by kernel_rfl
 simp only [e0,e1] at h0 h1
 obtain ⟨z0,z1,k,rfl,-,g0,g1⟩:=trod_struct2 Tryz.underlying34 h0
 have e2:Tryz.prog.cellsOf 4=1:=by kernel_rfl
 simp only [e1,e2] at g0 g1
 obtain ⟨b,e3,-⟩:=DataW.trod_bool Tryz.underlying4 g0
 obtain rfl:c0=.bool b:=by simpa using e3
 obtain ⟨xs,hxs,b1⟩:=words_w (v:=c1) (by simpa using g1)
 obtain ⟨ds,hds,b2⟩:=words_w (v:=c2) (by simpa using h1)
 obtain ⟨A,c,rfl,-⟩:=hxs.shape
 obtain ⟨B,k',rfl,-⟩:=hds.shape
 refine ⟨⟨b,A,xs.length,c,B,ds.length,k'⟩,rfl,⟨b,xs,ds⟩,⟨_,_,rfl,hxs,hds⟩,fun hw=>?_⟩
 have w0:=Wg.agg Tryz.underlying36 hw
 obtain ⟨w1,w2⟩:=each_cons w0
 obtain ⟨w3,-⟩:=each_cons w2
 have w4:=Wg.agg Tryz.underlying34 w1
 obtain ⟨-,w5⟩:=each_cons w4
 obtain ⟨w6,-⟩:=each_cons w5
 exact ⟨b1 w6,b2 w3⟩
instance:Inhabited Rm:=⟨⟨false,none,0,0,none,0,0⟩⟩
instance:Inhabited Tm:=⟨⟨0,false,none,0,0,none,0,0,0⟩⟩
instance:Inhabited Sl:=⟨⟨none,0,0⟩⟩
instance:Inhabited Um:=⟨⟨0,false,false,none,0,0,none,0,0⟩⟩
theorem cells_int:Tryz.prog.cellsOf 3=1:=by kernel_rfl
theorem cells_rat:Tryz.prog.cellsOf 36=3:=by kernel_rfl
set_option maxRecDepth 1000000 in
theorem rats_w {fuel:Nat} {y:DataW H × List MemPlace} (h:DataW.trod enc Tryz.prog W 0 (fun _=>true) true fuel 24 [v]=some y):∃ fs,Rx W v fs/\(Wg 24 y.1->∀ f∈fs,Cnt f):=by
 obtain ⟨xs,h1,h2,h3⟩:=row_of (α:=Rm) (s:=3) Rm.cs (fun x d=>∃ f,Fv W x.num f/\(Wg 36 d->Cnt f)) Tryz.underlying24 cells_rat Rm.len Yd (fun n cs z hl hz=>rat_cells hz) h
 by_cases hw:Wg 24 y.1
 · obtain ⟨fs,hz⟩:=zip_of (P:=fun (x:Rm) f=>Fv W x.num f/\Cnt f) (fun x hx=>by
    obtain ⟨d,⟨f,hf1,hf2⟩,hd⟩:=(h2 hw).2 x hx
    exact ⟨f,hf1,hf2 hd⟩)
   exact ⟨fs,⟨xs,h1,hz.imp fun x f hf=>hf.1⟩,fun _ f hf=>by obtain ⟨x,-,hx⟩:=zip_mem hz hf;exact hx.2⟩
 · obtain ⟨fs,hz⟩:=zip_of (P:=fun (x:Rm) f=>Fv W x.num f) (fun x hx=>by
    obtain ⟨d,f,hf1,-⟩:=h3 x hx
    exact ⟨f,hf1⟩)
   exact ⟨fs,⟨xs,h1,hz⟩,fun hw'=>absurd hw' hw⟩
set_option maxRecDepth 1000000 in
theorem term_cells {n:Nat} {cs:List Value} {z:DataW H × List MemPlace} (h:DataW.trod enc Tryz.prog W 0 (fun _=>true) true n 63 cs=some z):∃ x:Tm,x.cs=cs/\∃ t:Int × Fx,(x.c=t.1/\x.q=t.2.q/\Fv W x.num t.2)/\(Wg 63 z.1->Cnt t.2):=by
 obtain ⟨y0,y1,m,rfl,hl,h0,h1⟩:=trod_struct2 Tryz.underlying63 h
 obtain ⟨c0,c1,c2,c3,rfl⟩:=list4 (hl.trans (show Tryz.prog.cellsOf 63=4 by kernel_rfl))
 simp only [cells_int,cells_rat] at h0 h1
 obtain ⟨k,e0,-,-⟩:=DataW.trod_int Tryz.underlying3 h0
 obtain rfl:c0=.int .i64 k:=by simpa using e0
 obtain ⟨x,hx,f,hf,hc⟩:=rat_cells h1
 have hx0:x.cs=[c1,c2,c3]:=by simpa using hx
 have hx:[.bool x.b,.slice x.A x.l x.k,.slice x.B x.m x.d]=[c1,c2,c3]:=hx0
 injection hx with e1 hx
 injection hx with e2 hx
 injection hx with e3 hx
 subst e1;subst e2;subst e3
 refine ⟨⟨k,x.b,x.A,x.l,x.k,x.B,x.m,x.d,f.q⟩,rfl,(k,f),⟨rfl,rfl,hf⟩,fun hw=>?_⟩
 have w0:=Wg.agg Tryz.underlying63 hw
 obtain ⟨-,w2⟩:=each_cons w0
 obtain ⟨w3,-⟩:=each_cons w2
 exact hc w3
set_option maxRecDepth 1000000 in
theorem terms_w {fuel:Nat} {y:DataW H × List MemPlace} (h:DataW.trod enc Tryz.prog W 0 (fun _=>true) true fuel 54 [v]=some y):∃ ts,Tx W v ts/\(Wg 54 y.1->∀ t∈ts,Cnt t.2):=by
 obtain ⟨xs,h1,h2,h3⟩:=row_of (α:=Tm) (s:=4) Tm.cs (fun x d=>∃ t:Int × Fx,(x.c=t.1/\x.q=t.2.q/\Fv W x.num t.2)/\(Wg 63 d->Cnt t.2)) Tryz.underlying54 (by kernel_rfl) Tm.len Yd (fun n cs z hl hz=>term_cells hz) h
 by_cases hw:Wg 54 y.1
 · obtain ⟨fs,hz⟩:=zip_of (P:=fun (x:Tm) (t:Int × Fx)=>(x.c=t.1/\x.q=t.2.q/\Fv W x.num t.2)/\Cnt t.2) (fun x hx=>by
    obtain ⟨d,⟨f,hf1,hf2⟩,hd⟩:=(h2 hw).2 x hx
    exact ⟨f,hf1,hf2 hd⟩)
   exact ⟨fs,⟨xs,h1,hz.imp fun x f hf=>hf.1⟩,fun _ f hf=>by obtain ⟨x,-,hx⟩:=zip_mem hz hf;exact hx.2⟩
 · obtain ⟨fs,hz⟩:=zip_of (P:=fun (x:Tm) (t:Int × Fx)=>(x.c=t.1/\x.q=t.2.q/\Fv W x.num t.2)) (fun x hx=>by
    obtain ⟨d,f,hf1,-⟩:=h3 x hx
    exact ⟨f,hf1⟩)
   exact ⟨fs,⟨xs,h1,hz⟩,fun hw'=>absurd hw' hw⟩
set_option maxRecDepth 1000000 in
theorem cols_w {fuel:Nat} {y:DataW H × List MemPlace} (h:DataW.trod enc Tryz.prog W 0 (fun _=>true) true fuel 22 [v]=some y):∃ cs,Gx W v cs/\(Wg 22 y.1->∀ c∈cs,∀ t∈c,Cnt t.2):=by
 obtain ⟨xs,h1,h2,h3⟩:=row_of (α:=Sl) (s:=1) Sl.cs (fun x d=>∃ ts,Tx W x.v ts/\(Wg 54 d->∀ t∈ts,Cnt t.2)) Tryz.underlying22 (by kernel_rfl) Sl.len Yd (fun n cs z hl hz=>by
  match cs,hl with
  | [c],_=>
   obtain ⟨ts,ht,hw⟩:=terms_w hz
   obtain ⟨A,cap,rfl,-⟩:=ht.shape
   exact ⟨⟨A,ts.length,cap⟩,rfl,ts,ht,hw⟩) h
 by_cases hw:Wg 22 y.1
 · obtain ⟨fs,hz⟩:=zip_of (P:=fun (x:Sl) (ts:List (Int × Fx))=>Tx W x.v ts/\∀ t∈ts,Cnt t.2) (fun x hx=>by
    obtain ⟨d,⟨f,hf1,hf2⟩,hd⟩:=(h2 hw).2 x hx
    exact ⟨f,hf1,hf2 hd⟩)
   exact ⟨fs,⟨xs,h1,hz.imp fun x f hf=>hf.1⟩,fun _ f hf=>by obtain ⟨x,-,hx⟩:=zip_mem hz hf;exact hx.2⟩
 · obtain ⟨fs,hz⟩:=zip_of (P:=fun (x:Sl) (ts:List (Int × Fx))=>Tx W x.v ts) (fun x hx=>by
    obtain ⟨d,f,hf1,-⟩:=h3 x hx
    exact ⟨f,hf1⟩)
   exact ⟨fs,⟨xs,h1,hz⟩,fun hw'=>absurd hw' hw⟩
set_option maxRecDepth 1000000 in
theorem bools_w {fuel:Nat} {y:DataW H × List MemPlace} (h:DataW.trod enc Tryz.prog W 0 (fun _=>true) true fuel 23 [v]=some y):∃ bs,Ex W v bs/\(Wg 23 y.1->bs.length<=140737488355328):=by
 obtain ⟨xs,h1,h2,-⟩:=row_of (α:=Bool) (s:=1) bcs (fun _ _=>True) Tryz.underlying23 (by kernel_rfl) bcs_len Yd (fun n cs z hl hz=>by
  obtain ⟨b,e,-⟩:=DataW.trod_bool Tryz.underlying4 hz
  exact ⟨b,e.symm,trivial⟩) h
 exact ⟨xs,h1,fun hw=>by
  have:=(h2 hw).1
  rw [show Tryz.prog.bytesOf 4=1 by kernel_rfl] at this
  unfold reachBytes at this;omega⟩
theorem cells_sl1:Tryz.prog.cellsOf 22=1:=by kernel_rfl
theorem cells_sl2:Tryz.prog.cellsOf 23=1:=by kernel_rfl
theorem cells_sl3:Tryz.prog.cellsOf 24=1:=by kernel_rfl
set_option maxRecDepth 1000000 in
theorem lp_arg (hval:Value.okWide Tryz.prog W .any base 26 v) (h:DataW.Trod enc Tryz.prog W 0 (fun _=>true) true 26 v d p):∃ l,LPv W v l/\(Wg 26 d->Sane l/\l.hasLo.length<=140737488355328/\l.hasHi.length<=140737488355328):=by
 obtain ⟨cs,rfl,hsz⟩:=okWide_struct Tryz.underlying26 hval
 obtain ⟨fuel,hf⟩:=h
 obtain ⟨y0,y1,y2,y3,y4,y5,y6,n,hx,hl,h0,h1,h2,h3,h4,h5,h6⟩:=struct7 Tryz.underlying26 hf
 obtain ⟨l⟩:=cs
 have hl:l.length=7:=hsz.trans (show Tryz.prog.cellsOf 26=7 by kernel_rfl)
 obtain ⟨c0,c1,c2,c3,c4,c5,c6,rfl⟩:=list7 hl
 simp only [cells_int,cells_sl1,cells_sl2,cells_sl3] at h0 h1 h2 h3 h4 h5 h6
 obtain ⟨k,e0,-,-⟩:=DataW.trod_int Tryz.underlying3 h0
 obtain rfl:c0=.int .i64 k:=by simpa [Value.cells] using e0
 obtain ⟨cols,g1,w1⟩:=cols_w (v:=c1) (by simpa [Value.cells] using h1)
 obtain ⟨bl,g2,w2⟩:=bools_w (v:=c2) (by simpa [Value.cells] using h2)
 obtain ⟨bh,g3,w3⟩:=bools_w (v:=c3) (by simpa [Value.cells] using h3)
 obtain ⟨lo,g4,w4⟩:=rats_w (v:=c4) (by simpa [Value.cells] using h4)
 obtain ⟨hi,g5,w5⟩:=rats_w (v:=c5) (by simpa [Value.cells] using h5)
 obtain ⟨co,g6,w6⟩:=rats_w (v:=c6) (by simpa [Value.cells] using h6)
 obtain ⟨A1,k1,rfl,-⟩:=g1.shape
 obtain ⟨A2,k2,rfl,-⟩:=g2.shape
 obtain ⟨A3,k3,rfl,-⟩:=g3.shape
 obtain ⟨A4,k4,rfl,-⟩:=g4.shape
 obtain ⟨A5,k5,rfl,-⟩:=g5.shape
 obtain ⟨A6,k6,rfl,-⟩:=g6.shape
 refine ⟨⟨k,cols,bl,bh,lo,hi,co⟩,⟨⟨k,⟨A1,_,k1⟩,⟨A2,_,k2⟩,⟨A3,_,k3⟩,⟨A4,_,k4⟩,⟨A5,_,k5⟩,⟨A6,_,k6⟩⟩,rfl,rfl,g1,g2,g3,g4,g5,g6⟩,fun hw=>?_⟩
 have hd:d=.agg [y0.1,y1.1,y2.1,y3.1,y4.1,y5.1,y6.1]:=hx
 rw [hd] at hw
 have u0:=Wg.agg Tryz.underlying26 hw
 obtain ⟨-,u1⟩:=each_cons u0
 obtain ⟨v1,u2⟩:=each_cons u1
 obtain ⟨v2,u3⟩:=each_cons u2
 obtain ⟨v3,u4⟩:=each_cons u3
 obtain ⟨v4,u5⟩:=each_cons u4
 obtain ⟨v5,u6⟩:=each_cons u5
 obtain ⟨v6,-⟩:=each_cons u6
 refine ⟨⟨fun c hc t ht=>?_,fun f hf=>?_⟩,w2 v2,w3 v3⟩
 · have:=w1 v1 c hc t ht
   exact ⟨Nat.le_trans this.1 Yd,Nat.le_trans this.2 Yd⟩
 · have:Cnt f:=by
    rcases hf with hf | hf | hf
    · exact w4 v4 f hf
    · exact w5 v5 f hf
    · exact w6 v6 f hf
   exact ⟨Nat.le_trans this.1 Yd,Nat.le_trans this.2 Yd⟩
end
end
section
open Go Go.ChangeShapes Go.WideShapes Go.ChangeAt Go.RowKit Pl
theorem own:ownKnob Tryz.prog.godebug=none:=by kernel_rfl
theorem laidOut:laidOutB Tryz.prog=true:=by kernel_rfl
section
variable {H:Type} {enc:TypeId × Value->H} {W W':World} {base:Nat} {v:Value} {d:DataW H} {p:List MemPlace}
theorem stays {t:TypeId} (hr:Tryz.prog.readableRec t=true) (hrow:t<Tryz.prog.types.size) (h:DataW.Trod enc Tryz.prog W 0 (fun _=>true) true t v d p) (hb:Below W.heap.size W W') (hlt:∀ x∈p,x.block<W.heap.size) {sp:Nat->Bool} (hsp:∀ x∈p,sp x.block=true):
 DataW.Trod enc Tryz.prog W' 0 sp true t v d p:=
 WideElems.Trod_stays laidOut hr hrow h (fun x hx=>hb.same (hlt x hx)) hsp
theorem cnt_of {f:Fx} (h:Cnt f):f.xs.length<=2305843009213693951/\f.ds.length<=2305843009213693951:=⟨Nat.le_trans h.1 Yd,Nat.le_trans h.2 Yd⟩
set_option maxRecDepth 1000000 in
theorem rats_arg (hval:Value.okWide Tryz.prog W .any base 24 v) (h:DataW.Trod enc Tryz.prog W 0 (fun _=>true) true 24 v d p):∃ fs,Rx W v fs/\(Wg 24 d->∀ f∈fs,Cnt f):=by
 obtain ⟨a,len,cap,rfl⟩:=okWide_slice Tryz.underlying24 hval
 obtain ⟨fuel,hf⟩:=h
 exact rats_w (y:=(d,p)) (by simpa [Value.cells] using hf)
end
end
section
open Go Go.ChangeShapes Go.WideShapes Go.ChangeAt Go.RowKit Pl
section
variable {H:Type} {enc:TypeId × Value->H} {W W':World} {base:Nat} {v:Value} {d:DataW H} {p:List MemPlace}
theorem struct2 {P:Program} {w:World} {b:Nat} {sp:Nat->Bool} {hd:Bool} {t:TypeId} {f0 f1:Field} {fuel:Nat} {cs:List Value} {x:DataW H × List MemPlace} (ht:P.underlying t=some (.struct #[f0,f1])) (h:DataW.trod enc P w b sp hd fuel t cs=some x):
 ∃ y0 y1 n,x.1=.agg [y0.1,y1.1]/\cs.length=P.cellsOf t/\DataW.trod enc P w b sp hd n f0.type ((cs.drop f0.offset).take (P.cellsOf f0.type))=some y0/\DataW.trod enc P w b sp hd n f1.type ((cs.drop f1.offset).take (P.cellsOf f1.type))=some y1:=by
 obtain ⟨xs,n,_,rfl,hl,hlen,hf⟩:=DataW.trod_struct ht h
 match xs,hlen with
 | [y0,y1],_=>exact ⟨y0,y1,n,by simp,hl,by simpa using hf 0 f0 rfl,by simpa using hf 1 f1 rfl⟩
theorem ints_w {fuel:Nat} {y:DataW H × List MemPlace} (h:DataW.trod enc Tryz.prog W 0 (fun _=>true) true fuel 73 [v]=some y):∃ ks,Iv W v ks/\(Wg 73 y.1->ks.length<=17592186044416):=by
 obtain ⟨xs,h1,h2,-⟩:=row_of (α:=Int) (s:=1) ics (fun _ _=>True) Tryz.underlying73 (by kernel_rfl) ics_len Yd (fun n cs z hl hz=>by
  obtain ⟨b,e,-⟩:=DataW.trod_int Tryz.underlying3 hz
  exact ⟨b,e.symm,trivial⟩) h
 exact ⟨xs,h1,fun hw=>by
  have:=(h2 hw).1
  rw [show Tryz.prog.bytesOf 3=8 by kernel_rfl] at this
  unfold reachBytes at this;omega⟩
theorem cells_ints:Tryz.prog.cellsOf 73=1:=by kernel_rfl
set_option maxRecDepth 1000000 in
theorem basis_arg (hval:Value.okWide Tryz.prog W .any base 75 v) (h:DataW.Trod enc Tryz.prog W 0 (fun _=>true) true 75 v d p):∃ x y bs st,v=.agg #[x,y]/\Iv W x bs/\Iv W y st/\(Wg 75 d->bs.length<=17592186044416/\st.length<=17592186044416):=by
 obtain ⟨cs,rfl,hsz⟩:=okWide_struct Tryz.underlying75 hval
 obtain ⟨fuel,hf⟩:=h
 obtain ⟨y0,y1,n,hx,hl,h0,h1⟩:=struct2 Tryz.underlying75 hf
 obtain ⟨l⟩:=cs
 have hl:l.length=2:=hsz.trans (show Tryz.prog.cellsOf 75=2 by kernel_rfl)
 obtain ⟨c0,c1,rfl⟩:∃ a b,l=[a,b]:=by
  match l,hl with
  | [a,b],_=>exact ⟨a,b,rfl⟩
 simp only [cells_ints] at h0 h1
 obtain ⟨bs,g0,w0⟩:=ints_w (v:=c0) (by simpa [Value.cells] using h0)
 obtain ⟨st,g1,w1⟩:=ints_w (v:=c1) (by simpa [Value.cells] using h1)
 refine ⟨c0,c1,bs,st,rfl,g0,g1,fun hw=>?_⟩
 have hd:d=.agg [y0.1,y1.1]:=hx
 rw [hd] at hw
 have u0:=Wg.agg Tryz.underlying75 hw
 obtain ⟨v0,u1⟩:=each_cons u0
 obtain ⟨v1,-⟩:=each_cons u1
 exact ⟨w0 v0,w1 v1⟩
end
end
section
open Go Go.RowKit Go.WideShapes Go.ChangeShapes
section
variable {H:Type} {enc:TypeId × Value->H} {P:Program}
theorem post_below {f:Func} {s:ChangeSpec} {apart fresh handsOn again:Bool} {W W':World} {args:Array Value} {v:Value} {ds gs:List (DataW H)} {pl pa pv:List MemPlace}
 (hW:DataW.Whole enc P f.params.toList s.vars apart W args.toList ds gs pl)
 (hres:∀ (b:Nat) (sp:Nat->Bool) (hd:Bool),DataW.TrodAll enc P W' b sp hd f.resultTypes.toList (v.resultList f.resultTypes.size) (s.fn H (ds++gs)).results [])
 (hargs:∀ sp:Nat->Bool,(∀ p∈pl,sp p.block=true)->DataW.TrodAll enc P W' 0 sp true f.params.toList args.toList (s.fn H (ds++gs)).args pa)
 (hvars:∀ sp:Nat->Bool,(∀ p∈pl,sp p.block=true)->DataW.TrodVars enc P W' sp s.vars (s.fn H (ds++gs)).vars pv)
 (hps:pl=pa++pv) (hb:Yg W W')
 (hok:∀ (j:Nat) (t:TypeId) (r:Value),f.resultTypes[j]?=some t->(v.resultList f.resultTypes.size)[j]?=some r->Value.okWide P W' .any 0 t r):
 s.post enc P f apart fresh handsOn again W args v W':=by
 have hlt:=fun p hp=>hW.lt p hp
 have hsp:∀ p∈pl,(fun b=>decide (b<W.heap.size)) p.block=true:=fun p hp=>decide_eq_true (hlt p hp)
 refine ⟨ds,gs,pl,[],pa,pv,hW,hres _ _ _,hargs _ hsp,hvars _ hsp,World.keptBut_mono (fun p hp=>⟨hp,?_⟩) (hb.frame (·∈pl)),fun _=>⟨hok,_,_,([]++pa)++pv,⟨[]++pa,pv,trodAll_append (hargs _ (fun _ _=>rfl)) (hres _ _ _),hvars _ (fun _ _=>rfl),rfl,?_,?_⟩,?_⟩⟩
 · rw [hps] at hp
   exact .inr (List.mem_append.1 hp)
 · obtain ⟨_,_,_,_,_,hz,_⟩:=hW
   intro b off hp
   have hin:MemPlace.cell b off∈pl:=by rw [hps];simpa using hp
   rw [hb.frozen (hlt _ hin)]
   exact hz b off hin
 · obtain ⟨_,_,_,_,_,_,hn⟩:=hW
   intro ha
   have:=hn ha
   rw [hps] at this
   simpa using this
 · intro p hp _
   rw [hps]
   simpa using hp
end
end
end Go.Proofs.YtaajajngnmaggaaGreat
