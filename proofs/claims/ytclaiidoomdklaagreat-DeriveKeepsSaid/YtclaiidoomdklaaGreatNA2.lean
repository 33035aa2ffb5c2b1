import Derived.Test.YtclaiidoomdklaaGreatM24
import Derived.Test.YtclaiidoomdklaaGreatNA1
import Derived.Test.YtclaiidoomdklaaGreatM25
set_option maxRecDepth 100000
set_option maxHeartbeats 8000000
set_option linter.unusedVariables false
set_option linter.unusedSimpArgs false
namespace Go.Proofs.YtclaiidoomdklaaGreat
section
section
open Go Go.RowKit Go.Proofs Pl
theorem I.Qe.sz {w:World} {L:Nat} {v:Value} {q:Rat} (h:I.Qe w L v q):Sz L q:=by
 obtain ⟨p,A,l,c,B,k,d,-,h1,h2⟩:=h.open
 have hp:TB ^ L<=WB ^ L:=Nat.pow_le_pow_left (by rw [TB_eq,WB_eq];decide) L
 obtain ⟨s,-,h3⟩:=h1
 exact ⟨Nat.lt_of_lt_of_le h3.2 hp,Nat.lt_of_lt_of_le h2.2 hp⟩
def allF (l:LPx) (fs:List Fx) (j:Nat):List Fx:=fs++(List.range j).map fun t=>fq (allX l fs (fs.length+t))
theorem allF_succ (l:LPx) (fs:List Fx) (j:Nat):allF l fs (j+1)=allF l fs j++[fq (allX l fs (fs.length+j))]:=by
 unfold allF
 rw [List.range_succ,List.map_append,List.append_assoc];rfl
theorem allF_len (l:LPx) (fs:List Fx) (j:Nat):(allF l fs j).length=fs.length+j:=by unfold allF;simp
theorem allF_q {l:LPx} {fs:List Fx} {j i:Nat} {f:Fx} (hn:(fs.length:Int)=l.n) (h:(allF l fs j)[i]?=some f):f.q=allX l fs i:=by
 unfold allF at h
 by_cases hi:i<fs.length
 · rw [List.getElem?_append_left hi] at h
   unfold allX
   rw [if_pos (by omega),List.getD_eq_getElem?_getD,h];rfl
 · rw [List.getElem?_append_right (by omega),List.getElem?_map] at h
   obtain ⟨t,ht,rfl⟩:=Option.map_eq_some_iff.1 h
   rw [List.getElem?_range (by have:=(List.getElem?_eq_some_iff.1 ht).1;simpa using this)] at ht
   injection ht with ht
   rw [fq_q,show fs.length+t=i by omega]
theorem okB_of {l:LPx} {k:Nat} (h:RightX l) (hk:k<l.cols.length):okB l (k:Int):=by
 obtain ⟨⟨h0,h1,h2,h3,h4,h5,-⟩,-⟩:=h
 exact ⟨by omega,by omega,h2,h3,h4,h5,h0,h1⟩
theorem tell_of {l:LPx} {k:Nat} {up b:Bool} (h:RightX l) (hk:k<l.cols.length) (hb:(bif up then l.hasHi else l.hasLo)[k]?=some b):
 tellX (boundX l (k:Int) up)=if b=true then (cB l (k:Int) up,0) else (Cx.no,2):=by
 have he:hasX l (k:Int) up=b:=by
  unfold hasX
  rw [Int.toNat_natCast]
  cases up
  · show l.hasLo.getD k false=b
    rw [List.getD_eq_getElem?_getD,show l.hasLo[k]?=some b from hb];rfl
  · show l.hasHi.getD k false=b
    rw [List.getD_eq_getElem?_getD,show l.hasHi[k]?=some b from hb];rfl
 cases b with
 | true=>rw [if_pos rfl,bound_ok (okB_of h hk) he]
 | false=>rw [if_neg (by simp),bound_none fun hh=>by rw [he] at hh;cases hh.2]
theorem rhs_of {l:LPx} {k:Nat} {up:Bool} {f:Fx} (hf:(bif up then l.hi else l.lo)[k]?=some f):(cB l (k:Int) up).r.q=f.q:=by
 show (fq (rhsX l (k:Int) up).q).q=f.q
 rw [fq_q]
 unfold rhsX
 rw [Int.toNat_natCast]
 cases up
 · show (l.lo.getD k _).q=_
   rw [List.getD_eq_getElem?_getD,show l.lo[k]?=some f from hf];rfl
 · show (l.hi.getD k _).q=_
   rw [List.getD_eq_getElem?_getD,show l.hi[k]?=some f from hf];rfl
theorem cB_fit {l:LPx} {k:Nat} {up:Bool} (hf:Fit l) (hs:SzL l) (h:RightX l) (hk:k<l.cols.length):
 (cB l (k:Int) up).ts.length<=30/\(∀ t∈(cB l (k:Int) up).ts,t.2.xs.length<=211/\t.2.ds.length<=211)/\(cB l (k:Int) up).r.xs.length<=211/\(cB l (k:Int) up).r.ds.length<=211:=by
 have hz:=cB_sz (up:=up) hf hs (okB_of h hk)
 exact ⟨Nat.le_trans hz.len (by decide),hz.words,hz.rw_⟩
theorem qT_cB (l:LPx) (col:Int) (up:Bool):qT (cB l col up).ts=mkV (rowT l col):=qT_fq _
namespace I
theorem keeps_walk {w:World} {v u:Value} {l:LPx} {fs:List Fx} (h:LPv w v l) (hs:Sane l) (hx:Rx w u fs) (hxs:∀ f∈fs,f.xs.length<=2305843009213693951/\f.ds.length<=2305843009213693951):
 Calls Tryz.prog 4 #[v,u] w fun e w'=>e=.returned (.bool true)/\Yg w w':=by
 have hlp:=h
 obtain ⟨aA,an,ac,bA,bn,bc,cA,cn,cc,dA,dn,dc,eA,en,ec,fA,fn,fc,rfl,hP,hla,hlb,hlc,hld,hle,hlf,hma,hmb,hmc,hmd,hme,hmf⟩:=h.open
 obtain ⟨X,xc,rfl,-,-⟩:=hx.shape
 obtain ⟨N,hN⟩:∃ N,fs.length=N:=⟨_,rfl⟩
 rw [hN] at hx ⊢
 have HN:=Lib.hid hN
 have HS:=Yh4 hlp hx hs hxs
 have HP:=Lib.hid hP
 have HL:=Yh6 hla hlb hlc hld hle hlf
 clear hP hs hx hxs hla hlb hlc hld hle hlf hma hmb hmc hmd hme hmf h hlp hN
 change Calls Tryz.prog 4 #[.agg #[.int .i64 l.n,.slice aA an ac,.slice bA bn bc,.slice cA cn cc,.slice dA dn dc,.slice eA en ec,.slice fA fn fc],_] w _
 go_enter Tryz.func4,Tryz.ntmps4
 go_upto_region 1 with (fail)
 have S0:=Yh2 (Bl.new w 26 [.int .i64 l.n,.slice aA an ac,.slice bA bn bc,.slice cA cn cc,.slice dA dn dc,.slice eA en ec,.slice fA fn fc]) (Ya w (.cells #[.int .i64 l.n,.slice aA an ac,.slice bA bn bc,.slice cA cn cc,.slice dA dn dc,.slice eA en ec,.slice fA fn fc] 26))
 have HA:=Yh6 (HP.p0.keep S0.q1) (HP.p1.keep S0.q1) (HP.p2.keep S0.q1) (HP.p3.keep S0.q1) (HP.p4.keep S0.q1) (HP.q5.keep S0.q1)
 have HLP:=Lib.hid (HS.p0.keep S0.q1)
 have HRX:=Lib.hid (HS.p1.keep S0.q1)
 have HSN:=Lib.hid HS.q2
 have HBW:=Lib.hid S0.q1
 have HBL:=Lib.hid S0.p0
 clear S0 HS HP
 generalize w.alloc _=W0 at HA HLP HRX HBW HBL ⊢
 go_wp2_with fail
 refine (speaks_l).mono ?_;rintro e w1 ⟨rfl,hb⟩
 have B1:=Lib.hid hb
 clear hb
 have l0:=Bl.ld (HBL.out.keep B1.out) 0 rfl
 have l1:=Bl.ld (HBL.out.keep B1.out) 1 rfl
 have l2:=Bl.ld (HBL.out.keep B1.out) 2 rfl
 have l3:=Bl.ld (HBL.out.keep B1.out) 3 rfl
 have l4:=Bl.ld (HBL.out.keep B1.out) 4 rfl
 have l5:=Bl.ld (HBL.out.keep B1.out) 5 rfl
 have l6:=Bl.ld (HBL.out.keep B1.out) 6 rfl
 go_wp2_with fail
 refine (great_l (HLP.out.keep B1.out) HSN.p0).mono ?_;rintro e w2 ⟨⟨r,rfl,hr⟩,hb⟩
 have B2:=Lib.hid (Yb B1.out hb)
 have HR:=Lib.hid hr
 clear hb hr B1 l0 l1 l2 l3 l4 l5 l6
 cases r with
 | true=>
  go_wp2_with fail
  go_ret
  exact ⟨rfl,Yb HBW.out B2.out⟩
 | false=>
  have HF:=Lib.hid (HR.out (by trivial))
  clear HR
  have l0:=Bl.ld (HBL.out.keep B2.out) 0 rfl
  have l1:=Bl.ld (HBL.out.keep B2.out) 1 rfl
  have l2:=Bl.ld (HBL.out.keep B2.out) 2 rfl
  have l3:=Bl.ld (HBL.out.keep B2.out) 3 rfl
  have l4:=Bl.ld (HBL.out.keep B2.out) 4 rfl
  have l5:=Bl.ld (HBL.out.keep B2.out) 5 rfl
  have l6:=Bl.ld (HBL.out.keep B2.out) 6 rfl
  go_wp2_with fail
  refine (right_d (HLP.out.keep B2.out) HF.p0).mono ?_;rintro e w3 ⟨⟨r,rfl,hr⟩,hb⟩
  have B3:=Lib.hid (Yb B2.out hb)
  have HR:=Lib.hid hr
  clear hb hr B2 l0 l1 l2 l3 l4 l5 l6
  cases r with
  | false=>
   go_wp2_with fail
   go_ret
   exact ⟨rfl,Yb HBW.out B3.out⟩
  | true=>
   have HRX2:=Lib.hid (HR.out.1 (by trivial))
   clear HR
   go_wp2_with fail
   refine (greatAll_r (HRX.out.keep B3.out) HSN.q1).mono ?_;rintro e w4 ⟨⟨r,rfl,hr⟩,hb⟩
   have B4:=Lib.hid (Yb B3.out hb)
   have HR:=Lib.hid hr
   clear hb hr B3
   cases r with
   | true=>
    go_wp2_with fail
    go_ret
    exact ⟨rfl,Yb HBW.out B4.out⟩
   | false=>
    have HXF:=Lib.hid (HR.out (by trivial))
    clear HR
    obtain ⟨ln,hln⟩:∃ ln,ln=l.n:=⟨_,rfl⟩
    by_cases dN:(N:Int)=l.n
    · skip
      have HDN:=Lib.hid dN
      have dne:((N:Int) !=l.n)=false:=by simp [dN]
      clear dN hln
      have l0:=Bl.ld (HBL.out.keep B4.out) 0 rfl
      have l1:=Bl.ld (HBL.out.keep B4.out) 1 rfl
      have l2:=Bl.ld (HBL.out.keep B4.out) 2 rfl
      have l3:=Bl.ld (HBL.out.keep B4.out) 3 rfl
      have l4:=Bl.ld (HBL.out.keep B4.out) 4 rfl
      have l5:=Bl.ld (HBL.out.keep B4.out) 5 rfl
      have l6:=Bl.ld (HBL.out.keep B4.out) 6 rfl
      go_wp2_with fail
      clear dne
      refine (copyAll_r (HRX.out.keep B4.out) (by have:=HXF.p0;omega) (fun f hf=>by have:=HXF.q1 f hf;omega)).mono ?_;rintro e w5 ⟨u5,rfl,h5⟩
      have B5:=Lib.hid (Yb B4.out h5.below)
      obtain ⟨A5,c5,rfl⟩:=h5.shape
      rw [HN.out] at h5 ⊢
      have H5:=Lib.hid (h5.from B4.out)
      clear h5 B4 l0 l1 l2 l3 l4 l5 l6
      have hN30:N<=30:=by have:=HXF.p0;rw [HN.out] at this;exact this
      have hNan:N<=an:=by have:=HRX2.p0.2.1;have:=HDN.out;have:=HL.p0;omega
      have han:an<=14:=by rw [<- HL.p0];exact HF.p0.1
      have l0:=Bl.ld (HBL.out.keep B5.out) 0 rfl
      have l1:=Bl.ld (HBL.out.keep B5.out) 1 rfl
      have l2:=Bl.ld (HBL.out.keep B5.out) 2 rfl
      have l3:=Bl.ld (HBL.out.keep B5.out) 3 rfl
      have l4:=Bl.ld (HBL.out.keep B5.out) 4 rfl
      have l5:=Bl.ld (HBL.out.keep B5.out) 5 rfl
      have l6:=Bl.ld (HBL.out.keep B5.out) 6 rfl
      go_wp2_with fail
      clear l0 l1 l2 l3 l4 l5 l6
      go_loopw [5,6] (fun z5 z6 wr=>∃ (j R:Nat) (A5:Option Addr) (c5:Nat),z5=.slice A5 R c5/\z6=.int .i64 (R:Int)/\R<=an/\Hid (R=N+j)/\Hid (Ro W0 wr (.slice A5 R c5) (allF l fs j)/\(∀ f∈allF l fs j,f.xs.length<=29047/\f.ds.length<=29047))) (fun _ z _=>an - (intOf z).toNat)
      case atStart=>exact ⟨0,N,A5,c5,rfl,congrArg (Value.int .i64) HDN.out.symm,hNan,(rfl:N=N+0),by unfold allF;rw [List.range_zero,List.map_nil,List.append_nil];exact H5.out,fun f hf=>by unfold allF at hf;rw [List.range_zero,List.map_nil,List.append_nil] at hf;have:=HXF.q1 f hf;omega⟩
      case round=>
       clear H5
       obtain ⟨j,R,A5,c5,rfl,rfl,hR,HRJ,H⟩:=hrel
       have hBr:=H.p0.below
       by_cases hlt:R<an
       · skip
         have l0:=Bl.ld (HBL.out.keep hBr) 0 rfl
         have l1:=Bl.ld (HBL.out.keep hBr) 1 rfl
         have l2:=Bl.ld (HBL.out.keep hBr) 2 rfl
         have l3:=Bl.ld (HBL.out.keep hBr) 3 rfl
         have l4:=Bl.ld (HBL.out.keep hBr) 4 rfl
         have l5:=Bl.ld (HBL.out.keep hBr) 5 rfl
         have l6:=Bl.ld (HBL.out.keep hBr) 6 rfl
         have HBr:=Lib.hid hBr
         clear hBr
         have dk:(R:Int)<(an:Int):=by omega
         go_wp2_with fail
         refine (small_e sm_zero).mono ?_;rintro e w6 ⟨u,rfl,h,hb⟩
         obtain ⟨p,A0,l0_,c0,B0,m0,d0,rfl⟩:=h.parts
         have S1:=Yh4 (H.p0.keep hb) h (Yb HBr.out hb) H.q1
         clear h hb H HBr dk l0 l1 l2 l3 l4 l5 l6
         go_upto_region 10 with (fail)
         have hal:=Ya w6 (.cells #[.bool p,.slice A0 l0_ c0,.slice B0 m0 d0] 60)
         obtain ⟨g7,hg7⟩:∃ g,g=w6.heap.size:=⟨_,rfl⟩
         have hg0:W0.heap.size<=g7:=by rw [hg7];exact S1.p2.size
         have S2:=Yh5 (B3.new 60 w6 (.bool p) (.slice A0 l0_ c0) (.slice B0 m0 d0)) (S1.p1.keep hal) (S1.p0.keep hal) (Yb S1.p2 hal) S1.q3
         clear S1 hal
         rw [<- hg7] at S2 ⊢
         generalize w6.alloc _=W7 at S2 ⊢
         clear hg7
         go_wp2_with fail
         obtain ⟨XX,hXX⟩:∃ X:Nat->Rat,X=fun c=>(fs.getD c ⟨false,[],[]⟩).q:=⟨_,rfl⟩
         have HXX:=Lib.hid hXX
         clear hXX
         go_loopw [48] (fun z wr=>∃ (k:Nat) (q:Rat) (p:Bool) (A1:Option Addr) (l1_ c1:Nat) (B1:Option Addr) (m1 d1:Nat),z=.int .i64 (k:Int)/\k<=N/\Hid (B3 60 wr g7 (.bool p) (.slice A1 l1_ c1) (.slice B1 m1 d1)/\Qe wr (7+k*968) (.agg #[.bool p,.slice A1 l1_ c1,.slice B1 m1 d1]) q/\Ro W0 wr (.slice A5 R c5) (allF l fs j)/\Yg W0 wr/\q=dotK (fun c=>getV (qT (l.cols.getD c [])) (j:Int)) XX k)) (fun z _=>N - (intOf z).toNat)
         case atStart=>exact ⟨0,0,p,A0,l0_,c0,B0,m0,d0,rfl,Nat.zero_le _,S2.p0,S2.p1.mono (by omega),S2.p2,S2.p3,rfl⟩
         case round=>
          have HWD:=Lib.hid S2.q4
          clear S2
          obtain ⟨k,q,p1,A1,l1_,c1,B1,m1,d1,rfl,hk,H⟩:=hrel
          by_cases hlk:k<N
          · skip
            obtain ⟨ta,hta⟩:∃ t,l.cols[k]?=some t:=⟨_,List.getElem?_eq_getElem (by rw [HL.p0];exact (by omega))⟩
            obtain ⟨ga,oa,qa,xa,e,hga,hva,za0⟩:=HA.p0.at_ hta
            rw [HL.p0] at e
            injection e with e1 e2 e3
            subst e1
            clear e2 e3 qa
            obtain ⟨f,hf⟩:∃ f,fs[k]?=some f:=⟨_,List.getElem?_eq_getElem (by rw [HN.out];exact hlk)⟩
            have hfm:=List.mem_of_getElem? hf
            obtain ⟨gx,ox,capx,x,e,hgx,hFv,x0,x1,x2⟩:=HRX.out.at_ hf
            rw [HN.out] at e
            injection e with e1 e2 e3
            subst e1
            clear e2 e3 capx
            have hqv:=Fv.qv (L:=6) hFv (by have:=HXF.q1 f hfm;omega) (by have:=HXF.q1 f hfm;omega)
            have hXk:XX k=f.q:=by rw [HXX.out];show (fs.getD k _).q=_;rw [List.getD_eq_getElem?_getD,hf];rfl
            have hCk:getV (qT (l.cols.getD k [])) (j:Int)=getV (qT ta) (j:Int):=by rw [List.getD_eq_getElem?_getD,hta];rfl
            have HX:=Yh3 hqv hXk hCk
            have HV:=Yh2 hva (fit_cols HF.p0 hta)
            have HC:Hid (∀ W,Yg W0 W->B3 60 W g7 (.bool p1) (.slice A1 l1_ c1) (.slice B1 m1 d1)->Yc7 W w.heap.size (.int .i64 l.n) (.slice (some ⟨ga,oa,none⟩) an ac) (.slice bA bn bc) (.slice cA cn cc) (.slice dA dn dc) (.slice eA en ec) (.slice fA fn fc) (W.cell? ⟨ga,oa+k,none⟩=some (.slice xa.A xa.l xa.k)/\W.cell? ⟨gx,ox+k*3,none⟩=some (.bool x.b)/\W.cell? ⟨gx,ox+k*3+1,none⟩=some (.slice x.A x.l x.k)/\W.cell? ⟨gx,ox+k*3+2,none⟩=some (.slice x.B x.m x.d)/\Ye3 W g7 (.bool p1) (.slice A1 l1_ c1) (.slice B1 m1 d1))):=fun W hb h3=>⟨Bl.ld (HBL.out.keep hb) 0 rfl,Bl.ld (HBL.out.keep hb) 1 rfl,Bl.ld (HBL.out.keep hb) 2 rfl,Bl.ld (HBL.out.keep hb) 3 rfl,Bl.ld (HBL.out.keep hb) 4 rfl,Bl.ld (HBL.out.keep hb) 5 rfl,Bl.ld (HBL.out.keep hb) 6 rfl,(hb.cell (p:=⟨ga,_,none⟩) hga).trans za0,(hb.cell (p:=⟨gx,_,none⟩) hgx).trans x0,(hb.cell (p:=⟨gx,_,none⟩) hgx).trans x1,(hb.cell (p:=⟨gx,_,none⟩) hgx).trans x2,h3.facts.1,h3.facts.2.1,h3.facts.2.2.1⟩
            have hsub:IntKind.i64.wrap ((R:Int) - l.n)=(j:Int):=by have hj:=HRJ.out;rw [<- HDN.out,IntKind.wrap_i64];omega
            have HNX:=Lib.hid (show 7+k*968+967+1=7+(k+1)*968 by omega)
            have dj:(k:Int)<(N:Int):=by omega
            have dka:(k:Int)<(an:Int):=by omega
            have dkn:k<an:=by omega
            clear hf hfm hFv hqv hXk hCk x0 x1 x2 hgx hta hva hga za0
            go_upto_region 13 with (fail)
            have B0_:=Lib.hid (Yb H.p3 (below_d _))
            have T0:=Yh3 (H.p0.keep (below_d _)) (H.p1.keep (below_d _)) (H.p2.keep (below_d _))
            have HQ:=Lib.hid H.q4
            clear H
            refine wp_region_late 18 (by kernel_rfl) (by kernel_rfl) #[false,false,false,false,false,false,false,false,false,false,false,false,false,false,false,false,false,false,true] (by kernel_rfl) (S:=fun W=>Yc7 W w.heap.size (.int .i64 l.n) (.slice (some ⟨ga,oa,none⟩) an ac) (.slice bA bn bc) (.slice cA cn cc) (.slice dA dn dc) (.slice eA en ec) (.slice fA fn fc) (W.cell? ⟨ga,oa+k,none⟩=some (.slice xa.A xa.l xa.k)/\W.cell? ⟨gx,ox+k*3,none⟩=some (.bool x.b)/\W.cell? ⟨gx,ox+k*3+1,none⟩=some (.slice x.A x.l x.k)/\W.cell? ⟨gx,ox+k*3+2,none⟩=some (.slice x.B x.m x.d)/\Ye3 W g7 (.bool p1) (.slice A1 l1_ c1) (.slice B1 m1 d1))) (HC.out _ B0_.out T0.p0) (fun Hh=>?_)
            refine rgRun 14 [0,1,2,3,4,5,6,7,8,9,11,12,13,14] Hh fun K hK=>?_
            repeat refine rgA ?_
            refine hK _ _ ?_;clear hK K
            clear hsub
            generalize wr.drew=Wd at B0_ T0 Hh ⊢
            refine rgO 10 fun K hK=>?_
            go_simp
            go_at_call 27;refine (get_e (L:=6) ((HV.p0.keep B0_.out).vt HV.q2) (by decide) (by decide) (by unfold qT;rw [List.length_map];exact Nat.le_trans HV.p1 (by decide))).mono ?_;rintro e w8 ⟨v4,rfl,h,hb⟩
            obtain ⟨p4,A4,l4,c4,B4,m4,d4,rfl⟩:=h.parts
            have h:=h.mono (show 7+(qT ta).length*(5*6+1)<=937 by unfold qT;rw [List.length_map];have:=HV.p1;omega)
            have B1_:=Lib.hid (Yb B0_.out hb)
            have T1:=Yh4 (T0.p0.keep hb) (T0.p1.keep hb) (T0.q2.keep hb) h
            clear h hb T0 B0_ Hh
            go_wp2_with fail
            refine rgK hK (HC.out _ B1_.out T1.p0) fun Hh=>?_;clear hK K
            refine rgO 15 fun K hK=>?_
            go_simp
            go_at_call 28;refine (of_e (a:=x.num) (HX.p0.keep B1_.out) (by decide) (by decide)).mono ?_;rintro e w9 ⟨v5,rfl,h,hb⟩
            obtain ⟨p5,A55,l5,c55,B5_,m5,d5,rfl⟩:=h.parts
            have B2_:=Lib.hid (Yb B1_.out hb)
            have T2:=Yh5 (T1.p0.keep hb) (T1.p1.keep hb) (T1.p2.keep hb) (T1.q3.keep hb) h
            clear h hb T1 B1_ Hh
            go_wp2_with fail
            refine rgK hK (HC.out _ B2_.out T2.p0) fun Hh=>?_;clear hK K
            refine rgO 16 fun K hK=>?_
            go_simp
            go_at_call 26;refine (mul_e (L:=937) (M:=5*6) T2.p3 T2.q4 (by decide) (by decide) (by decide) (by decide)).mono ?_;rintro e w10 ⟨v6,rfl,h,hb⟩
            obtain ⟨p6,A6,l6_,c6,B6,m6,d6,rfl⟩:=h.parts
            have B3_:=Lib.hid (Yb B2_.out hb)
            have T3:=Yh4 (T2.p0.keep hb) (T2.p1.keep hb) (T2.p2.keep hb) h
            clear h hb T2 B2_ Hh
            go_wp2_with fail
            refine rgK hK (HC.out _ B3_.out T3.p0) fun Hh=>?_;clear hK K
            refine rgO 17 fun K hK=>?_
            go_simp
            go_at_call 25;refine (add_e (L:=7+k*968) (M:=967) T3.p1 T3.q3 (by omega) (by omega) (by omega) (by omega)).mono ?_;rintro e w11 ⟨v7,rfl,h,hb⟩
            obtain ⟨p7,A7,l7,c7,B7,m7,d7,rfl⟩:=h.parts
            rw [HNX.out] at h
            have B4_:=Lib.hid (Yb B3_.out hb)
            have T4:=Yh4 (T3.p0.keep hb) (T3.p1.keep hb) (T3.p2.keep hb) h
            clear h hb T3 B3_ Hh
            go_wp2_with fail
            refine rgK hK (HC.out _ B4_.out T4.p0) fun Hh=>?_;clear hK K
            refine Yw ?_
            clear Hh
            refine late_go (T:=fun _=>True) #[true,true,true,true,true,true,true,true,true,true,true,true,true,true,true,true,true,true,false] 1 (by kernel_rfl) (by kernel_rfl) ?_
            obtain ⟨s0,s1,s2,f0,f1,f2⟩:=T4.p0.facts
            refine rgO 18 fun K hK=>?_
            go_simp
            refine rgK hK trivial fun _=>?_;clear hK K
            refine Yw ?_
            clear s0 s1 s2 f0 f1 f2
            have hb9:=T4.p0.below B4_.out hg0 (.bool p7) (.slice A7 l7 c7) (.slice B7 m7 d7)
            have T5:=Yh4 (T4.p0.set (.bool p7) (.slice A7 l7 c7) (.slice B7 m7 d7)) (Qd.put3 T4.q3 T4.p0 (.bool p7) (.slice A7 l7 c7) (.slice B7 m7 d7)) (T4.p2.keepT (T4.p0.keepT (by decide) (.bool p7) (.slice A7 l7 c7) (.slice B7 m7 d7)) (T4.p0.keepT (by decide) (.bool p7) (.slice A7 l7 c7) (.slice B7 m7 d7)) hb9) hb9
            clear hb9 T4 B4_
            go_wp2_with fail
            case roundEnd=>exact ⟨⟨k+1,q+getV (qT ta) (j:Int)*f.q,p7,A7,l7,c7,B7,m7,d7,by go_num,by omega,T5.p0,T5.p1,T5.p2,T5.q3,by rw [HQ.out,<- HX.p1,<- HX.q2];rfl⟩,by simp [intOf];omega⟩
          obtain rfl:k=N:=by omega
          have dj:¬ (k:Int)<(k:Int):=by omega
          have HQV:Hid (q=allX l fs (fs.length+j)):=by
           refine Lib.hid ?_
           rw [H.q4,HXX.out]
           unfold allX
           have hl:=HN.out
           have hd:=HDN.out
           rw [if_neg (by omega),show ((fs.length+j:Nat):Int) - l.n=(j:Int) by omega,show l.n.toNat=k by omega]
          have hsz:=H.p1.sz.mono (show 7+k*968<=29047 by omega)
          have HSZ:=Lib.hid hsz
          obtain ⟨y0,y1,y2,-,-,-⟩:=H.p0.facts
          clear hsz
          go_wp2_with fail
          refine (to_r (K:=29047) H.p1 (by omega) HSZ.out (by decide)).mono ?_;rintro e w12 ⟨v8,rfl,h8⟩
          have hb8:=h8.below
          have hf8:=h8.fw
          obtain ⟨b9,A9,l9,k9,B9,m9,d9,rfl⟩:=h8.parts
          have HU:=Yh3 (H.p2.keep hb8) (hf8.from H.p3) (show (allF l fs j).length<=1048576 by rw [allF_len];have:=HN.out;have:=HRJ.out;omega)
          clear h8 hb8 hf8 H y0 y1 y2
          go_wp2_with (at_builtin;refine app_rs rfl (.tmp 70) (.tmp 73) rfl (x:=⟨b9,A9,l9,k9,B9,m9,d9⟩) rfl rfl (HU.p0.keep (Ya _ _)) (HU.p1.keep (Ya _ _)) (Bl.new w12 _ _) HU.q2 ?_;intro u2 w13 k1 k2 k3)
          obtain ⟨A10,c10,rfl⟩:=k1.shape
          have hl10:(allF l fs j++[fq q]).length=R+1:=by rw [List.length_append,allF_len,List.length_singleton];have:=HN.out;have:=HRJ.out;omega
          rw [hl10] at k1 ⊢
          have HK:Hid (Ro W0 w13 (.slice A10 (R+1) c10) (allF l fs (j+1))/\∀ f∈allF l fs (j+1),f.xs.length<=29047/\f.ds.length<=29047):=by
           refine Lib.hid ?_
           rw [allF_succ,<- HQV.out]
           exact ⟨k1,fun f hf=>by rcases List.mem_append.1 hf with hf | hf;exact HWD.out f hf;rw [List.mem_singleton.1 hf];exact fq_len HSZ.out⟩
          clear k1 k2 k3 hl10 HU
          go_wp2_with fail
          case roundEnd=>exact ⟨⟨j+1,R+1,A10,c10,rfl,by go_num,by omega,(by have:=HRJ.out;omega:R+1=k+(j+1)),HK.out⟩,by simp [intOf];omega⟩
       obtain rfl:R=an:=by omega
       have dk:¬ (R:Int)<(R:Int):=by omega
       obtain ⟨gs,hgs⟩:∃ gs,gs=allF l fs j:=⟨_,rfl⟩
       rw [<- hgs] at H
       have HGS:=Yh2 (show ∀ (i:Nat) (f:Fx),gs[i]?=some f->f.q=allX l fs i from fun i f hi=>by rw [hgs] at hi;exact allF_q (by rw [HN.out];exact HDN.out) hi) (show gs.length=R by rw [hgs,allF_len,HN.out];exact HRJ.out.symm)
       clear hgs HRJ
       have l0:=Bl.ld (HBL.out.keep hBr) 0 rfl
       have l1:=Bl.ld (HBL.out.keep hBr) 1 rfl
       have l2:=Bl.ld (HBL.out.keep hBr) 2 rfl
       have l3:=Bl.ld (HBL.out.keep hBr) 3 rfl
       have l4:=Bl.ld (HBL.out.keep hBr) 4 rfl
       have l5:=Bl.ld (HBL.out.keep hBr) 5 rfl
       have l6:=Bl.ld (HBL.out.keep hBr) 6 rfl
       go_wp2_with fail
       clear l0 l1 l2 l3 l4 l5 l6 dk hBr
       go_loopw [77] (fun z wr=>∃ k:Nat,z=.int .i64 (k:Int)/\k<=R/\Hid (Yg W0 wr/\Ro W0 wr (.slice A5 R c5) gs)) (fun z _=>R - (intOf z).toNat)
       case atStart=>exact ⟨0,rfl,Nat.zero_le _,H.p0.below,H.p0⟩
       case round=>
        have HWD:=Lib.hid H.q1
        clear H
        obtain ⟨k,rfl,hk,H⟩:=hrel
        by_cases hlt:k<R
        · skip
          obtain rfl:R=bn:=by have:=HRX2.p0.2.2.2.2.1;have:=HL.out;omega
          obtain rfl:R=cn:=by have:=HRX2.p0.2.2.2.2.2.1;have:=HL.out;omega
          obtain rfl:R=dn:=by have:=HRX2.p0.2.2.1;have:=HL.out;omega
          obtain rfl:R=en:=by have:=HRX2.p0.2.2.2.1;have:=HL.out;omega
          obtain ⟨tb,htb⟩:∃ t,l.hasLo[k]?=some t:=⟨_,List.getElem?_eq_getElem (by rw [HL.p1];exact (by omega))⟩
          obtain ⟨gb,ob,qb,e,hgb,zb0⟩:=HA.p1.at_ htb
          rw [HL.p1] at e
          injection e with e1 e2 e3
          subst e1
          clear e2 e3 qb
          obtain ⟨tc,htc⟩:∃ t,l.hasHi[k]?=some t:=⟨_,List.getElem?_eq_getElem (by rw [HL.p2];exact (by omega))⟩
          obtain ⟨gc,oc,qc,e,hgc,zc0⟩:=HA.p2.at_ htc
          rw [HL.p2] at e
          injection e with e1 e2 e3
          subst e1
          clear e2 e3 qc
          obtain ⟨td,htd⟩:∃ t,l.lo[k]?=some t:=⟨_,List.getElem?_eq_getElem (by rw [HL.p3];exact (by omega))⟩
          obtain ⟨gd,od,qd,xd,e,hgd,hvd,zd0,zd1,zd2⟩:=HA.p3.at_ htd
          rw [HL.p3] at e
          injection e with e1 e2 e3
          subst e1
          clear e2 e3 qd
          obtain ⟨te,hte⟩:∃ t,l.hi[k]?=some t:=⟨_,List.getElem?_eq_getElem (by rw [HL.p4];exact (by omega))⟩
          obtain ⟨ge,oe,qe,xe,e,hge,hve,ze0,ze1,ze2⟩:=HA.p4.at_ hte
          rw [HL.p4] at e
          injection e with e1 e2 e3
          subst e1
          clear e2 e3 qe
          obtain ⟨ga_,hga_⟩:∃ f,gs[k]?=some f:=⟨_,List.getElem?_eq_getElem (by rw [HGS.q1];exact hlt)⟩
          have hkc:k<l.cols.length:=by rw [HL.p0];exact hlt
          have HT1:=Lib.hid (tell_of (up:=false) HRX2.out hkc htb)
          have HT2:=Lib.hid (tell_of (up:=true) HRX2.out hkc htc)
          have HQ1:=Lib.hid (rhs_of (up:=false) htd)
          have HQ2:=Lib.hid (rhs_of (up:=true) hte)
          have HQ3:=Lib.hid (HGS.p0 k ga_ hga_)
          have HC1:=Lib.hid (cB_fit (up:=false) HF.p0 (fit_sz HLP.out HF.p0) HRX2.out hkc)
          have HC2:=Lib.hid (cB_fit (up:=true) HF.p0 (fit_sz HLP.out HF.p0) HRX2.out hkc)
          have HD:=Yh2 (show dotK (fun i=>getV (qT (cB l (k:Int) false).ts) i) (fun i=>(fs.getD i ⟨false,[],[]⟩).q) fs.length=allX l fs k by rw [qT_cB];exact dot_bound (by rw [HN.out];exact HDN.out)) (show dotK (fun i=>getV (qT (cB l (k:Int) true).ts) i) (fun i=>(fs.getD i ⟨false,[],[]⟩).q) fs.length=allX l fs k by rw [qT_cB];exact dot_bound (by rw [HN.out];exact HDN.out))
          have HF2:=Yh2 (HF.p0.2.2 td (.inl (List.mem_of_getElem? htd))) (HF.p0.2.2 te (.inr (.inl (List.mem_of_getElem? hte))))
          have HGW:=Yh2 hga_ (HWD.out ga_ (List.mem_of_getElem? hga_))
          have HV:=Yh2 hvd hve
          have HC:Hid (∀ W,Yg W0 W->Yc7 W w.heap.size (.int .i64 l.n) (.slice aA R ac) (.slice (some ⟨gb,ob,none⟩) R bc) (.slice (some ⟨gc,oc,none⟩) R cc) (.slice (some ⟨gd,od,none⟩) R dc) (.slice (some ⟨ge,oe,none⟩) R ec) (.slice fA fn fc) (W.cell? ⟨gb,ob+k,none⟩=some (.bool tb)/\W.cell? ⟨gc,oc+k,none⟩=some (.bool tc)/\W.cell? ⟨gd,od+k*3,none⟩=some (.bool xd.b)/\W.cell? ⟨gd,od+k*3+1,none⟩=some (.slice xd.A xd.l xd.k)/\W.cell? ⟨gd,od+k*3+2,none⟩=some (.slice xd.B xd.m xd.d)/\W.cell? ⟨ge,oe+k*3,none⟩=some (.bool xe.b)/\W.cell? ⟨ge,oe+k*3+1,none⟩=some (.slice xe.A xe.l xe.k)/\W.cell? ⟨ge,oe+k*3+2,none⟩=some (.slice xe.B xe.m xe.d))):=fun W hb=>⟨Bl.ld (HBL.out.keep hb) 0 rfl,Bl.ld (HBL.out.keep hb) 1 rfl,Bl.ld (HBL.out.keep hb) 2 rfl,Bl.ld (HBL.out.keep hb) 3 rfl,Bl.ld (HBL.out.keep hb) 4 rfl,Bl.ld (HBL.out.keep hb) 5 rfl,Bl.ld (HBL.out.keep hb) 6 rfl,(hb.cell (p:=⟨gb,_,none⟩) hgb).trans zb0,(hb.cell (p:=⟨gc,_,none⟩) hgc).trans zc0,(hb.cell (p:=⟨gd,_,none⟩) hgd).trans zd0,(hb.cell (p:=⟨gd,_,none⟩) hgd).trans zd1,(hb.cell (p:=⟨gd,_,none⟩) hgd).trans zd2,(hb.cell (p:=⟨ge,_,none⟩) hge).trans ze0,(hb.cell (p:=⟨ge,_,none⟩) hge).trans ze1,(hb.cell (p:=⟨ge,_,none⟩) hge).trans ze2⟩
          clear hgb htb zb0 hgc htc zc0 hgd htd zd0 zd1 zd2 hvd hge hte ze0 ze1 ze2 hve
          clear hga_ hkc
          have dk:(k:Int)<(R:Int):=by omega
          have dkR:k<R:=hlt
          obtain ⟨l0,l1,l2,l3,l4,l5,l6,zb0,zc0,zd0,zd1,zd2,ze0,ze1,ze2⟩:=HC.out _ H.p0
          go_wp2_with fail
          refine (_root_.Go.Proofs.YtclaiidoomdklaaGreat.bound_c (col:=(k:Int)) (up:=false) (HLP.out.keep H.p0) HF.p0).mono ?_;rintro e w20 ⟨r,rfl,hc⟩
          have hb:=hc.below
          obtain ⟨E1,hE1⟩:∃ E,E=(tellX (boundX l (k:Int) false)).2:=⟨_,rfl⟩
          rw [<- hE1]
          have hcc:=hc
          obtain ⟨⟨s1,E1_,n1,c1,b1,A1,l1_,k1,B1,m1,d1⟩,rfl,-⟩:=hc
          dsimp only [Cm.agg] at hcc ⊢
          have S1:=Yh4 (Yb H.p0 hb) (H.q1.keep hb) (hcc.from H.p0) hE1
          clear hb hcc hE1 H l0 l1 l2 l3 l4 l5 l6 zb0 zc0 zd0 zd1 zd2 ze0 ze1 ze2
          go_upto_region 20 with (fail)
          have hal:=Ya w20 (.cells #[.int .i64 s1,.slice E1_ n1 c1,.bool b1,.slice A1 l1_ k1,.slice B1 m1 d1] 39)
          have S2:=Yh5 (Yb S1.p0 hal) (S1.p1.keep hal) (S1.p2.cv.keep hal) (Bl.new w20 39 [.int .i64 s1,.slice E1_ n1 c1,.bool b1,.slice A1 l1_ k1,.slice B1 m1 d1]) S1.q3
          obtain ⟨g10,hg10⟩:∃ g,g=w20.heap.size:=⟨_,rfl⟩
          rw [<- hg10] at S2 ⊢
          clear S1 hal hg10
          generalize w20.alloc _=V1 at S2 ⊢
          obtain ⟨l0,l1,l2,l3,l4,l5,l6,zb0,zc0,zd0,zd1,zd2,ze0,ze1,ze2⟩:=HC.out _ S2.p0
          go_wp2_with fail
          refine (_root_.Go.Proofs.YtclaiidoomdklaaGreat.bound_c (col:=(k:Int)) (up:=true) (HLP.out.keep S2.p0) HF.p0).mono ?_;rintro e w21 ⟨r,rfl,hc⟩
          have hb:=hc.below
          obtain ⟨E2,hE2⟩:∃ E,E=(tellX (boundX l (k:Int) true)).2:=⟨_,rfl⟩
          rw [<- hE2]
          have hcc:=hc
          obtain ⟨⟨s2,E2_,n2,c2,b2,A2,l2_,k2,B2,m2,d2⟩,rfl,-⟩:=hc
          dsimp only [Cm.agg] at hcc ⊢
          have S3:=Yh7 (Yb S2.p0 hb) (S2.p1.keep hb) (S2.p2.keep hb) (S2.p3.keep hb) S2.q4 (hcc.from S2.p0) hE2
          clear hb hcc hE2 S2 l0 l1 l2 l3 l4 l5 l6 zb0 zc0 zd0 zd1 zd2 ze0 ze1 ze2
          go_upto_region 21 with (fail)
          have hal:=Ya w21 (.cells #[.int .i64 s2,.slice E2_ n2 c2,.bool b2,.slice A2 l2_ k2,.slice B2 m2 d2] 39)
          have S4:=Yh6 (Yb S3.p0 hal) (S3.p1.keep hal) (S3.p2.keep hal) (S3.p3.keep hal) (S3.p5.cv.keep hal) (Bl.new w21 39 [.int .i64 s2,.slice E2_ n2 c2,.bool b2,.slice A2 l2_ k2,.slice B2 m2 d2])
          have HE1:=Lib.hid (S3.p4.trans (congrArg Prod.snd HT1.out))
          have HE2:=Lib.hid (S3.q6.trans (congrArg Prod.snd HT2.out))
          obtain ⟨g12,hg12⟩:∃ g,g=w21.heap.size:=⟨_,rfl⟩
          rw [<- hg12] at S4 ⊢
          clear S3 hal hg12
          generalize w21.alloc _=V2 at S4 ⊢
          go_cut [109] (fun s wx=>s=.bool false/\V2=wx)
          case first=>
           obtain ⟨l0,l1,l2,l3,l4,l5,l6,zb0,zc0,zd0,zd1,zd2,ze0,ze1,ze2⟩:=HC.out _ S4.p0
           cases tb with
           | true=>
            cases tc with
            | true=>
             have e1:E1=0:=HE1.out.trans (by rfl)
             have e2:E2=0:=HE2.out.trans (by rfl)
             subst e1;subst e2
             go_wp2_with fail
             go_meet
             exact ⟨rfl,rfl⟩
            | false=>
             have e1:E1=0:=HE1.out.trans (by rfl)
             have e2:E2=2:=HE2.out.trans (by rfl)
             subst e1;subst e2
             go_wp2_with fail
             go_meet
             exact ⟨rfl,rfl⟩
           | false=>
            cases tc with
            | true=>
             have e1:E1=2:=HE1.out.trans (by rfl)
             have e2:E2=0:=HE2.out.trans (by rfl)
             subst e1;subst e2
             go_wp2_with fail
             go_meet
             exact ⟨rfl,rfl⟩
            | false=>
             have e1:E1=2:=HE1.out.trans (by rfl)
             have e2:E2=2:=HE2.out.trans (by rfl)
             subst e1;subst e2
             go_wp2_with fail
             go_meet
             exact ⟨rfl,rfl⟩
          case rest=>
           obtain ⟨rfl,rfl⟩:=hcut
           obtain ⟨gq,oq,_,xq,e,hgq,hvq,q0,q1,q2⟩:=S4.p1.rx.at_ HGW.p0
           rw [HGS.q1] at e
           injection e with e1 e2 e3
           subst e1
           clear e2 e3
           have HQV:=Lib.hid (Fv.qv (L:=29047) hvq HGW.p1 HGW.q2)
           have HCC:Hid (∀ W,Yg V2 W->Yc7 W w.heap.size (.int .i64 l.n) (.slice aA R ac) (.slice (some ⟨gb,ob,none⟩) R bc) (.slice (some ⟨gc,oc,none⟩) R cc) (.slice (some ⟨gd,od,none⟩) R dc) (.slice (some ⟨ge,oe,none⟩) R ec) (.slice fA fn fc) (W.cell? ⟨gd,od+k*3,none⟩=some (.bool xd.b)/\W.cell? ⟨gd,od+k*3+1,none⟩=some (.slice xd.A xd.l xd.k)/\W.cell? ⟨gd,od+k*3+2,none⟩=some (.slice xd.B xd.m xd.d)/\Yc5 W g10 (.int .i64 s1) (.slice E1_ n1 c1) (.bool b1) (.slice A1 l1_ k1) (.slice B1 m1 d1) (W.cell? ⟨gq,oq+k*3,none⟩=some (.bool xq.b)/\W.cell? ⟨gq,oq+k*3+1,none⟩=some (.slice xq.A xq.l xq.k)/\W.cell? ⟨gq,oq+k*3+2,none⟩=some (.slice xq.B xq.m xq.d)))):=fun W hb=>⟨(HC.out _ (Yb S4.p0 hb)).1,(HC.out _ (Yb S4.p0 hb)).2.1,(HC.out _ (Yb S4.p0 hb)).2.2.1,(HC.out _ (Yb S4.p0 hb)).2.2.2.1,(HC.out _ (Yb S4.p0 hb)).2.2.2.2.1,(HC.out _ (Yb S4.p0 hb)).2.2.2.2.2.1,(HC.out _ (Yb S4.p0 hb)).2.2.2.2.2.2.1,(HC.out _ (Yb S4.p0 hb)).2.2.2.2.2.2.2.2.2.1,(HC.out _ (Yb S4.p0 hb)).2.2.2.2.2.2.2.2.2.2.1,(HC.out _ (Yb S4.p0 hb)).2.2.2.2.2.2.2.2.2.2.2.1,Bl.ld (S4.p3.keep hb) 0 rfl,Bl.ld (S4.p3.keep hb) 1 rfl,Bl.ld (S4.p3.keep hb) 2 rfl,Bl.ld (S4.p3.keep hb) 3 rfl,Bl.ld (S4.p3.keep hb) 4 rfl,(hb.cell (p:=⟨gq,_,none⟩) hgq).trans q0,(hb.cell (p:=⟨gq,_,none⟩) hgq).trans q1,(hb.cell (p:=⟨gq,_,none⟩) hgq).trans q2⟩
           clear hvq hgq q0 q1 q2
           go_upto_region 23 with (fail)
           go_cut [130] (fun s wx=>s=.bool false/\Hid (Yg W0 wx/\Ro W0 wx (.slice (some ⟨gq,oq,none⟩) R c5) gs/\Cv wx (.agg #[.int .i64 s2,.slice E2_ n2 c2,.bool b2,.slice A2 l2_ k2,.slice B2 m2 d2]) (tellX (boundX l (k:Int) true)).1/\Bl wx 39 g12 [.int .i64 s2,.slice E2_ n2 c2,.bool b2,.slice A2 l2_ k2,.slice B2 m2 d2]))
           case first=>
            cases tb with
            | true=>
             have e1:E1=0:=HE1.out.trans (by rfl)
             subst e1
             have HCV:Hid (Cv V2 (.agg #[.int .i64 s1,.slice E1_ n1 c1,.bool b1,.slice A1 l1_ k1,.slice B1 m1 d1]) (cB l (k:Int) false)):=by have h:=S4.p2;rw [HT1.out] at h;exact h
             by_cases dC:0<=cmpQ (allX l fs k) td.q
             · skip
               refine wp_region_held_drew (S:=fun W=>Yc7 W w.heap.size (.int .i64 l.n) (.slice aA R ac) (.slice (some ⟨gb,ob,none⟩) R bc) (.slice (some ⟨gc,oc,none⟩) R cc) (.slice (some ⟨gd,od,none⟩) R dc) (.slice (some ⟨ge,oe,none⟩) R ec) (.slice fA fn fc) (W.cell? ⟨gd,od+k*3,none⟩=some (.bool xd.b)/\W.cell? ⟨gd,od+k*3+1,none⟩=some (.slice xd.A xd.l xd.k)/\W.cell? ⟨gd,od+k*3+2,none⟩=some (.slice xd.B xd.m xd.d)/\Yc5 W g10 (.int .i64 s1) (.slice E1_ n1 c1) (.bool b1) (.slice A1 l1_ k1) (.slice B1 m1 d1) (W.cell? ⟨gq,oq+k*3,none⟩=some (.bool xq.b)/\W.cell? ⟨gq,oq+k*3+1,none⟩=some (.slice xq.A xq.l xq.k)/\W.cell? ⟨gq,oq+k*3+2,none⟩=some (.slice xq.B xq.m xq.d)))) (by kernel_rfl) (HCC.out _ (below_d _)) (fun Hh=>?_)
               have B1:=Lib.hid (below_d V2)
               generalize V2.drew=Wd at B1 Hh ⊢
               refine rgFree [0,1,2,3,4,5,6,7,8,9,10,11,12,13,14,15,16,17,18,19,20] [false,false,false,false,false,false,false,false,false,false,false,false,false,false,false,false,false,false,false,false,false] (fun HFR=>?_)
               refine rgRun 14 [0,1,2,3,4,6,7,8,9,11,12,13,14,15] Hh fun K hK=>?_
               repeat refine rgA ?_
               refine hK _ _ ?_;clear hK K
               refine rgO 5 fun K hK=>?_
               go_simp
               go_at_call 30;refine (holds2_d (HCV.out.keep B1.out) (HRX.out.keep (Yb S4.p0 B1.out)) rfl HC1.q2 HC1.p0 HC1.p1 (by have:=HXF.p0;exact this) (fun f hf=>by have:=HXF.q1 f hf;omega)).mono ?_;rintro e w30 ⟨rfl,hb⟩
               rw [HD.p0,HQ1.out,decide_eq_true (p:=0<=cmpQ (allX l fs k) td.q) (by omega)]
               have B2:=Lib.hid (Yb B1.out hb)
               clear hb B1 Hh
               go_wp2_with fail
               refine rgK hK (HCC.out _ B2.out) fun Hh=>?_;clear hK K
               refine rgO 10 fun K hK=>?_
               go_simp
               go_at_call 28;refine (of_e (a:=xq.num) (HQV.out.keep B2.out) (by decide) (by decide)).mono ?_;rintro e w31 ⟨v31,rfl,h31,hb⟩
               have H31:=Lib.hid h31
               have B3:=Lib.hid (Yb B2.out hb)
               clear hb h31 B2 Hh
               go_wp2_with fail
               refine rgK hK (HCC.out _ B3.out) fun Hh=>?_;clear hK K
               refine rgO 16 fun K hK=>?_
               go_simp
               go_at_call 28;refine (of_e (a:=xd.num) (Fv.qv (L:=6) (HV.p0.keep (Yb S4.p0 B3.out)) HF2.p0.1 HF2.p0.2) (by decide) (by decide)).mono ?_;rintro e w32 ⟨v32,rfl,h32,hb⟩
               have H32:=Yh2 (H31.out.keep hb) h32
               have B4:=Lib.hid (Yb B3.out hb)
               clear hb h32 H31 B3 Hh
               go_wp2_with fail
               refine rgK hK (HCC.out _ B4.out) fun Hh=>?_;clear hK K
               refine rgO 17 fun K hK=>?_
               go_simp
               go_at_call 31;refine (cmp_e H32.p0 H32.q1 (by decide) (by decide) (by decide) (by decide)).mono ?_;rintro e w33 ⟨rfl,hb⟩
               rw [HQ3.out]
               obtain ⟨KK,hKK⟩:∃ K,K=cmpQ (allX l fs k) td.q:=⟨_,rfl⟩
               rw [<- hKK]
               have HKK:Hid (decide (0<=KK)=true):=decide_eq_true (by rw [hKK];omega)
               have B5:=Lib.hid (Yb B4.out hb)
               clear hb H32 hKK B4 Hh
               go_wp2_with fail
               refine rgK hK (HCC.out _ B5.out) fun Hh=>?_;clear hK K
               have dK:=HKK.out
               refine rgU 18 128 HFR Hh ?_
               refine rgU 19 129 HFR Hh ?_
               refine rgU 20 130 HFR Hh ?_
               refine Yw ?_
               clear Hh
               go_wp2_with fail
               go_meet
               exact ⟨rfl,⟨Yb S4.p0 B5.out,S4.p1.keep B5.out,S4.p4.keep B5.out,S4.q5.keep B5.out⟩⟩
             refine wp_region_held_drew (S:=fun W=>Yc7 W w.heap.size (.int .i64 l.n) (.slice aA R ac) (.slice (some ⟨gb,ob,none⟩) R bc) (.slice (some ⟨gc,oc,none⟩) R cc) (.slice (some ⟨gd,od,none⟩) R dc) (.slice (some ⟨ge,oe,none⟩) R ec) (.slice fA fn fc) (W.cell? ⟨gd,od+k*3,none⟩=some (.bool xd.b)/\W.cell? ⟨gd,od+k*3+1,none⟩=some (.slice xd.A xd.l xd.k)/\W.cell? ⟨gd,od+k*3+2,none⟩=some (.slice xd.B xd.m xd.d)/\Yc5 W g10 (.int .i64 s1) (.slice E1_ n1 c1) (.bool b1) (.slice A1 l1_ k1) (.slice B1 m1 d1) (W.cell? ⟨gq,oq+k*3,none⟩=some (.bool xq.b)/\W.cell? ⟨gq,oq+k*3+1,none⟩=some (.slice xq.A xq.l xq.k)/\W.cell? ⟨gq,oq+k*3+2,none⟩=some (.slice xq.B xq.m xq.d)))) (by kernel_rfl) (HCC.out _ (below_d _)) (fun Hh=>?_)
             have B1:=Lib.hid (below_d V2)
             generalize V2.drew=Wd at B1 Hh ⊢
             refine rgFree [0,1,2,3,4,5,6,7,8,9,10,11,12,13,14,15,16,17,18,19,20] [false,false,false,false,false,false,false,false,false,false,false,false,false,false,false,false,false,false,false,false,false] (fun HFR=>?_)
             refine rgRun 14 [0,1,2,3,4,6,7,8,9,11,12,13,14,15] Hh fun K hK=>?_
             repeat refine rgA ?_
             refine hK _ _ ?_;clear hK K
             refine rgO 5 fun K hK=>?_
             go_simp
             go_at_call 30;refine (holds2_d (HCV.out.keep B1.out) (HRX.out.keep (Yb S4.p0 B1.out)) rfl HC1.q2 HC1.p0 HC1.p1 (by have:=HXF.p0;exact this) (fun f hf=>by have:=HXF.q1 f hf;omega)).mono ?_;rintro e w30 ⟨rfl,hb⟩
             rw [HD.p0,HQ1.out,decide_eq_false (p:=0<=cmpQ (allX l fs k) td.q) (by omega)]
             have B2:=Lib.hid (Yb B1.out hb)
             clear hb B1 Hh
             go_wp2_with fail
             refine rgK hK (HCC.out _ B2.out) fun Hh=>?_;clear hK K
             refine rgO 10 fun K hK=>?_
             go_simp
             go_at_call 28;refine (of_e (a:=xq.num) (HQV.out.keep B2.out) (by decide) (by decide)).mono ?_;rintro e w31 ⟨v31,rfl,h31,hb⟩
             have H31:=Lib.hid h31
             have B3:=Lib.hid (Yb B2.out hb)
             clear hb h31 B2 Hh
             go_wp2_with fail
             refine rgK hK (HCC.out _ B3.out) fun Hh=>?_;clear hK K
             refine rgO 16 fun K hK=>?_
             go_simp
             go_at_call 28;refine (of_e (a:=xd.num) (Fv.qv (L:=6) (HV.p0.keep (Yb S4.p0 B3.out)) HF2.p0.1 HF2.p0.2) (by decide) (by decide)).mono ?_;rintro e w32 ⟨v32,rfl,h32,hb⟩
             have H32:=Yh2 (H31.out.keep hb) h32
             have B4:=Lib.hid (Yb B3.out hb)
             clear hb h32 H31 B3 Hh
             go_wp2_with fail
             refine rgK hK (HCC.out _ B4.out) fun Hh=>?_;clear hK K
             refine rgO 17 fun K hK=>?_
             go_simp
             go_at_call 31;refine (cmp_e H32.p0 H32.q1 (by decide) (by decide) (by decide) (by decide)).mono ?_;rintro e w33 ⟨rfl,hb⟩
             rw [HQ3.out]
             obtain ⟨KK,hKK⟩:∃ K,K=cmpQ (allX l fs k) td.q:=⟨_,rfl⟩
             rw [<- hKK]
             have HKK:Hid (decide (0<=KK)=false):=decide_eq_false (by rw [hKK];omega)
             have B5:=Lib.hid (Yb B4.out hb)
             clear hb H32 hKK B4 Hh
             go_wp2_with fail
             refine rgK hK (HCC.out _ B5.out) fun Hh=>?_;clear hK K
             have dK:=HKK.out
             refine rgU 18 128 HFR Hh ?_
             refine rgU 19 129 HFR Hh ?_
             refine rgU 20 130 HFR Hh ?_
             refine Yw ?_
             clear Hh
             go_wp2_with fail
             go_meet
             exact ⟨rfl,⟨Yb S4.p0 B5.out,S4.p1.keep B5.out,S4.p4.keep B5.out,S4.q5.keep B5.out⟩⟩
            | false=>
             have e1:E1=2:=HE1.out.trans (by rfl)
             subst e1
             refine wp_region_held_drew (S:=fun W=>Yc7 W w.heap.size (.int .i64 l.n) (.slice aA R ac) (.slice (some ⟨gb,ob,none⟩) R bc) (.slice (some ⟨gc,oc,none⟩) R cc) (.slice (some ⟨gd,od,none⟩) R dc) (.slice (some ⟨ge,oe,none⟩) R ec) (.slice fA fn fc) (W.cell? ⟨gd,od+k*3,none⟩=some (.bool xd.b)/\W.cell? ⟨gd,od+k*3+1,none⟩=some (.slice xd.A xd.l xd.k)/\W.cell? ⟨gd,od+k*3+2,none⟩=some (.slice xd.B xd.m xd.d)/\Yc5 W g10 (.int .i64 s1) (.slice E1_ n1 c1) (.bool b1) (.slice A1 l1_ k1) (.slice B1 m1 d1) (W.cell? ⟨gq,oq+k*3,none⟩=some (.bool xq.b)/\W.cell? ⟨gq,oq+k*3+1,none⟩=some (.slice xq.A xq.l xq.k)/\W.cell? ⟨gq,oq+k*3+2,none⟩=some (.slice xq.B xq.m xq.d)))) (by kernel_rfl) (HCC.out _ (below_d _)) (fun Hh=>?_)
             have B1:=Lib.hid (below_d V2)
             generalize V2.drew=Wd at B1 Hh ⊢
             refine rgFree [0,1,2,3,4,5,6,7,8,9,10,11,12,13,14,15,16,17,18,19,20] [false,false,false,false,false,false,false,false,false,false,false,false,false,false,false,false,false,false,false,false,false] (fun HFR=>?_)
             refine rgU 0 110 HFR Hh ?_
             refine rgU 1 111 HFR Hh ?_
             refine rgU 2 112 HFR Hh ?_
             refine rgSks 17 [(3,some 113),(4,some 114),(5,some 115),(6,some 116),(7,some 117),(8,some 118),(9,some 119),(10,some 120),(11,some 121),(12,some 122),(13,some 123),(14,some 124),(15,some 125),(16,some 126),(17,some 127),(18,some 128),(19,some 129)] HFR Hh ?_;dsimp only [skL,skA,List.foldl_cons,List.foldl_nil,List.set_cons_zero,List.set_cons_succ]
             refine rgU 20 130 HFR Hh ?_
             refine Yw ?_
             clear Hh
             go_wp2_with fail
             go_meet
             exact ⟨rfl,⟨Yb S4.p0 B1.out,S4.p1.keep B1.out,S4.p4.keep B1.out,S4.q5.keep B1.out⟩⟩
           case rest=>
            obtain ⟨rfl,HQc⟩:=hcut
            generalize wc=V3 at HQc ⊢
            clear S4 HQV HCC
            obtain ⟨gq2,oq2,_,xq,e,hgq,hvq,q0,q1,q2⟩:=HQc.p1.rx.at_ HGW.p0
            injection e with e1 e2 e3
            injection e1 with e1
            injection e1 with e1 e4 e5
            subst e1;subst e4
            clear e2 e3 e5
            have HQV:=Lib.hid (Fv.qv (L:=29047) hvq HGW.p1 HGW.q2)
            have HCC:Hid (∀ W,Yg V3 W->Yc7 W w.heap.size (.int .i64 l.n) (.slice aA R ac) (.slice (some ⟨gb,ob,none⟩) R bc) (.slice (some ⟨gc,oc,none⟩) R cc) (.slice (some ⟨gd,od,none⟩) R dc) (.slice (some ⟨ge,oe,none⟩) R ec) (.slice fA fn fc) (W.cell? ⟨ge,oe+k*3,none⟩=some (.bool xe.b)/\W.cell? ⟨ge,oe+k*3+1,none⟩=some (.slice xe.A xe.l xe.k)/\W.cell? ⟨ge,oe+k*3+2,none⟩=some (.slice xe.B xe.m xe.d)/\Yc5 W g12 (.int .i64 s2) (.slice E2_ n2 c2) (.bool b2) (.slice A2 l2_ k2) (.slice B2 m2 d2) (W.cell? ⟨gq,oq+k*3,none⟩=some (.bool xq.b)/\W.cell? ⟨gq,oq+k*3+1,none⟩=some (.slice xq.A xq.l xq.k)/\W.cell? ⟨gq,oq+k*3+2,none⟩=some (.slice xq.B xq.m xq.d)))):=fun W hb=>⟨(HC.out _ (Yb HQc.p0 hb)).1,(HC.out _ (Yb HQc.p0 hb)).2.1,(HC.out _ (Yb HQc.p0 hb)).2.2.1,(HC.out _ (Yb HQc.p0 hb)).2.2.2.1,(HC.out _ (Yb HQc.p0 hb)).2.2.2.2.1,(HC.out _ (Yb HQc.p0 hb)).2.2.2.2.2.1,(HC.out _ (Yb HQc.p0 hb)).2.2.2.2.2.2.1,(HC.out _ (Yb HQc.p0 hb)).2.2.2.2.2.2.2.2.2.2.2.2.1,(HC.out _ (Yb HQc.p0 hb)).2.2.2.2.2.2.2.2.2.2.2.2.2.1,(HC.out _ (Yb HQc.p0 hb)).2.2.2.2.2.2.2.2.2.2.2.2.2.2,Bl.ld (HQc.q3.keep hb) 0 rfl,Bl.ld (HQc.q3.keep hb) 1 rfl,Bl.ld (HQc.q3.keep hb) 2 rfl,Bl.ld (HQc.q3.keep hb) 3 rfl,Bl.ld (HQc.q3.keep hb) 4 rfl,(hb.cell (p:=⟨gq,_,none⟩) hgq).trans q0,(hb.cell (p:=⟨gq,_,none⟩) hgq).trans q1,(hb.cell (p:=⟨gq,_,none⟩) hgq).trans q2⟩
            clear hvq hgq q0 q1 q2
            go_upto_region 25 with (fail)
            go_cut [151] (fun s wx=>s=.bool false/\Hid (Yg W0 wx/\Ro W0 wx (.slice (some ⟨gq,oq,none⟩) R c5) gs))
            case first=>
             cases tc with
             | true=>
              have e1:E2=0:=HE2.out.trans (by rfl)
              subst e1
              have HCV:Hid (Cv V3 (.agg #[.int .i64 s2,.slice E2_ n2 c2,.bool b2,.slice A2 l2_ k2,.slice B2 m2 d2]) (cB l (k:Int) true)):=by have h:=HQc.p2;rw [HT2.out] at h;exact h
              by_cases dC:cmpQ (allX l fs k) te.q<=0
              · skip
                refine wp_region_held_drew (S:=fun W=>Yc7 W w.heap.size (.int .i64 l.n) (.slice aA R ac) (.slice (some ⟨gb,ob,none⟩) R bc) (.slice (some ⟨gc,oc,none⟩) R cc) (.slice (some ⟨gd,od,none⟩) R dc) (.slice (some ⟨ge,oe,none⟩) R ec) (.slice fA fn fc) (W.cell? ⟨ge,oe+k*3,none⟩=some (.bool xe.b)/\W.cell? ⟨ge,oe+k*3+1,none⟩=some (.slice xe.A xe.l xe.k)/\W.cell? ⟨ge,oe+k*3+2,none⟩=some (.slice xe.B xe.m xe.d)/\Yc5 W g12 (.int .i64 s2) (.slice E2_ n2 c2) (.bool b2) (.slice A2 l2_ k2) (.slice B2 m2 d2) (W.cell? ⟨gq,oq+k*3,none⟩=some (.bool xq.b)/\W.cell? ⟨gq,oq+k*3+1,none⟩=some (.slice xq.A xq.l xq.k)/\W.cell? ⟨gq,oq+k*3+2,none⟩=some (.slice xq.B xq.m xq.d)))) (by kernel_rfl) (HCC.out _ (below_d _)) (fun Hh=>?_)
                have B1:=Lib.hid (below_d V3)
                generalize V3.drew=Wd at B1 Hh ⊢
                refine rgFree [0,1,2,3,4,5,6,7,8,9,10,11,12,13,14,15,16,17,18,19,20] [false,false,false,false,false,false,false,false,false,false,false,false,false,false,false,false,false,false,false,false,false] (fun HFR=>?_)
                refine rgRun 14 [0,1,2,3,4,6,7,8,9,11,12,13,14,15] Hh fun K hK=>?_
                repeat refine rgA ?_
                refine hK _ _ ?_;clear hK K
                refine rgO 5 fun K hK=>?_
                go_simp
                go_at_call 30;refine (holds1_d (HCV.out.keep B1.out) (HRX.out.keep (Yb HQc.p0 B1.out)) rfl HC2.q2 HC2.p0 HC2.p1 (by have:=HXF.p0;exact this) (fun f hf=>by have:=HXF.q1 f hf;omega)).mono ?_;rintro e w30 ⟨rfl,hb⟩
                rw [HD.q1,HQ2.out,decide_eq_true (p:=cmpQ (allX l fs k) te.q<=0) (by omega)]
                have B2:=Lib.hid (Yb B1.out hb)
                clear hb B1 Hh
                go_wp2_with fail
                refine rgK hK (HCC.out _ B2.out) fun Hh=>?_;clear hK K
                refine rgO 10 fun K hK=>?_
                go_simp
                go_at_call 28;refine (of_e (a:=xq.num) (HQV.out.keep B2.out) (by decide) (by decide)).mono ?_;rintro e w31 ⟨v31,rfl,h31,hb⟩
                have H31:=Lib.hid h31
                have B3:=Lib.hid (Yb B2.out hb)
                clear hb h31 B2 Hh
                go_wp2_with fail
                refine rgK hK (HCC.out _ B3.out) fun Hh=>?_;clear hK K
                refine rgO 16 fun K hK=>?_
                go_simp
                go_at_call 28;refine (of_e (a:=xe.num) (Fv.qv (L:=6) (HV.q1.keep (Yb HQc.p0 B3.out)) HF2.p1 HF2.q2) (by decide) (by decide)).mono ?_;rintro e w32 ⟨v32,rfl,h32,hb⟩
                have H32:=Yh2 (H31.out.keep hb) h32
                have B4:=Lib.hid (Yb B3.out hb)
                clear hb h32 H31 B3 Hh
                go_wp2_with fail
                refine rgK hK (HCC.out _ B4.out) fun Hh=>?_;clear hK K
                refine rgO 17 fun K hK=>?_
                go_simp
                go_at_call 31;refine (cmp_e H32.p0 H32.q1 (by decide) (by decide) (by decide) (by decide)).mono ?_;rintro e w33 ⟨rfl,hb⟩
                rw [HQ3.out]
                obtain ⟨KK,hKK⟩:∃ K,K=cmpQ (allX l fs k) te.q:=⟨_,rfl⟩
                rw [<- hKK]
                have HKK:Hid (decide (KK<=0)=true):=decide_eq_true (by rw [hKK];omega)
                have B5:=Lib.hid (Yb B4.out hb)
                clear hb H32 hKK B4 Hh
                go_wp2_with fail
                refine rgK hK (HCC.out _ B5.out) fun Hh=>?_;clear hK K
                have dK:=HKK.out
                refine rgU 18 149 HFR Hh ?_
                refine rgU 19 150 HFR Hh ?_
                refine rgU 20 151 HFR Hh ?_
                refine Yw ?_
                clear Hh
                go_wp2_with fail
                go_meet
                exact ⟨rfl,⟨Yb HQc.p0 B5.out,HQc.p1.keep B5.out⟩⟩
              refine wp_region_held_drew (S:=fun W=>Yc7 W w.heap.size (.int .i64 l.n) (.slice aA R ac) (.slice (some ⟨gb,ob,none⟩) R bc) (.slice (some ⟨gc,oc,none⟩) R cc) (.slice (some ⟨gd,od,none⟩) R dc) (.slice (some ⟨ge,oe,none⟩) R ec) (.slice fA fn fc) (W.cell? ⟨ge,oe+k*3,none⟩=some (.bool xe.b)/\W.cell? ⟨ge,oe+k*3+1,none⟩=some (.slice xe.A xe.l xe.k)/\W.cell? ⟨ge,oe+k*3+2,none⟩=some (.slice xe.B xe.m xe.d)/\Yc5 W g12 (.int .i64 s2) (.slice E2_ n2 c2) (.bool b2) (.slice A2 l2_ k2) (.slice B2 m2 d2) (W.cell? ⟨gq,oq+k*3,none⟩=some (.bool xq.b)/\W.cell? ⟨gq,oq+k*3+1,none⟩=some (.slice xq.A xq.l xq.k)/\W.cell? ⟨gq,oq+k*3+2,none⟩=some (.slice xq.B xq.m xq.d)))) (by kernel_rfl) (HCC.out _ (below_d _)) (fun Hh=>?_)
              have B1:=Lib.hid (below_d V3)
              generalize V3.drew=Wd at B1 Hh ⊢
              refine rgFree [0,1,2,3,4,5,6,7,8,9,10,11,12,13,14,15,16,17,18,19,20] [false,false,false,false,false,false,false,false,false,false,false,false,false,false,false,false,false,false,false,false,false] (fun HFR=>?_)
              refine rgRun 14 [0,1,2,3,4,6,7,8,9,11,12,13,14,15] Hh fun K hK=>?_
              repeat refine rgA ?_
              refine hK _ _ ?_;clear hK K
              refine rgO 5 fun K hK=>?_
              go_simp
              go_at_call 30;refine (holds1_d (HCV.out.keep B1.out) (HRX.out.keep (Yb HQc.p0 B1.out)) rfl HC2.q2 HC2.p0 HC2.p1 (by have:=HXF.p0;exact this) (fun f hf=>by have:=HXF.q1 f hf;omega)).mono ?_;rintro e w30 ⟨rfl,hb⟩
              rw [HD.q1,HQ2.out,decide_eq_false (p:=cmpQ (allX l fs k) te.q<=0) (by omega)]
              have B2:=Lib.hid (Yb B1.out hb)
              clear hb B1 Hh
              go_wp2_with fail
              refine rgK hK (HCC.out _ B2.out) fun Hh=>?_;clear hK K
              refine rgO 10 fun K hK=>?_
              go_simp
              go_at_call 28;refine (of_e (a:=xq.num) (HQV.out.keep B2.out) (by decide) (by decide)).mono ?_;rintro e w31 ⟨v31,rfl,h31,hb⟩
              have H31:=Lib.hid h31
              have B3:=Lib.hid (Yb B2.out hb)
              clear hb h31 B2 Hh
              go_wp2_with fail
              refine rgK hK (HCC.out _ B3.out) fun Hh=>?_;clear hK K
              refine rgO 16 fun K hK=>?_
              go_simp
              go_at_call 28;refine (of_e (a:=xe.num) (Fv.qv (L:=6) (HV.q1.keep (Yb HQc.p0 B3.out)) HF2.p1 HF2.q2) (by decide) (by decide)).mono ?_;rintro e w32 ⟨v32,rfl,h32,hb⟩
              have H32:=Yh2 (H31.out.keep hb) h32
              have B4:=Lib.hid (Yb B3.out hb)
              clear hb h32 H31 B3 Hh
              go_wp2_with fail
              refine rgK hK (HCC.out _ B4.out) fun Hh=>?_;clear hK K
              refine rgO 17 fun K hK=>?_
              go_simp
              go_at_call 31;refine (cmp_e H32.p0 H32.q1 (by decide) (by decide) (by decide) (by decide)).mono ?_;rintro e w33 ⟨rfl,hb⟩
              rw [HQ3.out]
              obtain ⟨KK,hKK⟩:∃ K,K=cmpQ (allX l fs k) te.q:=⟨_,rfl⟩
              rw [<- hKK]
              have HKK:Hid (decide (KK<=0)=false):=decide_eq_false (by rw [hKK];omega)
              have B5:=Lib.hid (Yb B4.out hb)
              clear hb H32 hKK B4 Hh
              go_wp2_with fail
              refine rgK hK (HCC.out _ B5.out) fun Hh=>?_;clear hK K
              have dK:=HKK.out
              refine rgU 18 149 HFR Hh ?_
              refine rgU 19 150 HFR Hh ?_
              refine rgU 20 151 HFR Hh ?_
              refine Yw ?_
              clear Hh
              go_wp2_with fail
              go_meet
              exact ⟨rfl,⟨Yb HQc.p0 B5.out,HQc.p1.keep B5.out⟩⟩
             | false=>
              have e1:E2=2:=HE2.out.trans (by rfl)
              subst e1
              refine wp_region_held_drew (S:=fun W=>Yc7 W w.heap.size (.int .i64 l.n) (.slice aA R ac) (.slice (some ⟨gb,ob,none⟩) R bc) (.slice (some ⟨gc,oc,none⟩) R cc) (.slice (some ⟨gd,od,none⟩) R dc) (.slice (some ⟨ge,oe,none⟩) R ec) (.slice fA fn fc) (W.cell? ⟨ge,oe+k*3,none⟩=some (.bool xe.b)/\W.cell? ⟨ge,oe+k*3+1,none⟩=some (.slice xe.A xe.l xe.k)/\W.cell? ⟨ge,oe+k*3+2,none⟩=some (.slice xe.B xe.m xe.d)/\Yc5 W g12 (.int .i64 s2) (.slice E2_ n2 c2) (.bool b2) (.slice A2 l2_ k2) (.slice B2 m2 d2) (W.cell? ⟨gq,oq+k*3,none⟩=some (.bool xq.b)/\W.cell? ⟨gq,oq+k*3+1,none⟩=some (.slice xq.A xq.l xq.k)/\W.cell? ⟨gq,oq+k*3+2,none⟩=some (.slice xq.B xq.m xq.d)))) (by kernel_rfl) (HCC.out _ (below_d _)) (fun Hh=>?_)
              have B1:=Lib.hid (below_d V3)
              generalize V3.drew=Wd at B1 Hh ⊢
              refine rgFree [0,1,2,3,4,5,6,7,8,9,10,11,12,13,14,15,16,17,18,19,20] [false,false,false,false,false,false,false,false,false,false,false,false,false,false,false,false,false,false,false,false,false] (fun HFR=>?_)
              refine rgU 0 131 HFR Hh ?_
              refine rgU 1 132 HFR Hh ?_
              refine rgU 2 133 HFR Hh ?_
              refine rgSks 17 [(3,some 134),(4,some 135),(5,some 136),(6,some 137),(7,some 138),(8,some 139),(9,some 140),(10,some 141),(11,some 142),(12,some 143),(13,some 144),(14,some 145),(15,some 146),(16,some 147),(17,some 148),(18,some 149),(19,some 150)] HFR Hh ?_;dsimp only [skL,skA,List.foldl_cons,List.foldl_nil,List.set_cons_zero,List.set_cons_succ]
              refine rgU 20 151 HFR Hh ?_
              refine Yw ?_
              clear Hh
              go_wp2_with fail
              go_meet
              exact ⟨rfl,⟨Yb HQc.p0 B1.out,HQc.p1.keep B1.out⟩⟩
            case rest=>
             obtain ⟨rfl,HQd⟩:=hcut
             generalize wc=V4 at HQd ⊢
             go_wp2_with fail
             case roundEnd=>exact ⟨⟨k+1,by go_num,by omega,HQd.p0,HQd.q1⟩,by simp [intOf];omega⟩
        obtain rfl:k=R:=by omega
        have dk:¬ (k:Int)<(k:Int):=by omega
        go_wp2_with fail
        go_ret
        exact ⟨rfl,Yb HBW.out H.p0⟩
    have dne:((N:Int) !=l.n)=true:=by simp [dN]
    have l0:=Bl.ld (HBL.out.keep B4.out) 0 rfl
    have l1:=Bl.ld (HBL.out.keep B4.out) 1 rfl
    have l2:=Bl.ld (HBL.out.keep B4.out) 2 rfl
    have l3:=Bl.ld (HBL.out.keep B4.out) 3 rfl
    have l4:=Bl.ld (HBL.out.keep B4.out) 4 rfl
    have l5:=Bl.ld (HBL.out.keep B4.out) 5 rfl
    have l6:=Bl.ld (HBL.out.keep B4.out) 6 rfl
    go_wp2_with fail
    go_ret
    exact ⟨rfl,Yb HBW.out B4.out⟩
end I
end
end
end Go.Proofs.YtclaiidoomdklaaGreat
