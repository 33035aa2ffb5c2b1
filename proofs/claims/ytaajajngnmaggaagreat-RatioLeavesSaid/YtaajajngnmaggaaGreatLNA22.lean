import Derived.Test.YtaajajngnmaggaaGreatLNA21
set_option maxRecDepth 100000
set_option maxHeartbeats 8000000
set_option linter.unusedVariables false
set_option linter.unusedSimpArgs false
namespace Go.Proofs.YtaajajngnmaggaaGreat
section
section
open Go Go.RowKit Go.Proofs Pl
theorem el_ex {l:LPx} {xs:List Fx} {c:Nat} (hfit:fitsOne l xs.length) (hc:c<xs.length):∃ bl bh f g x,l.hasLo[c]?=some bl/\l.hasHi[c]?=some bh/\l.lo[c]?=some f/\l.hi[c]?=some g/\xs[c]?=some x:=by
 unfold fitsOne at hfit
 exact ⟨_,_,_,_,_,List.getElem?_eq_getElem Yo,List.getElem?_eq_getElem Yo,List.getElem?_eq_getElem Yo,List.getElem?_eq_getElem Yo,List.getElem?_eq_getElem hc⟩
def BestP (l:LPx) (xs:List Fx) (bs:List Int) (first:Bool) (k:Nat) (b:Int):Prop:=(b=-1/\lvK l xs bs first k=none)∨∃ j:Nat,b=(j:Int)/\j<k/\lvK l xs bs first k=some j
theorem BestP.skip {l:LPx} {xs:List Fx} {bs:List Int} {first:Bool} {k:Nat} {b:Int} (h:BestP l xs bs first k b) (h0:sgnQ (sLs l xs bs k)=0):BestP l xs bs first (k+1) b:=by
 rcases h with ⟨h,h1⟩ | ⟨j,h,h2,h1⟩
 · exact .inl ⟨h,(leaveK_0 h0).trans h1⟩
 · exact .inr ⟨j,h,Yo,(leaveK_0 h0).trans h1⟩
theorem BestP.first {l:LPx} {xs:List Fx} {bs:List Int} {first:Bool} {k:Nat} (h:BestP l xs bs first k (-1)) (h0:sgnQ (sLs l xs bs k)≠0):BestP l xs bs first (k+1) (k:Int):=by
 rcases h with ⟨-,h1⟩ | ⟨j,h,-⟩
 · exact .inr ⟨k,rfl,Yo,leaveK_1 h0 h1⟩
 · omega
theorem cmpQ_cases (q r:Rat):cmpQ q r=-1∨cmpQ q r=0∨cmpQ q r=1:=by
 unfold cmpQ
 split
 · exact .inl rfl
 · split
   · exact .inr (.inl rfl)
   · exact .inr (.inr rfl)
namespace I
theorem lack_at {w:World} {v u:Value} {l:LPx} {xs:List Fx} {c:Nat} {x:Fx} (h:LPv w v l) (hf:Fit30 l) (hfit:fitsOne l xs.length) (hc:xs[c]?=some x) (hx:x.xs.length<=6/\x.ds.length<=6) (hu:Fv w u x):
 Calls Tryz.prog 84 #[v,.int .i64 (c:Int),u] w fun e w'=>∃ p A l_ cc B k d,e=.returned (.tuple #[.agg #[.bool p,.slice A l_ cc,.slice B k d],.bool (sL l xs (c:Int)).2])/\Qe w' 61 (.agg #[.bool p,.slice A l_ cc,.slice B k d]) (sL l xs (c:Int)).1/\Yg w w':=by
 obtain ⟨bl,bh,f,g,x',h1,h2,h3,h4,h5⟩:=el_ex hfit (List.getElem?_eq_some_iff.1 hc).1
 rw [hc] at h5;injection h5 with h5;subst h5
 have z1:=hf.1.2.2 f (.inl (List.mem_of_getElem? h3))
 have z2:=hf.1.2.2 g (.inr (.inl (List.mem_of_getElem? h4)))
 refine (lack_d h h1 h2 h3 h4 (hu.qv hx.1 hx.2) z1.1 z1.2 z2.1 z2.2).mono ?_
 rintro e w' ⟨r,rfl,h6,hb⟩
 obtain ⟨p,A,l_,cc,B,k,d,rfl⟩:=h6.parts
 rw [sL_in h1 h2 h3 h4 hc]
 exact ⟨p,A,l_,cc,B,k,d,rfl,h6,hb⟩
end I
namespace I
theorem leave_d {w:World} {v u y:Value} {l:LPx} {bs:List Int} {xs:List Fx} {first:Bool} (h:LPv w v l) (hb:Iv w u bs) (hx:Rx w y xs) (hf:Fit30 l) (hfit:fitsOne l xs.length) (hxs:∀ f∈xs,f.xs.length<=6/\f.ds.length<=6) (hxl:xs.length<=30) (hbl:bs.length<=20) (hin:∀ (i:Nat) b,bs[i]?=some b->0<=b/\b<(xs.length:Int)):
 Calls Tryz.prog 33 #[v,u,y,.bool first] w fun e w'=>∃ (p:Int) (up ok:Bool),e=.returned (.tuple #[.int .i64 p,.bool up,.bool ok])/\Yg w w'/\leaveX l bs xs first=(p,up,ok):=by
 have hlp:=h
 obtain ⟨aA,an,ac,bA,bn,bc,cA,cn,cc,dA,dn,dc,eA,en,ec,fA,fn,fc,rfl,hP,hla,hlb,hlc,hld,hle,hlf,hma,hmb,hmc,hmd,hme,hmf⟩:=h.open
 obtain ⟨Au,cu,rfl,-,-⟩:=hb.shape
 obtain ⟨Ay,cy,rfl,-,-⟩:=hx.shape
 obtain ⟨n,hn⟩:∃ n,bs.length=n:=⟨_,rfl⟩
 obtain ⟨m,hm⟩:∃ m,xs.length=m:=⟨_,rfl⟩
 rw [hn] at hb hbl ⊢
 rw [hm] at hx hxl ⊢
 have HS:=Yh3 hlp hb hx
 have HN:=Yh2 hn hm
 have HZ:=Yh3 hxs hf hfit
 have HIN:=Lib.hid hin
 have HB20:=Yh2 hbl hxl
 clear hP hlp hb hx hn hm hxs hf hfit hin hbl hxl hla hlb hlc hld hle hlf hma hmb hmc hmd hme hmf h
 change Calls Tryz.prog 33 #[.agg #[.int .i64 l.n,.slice aA an ac,.slice bA bn bc,.slice cA cn cc,.slice dA dn dc,.slice eA en ec,.slice fA fn fc],.slice Au n cu,.slice Ay m cy,.bool first] w _
 go_enter Tryz.func33,Tryz.ntmps33
 go_upto_region 1 with (fail)
 obtain ⟨hX,hB⟩:=box1 w 26 [.int .i64 l.n,.slice aA an ac,.slice bA bn bc,.slice cA cn cc,.slice dA dn dc,.slice eA en ec,.slice fA fn fc]
 have HX:=Yh2 hX hB
 clear hX hB
 generalize w.alloc _=W0 at HX ⊢
 go_wp2_with fail
 go_loopw [11,12] (fun z11 z12 wr=>∃ (k:Nat) (bb:Int),z12=.int .i64 (k:Int)/\z11=.int .i64 bb/\k<=n/\Hid (BestP l xs bs first k bb/\Yg w wr/\Bl wr 26 w.heap.size [.int .i64 l.n,.slice aA an ac,.slice bA bn bc,.slice cA cn cc,.slice dA dn dc,.slice eA en ec,.slice fA fn fc])) (fun _ z _=>n - (intOf z).toNat)
 case atStart=>exact ⟨0,-1,rfl,rfl,Nat.zero_le _,.inl ⟨rfl,rfl⟩,HX.q1,HX.p0⟩
 case round=>
  obtain ⟨k,bb,rfl,rfl,hk,H⟩:=hrel
  have hb20:=HB20.out
  by_cases hlt:k<n
  · skip
    obtain ⟨c_k,hc_k⟩:∃ x,bs[k]?=some x:=⟨_,List.getElem?_eq_getElem (by rw [HN.p0];exact hlt)⟩
    have hin_k:=HIN.out k c_k hc_k
    rw [HN.q1] at hin_k
    obtain ⟨ck,rfl⟩:∃ ck:Nat,c_k=(ck:Int):=⟨c_k.toNat,Yo⟩
    have hm_k:ck<m:=Yo
    have hi_k:(ck:Int)<(m:Int):=Yo
    have hn_k:(k:Int)<(n:Int):=by have:=hlt;omega
    obtain ⟨xk,hxk⟩:∃ t,xs[ck]?=some t:=⟨_,List.getElem?_eq_getElem (by rw [HN.q1];exact hm_k)⟩
    have HEk:=Yh2 hxk (HZ.p0 xk (List.mem_of_getElem? hxk))
    have HCDk:=Lib.hid (show bs.getD k 0=(ck:Int) by rw [List.getD_eq_getElem?_getD,hc_k];rfl)
    obtain ⟨guk,ouk,_,e,hgu,cu0⟩:=HS.p1.at_ hc_k
    injection e with e1 e2 e3
    subst e1
    clear e2 e3
    obtain ⟨gyk,oyk,_,xyk,e,hgy,hvy,y0,y1,y2⟩:=HS.q2.at_ hxk
    injection e with e1 e2 e3
    subst e1
    clear e2 e3
    have HYk:Hid (∀ W,Yg w W->W.cell? ⟨guk,ouk+k,none⟩=some (.int .i64 (ck:Int))/\W.cell? ⟨gyk,oyk+ck*3,none⟩=some (.bool xyk.b)/\W.cell? ⟨gyk,oyk+ck*3+1,none⟩=some (.slice xyk.A xyk.l xyk.k)/\W.cell? ⟨gyk,oyk+ck*3+2,none⟩=some (.slice xyk.B xyk.m xyk.d)):=fun W b=>⟨(b.cell (p:=⟨guk,_,none⟩) hgu).trans cu0,(b.cell (p:=⟨gyk,_,none⟩) hgy).trans y0,(b.cell (p:=⟨gyk,_,none⟩) hgy).trans y1,(b.cell (p:=⟨gyk,_,none⟩) hgy).trans y2⟩
    have HVk:=Lib.hid hvy
    clear hc_k hxk hm_k hin_k hgu cu0 hgy hvy y0 y1 y2
    go_upto_region 5 with (fail)
    refine flow (fun W=>Yg wr W/\W.cell? ⟨w.heap.size,0,none⟩=some (.int .i64 l.n)/\W.cell? ⟨w.heap.size,1,none⟩=some (.slice aA an ac)/\W.cell? ⟨w.heap.size,2,none⟩=some (.slice bA bn bc)/\W.cell? ⟨w.heap.size,3,none⟩=some (.slice cA cn cc)/\W.cell? ⟨w.heap.size,4,none⟩=some (.slice dA dn dc)/\W.cell? ⟨w.heap.size,5,none⟩=some (.slice eA en ec)/\W.cell? ⟨w.heap.size,6,none⟩=some (.slice fA fn fc)/\W.cell? ⟨guk,ouk+k,none⟩=some (.int .i64 (ck:Int))/\W.cell? ⟨gyk,oyk+ck*3,none⟩=some (.bool xyk.b)/\W.cell? ⟨gyk,oyk+ck*3+1,none⟩=some (.slice xyk.A xyk.l xyk.k)/\W.cell? ⟨gyk,oyk+ck*3+2,none⟩=some (.slice xyk.B xyk.m xyk.d)) (fun vs W=>match vs with|[]=>True|[a]=>∃ gg,a=.pointer (some ⟨gg,0,none⟩)/\wr.heap.size<=gg/\Bl W 96 gg [.bool false,.slice none 0 0,.slice none 0 0]|[a,_]=>∃ gg p A l_ c B k_ d,a=.pointer (some ⟨gg,0,none⟩)/\wr.heap.size<=gg/\Bl W 96 gg [.bool p,.slice A l_ c,.slice B k_ d]/\Qe W 61 (.agg #[.bool p,.slice A l_ c,.slice B k_ d]) (sL l xs (ck:Int)).1/\Yg wr W|_=>True) (fun w w'=>Yg w w') 1 [⟨[],[(0,27),(1,28),(2,29),(3,30),(4,31),(5,32),(6,33),(7,34),(8,35),(9,36),(10,37),(11,38)],[],[(12,39,fun v W=>∃ p A l_ c B k_ d,v=.tuple #[.agg #[.bool p,.slice A l_ c,.slice B k_ d],.bool (sL l xs (ck:Int)).2]/\Qe W 61 (.agg #[.bool p,.slice A l_ c,.slice B k_ d]) (sL l xs (ck:Int)).1)]⟩] [⟨[(12,39)],[],[(13,26),(14,40),(15,41),(18,14)],[]⟩] [⟨16,some 13,[],[],[]⟩,⟨17,none,[(12,39)],[],[(13,26),(14,40)]⟩] ⟨[(12,39)],[(0,27),(1,28),(2,29),(3,30),(4,31),(5,32),(6,33),(7,34),(8,35),(9,36),(10,37),(11,38)],[(13,26),(14,40),(15,41),(18,14)],[]⟩ ⟨below_nil,Bl.ld (H.q2.keep below_nil) 0 rfl,Bl.ld (H.q2.keep below_nil) 1 rfl,Bl.ld (H.q2.keep below_nil) 2 rfl,Bl.ld (H.q2.keep below_nil) 3 rfl,Bl.ld (H.q2.keep below_nil) 4 rfl,Bl.ld (H.q2.keep below_nil) 5 rfl,Bl.ld (H.q2.keep below_nil) 6 rfl,HYk.out _ (Yb H.p1 below_nil)⟩ (trivial) (fun _ _ h b=>⟨(Yb h.1 b),Bl.ld (H.q2.keep (Yb h.1 b)) 0 rfl,Bl.ld (H.q2.keep (Yb h.1 b)) 1 rfl,Bl.ld (H.q2.keep (Yb h.1 b)) 2 rfl,Bl.ld (H.q2.keep (Yb h.1 b)) 3 rfl,Bl.ld (H.q2.keep (Yb h.1 b)) 4 rfl,Bl.ld (H.q2.keep (Yb h.1 b)) 5 rfl,Bl.ld (H.q2.keep (Yb h.1 b)) 6 rfl,HYk.out _ (Yb H.p1 (Yb h.1 b))⟩) (fun vs _ _ h b=>match vs,h with|[],_=>trivial|[_],⟨g,e,h1,h2⟩=>⟨g,e,h1,h2.keep b⟩|[_,_],⟨g,p,A,l,c,B,k,d,e,h1,h2,h3,h4⟩=>⟨g,p,A,l,c,B,k,d,e,h1,h2.keep b,h3.keep b,Yb h4 b⟩|_::_::_::_,_=>trivial) ⟨fun _ _ _ ⟨p6,A6,l6,c6,B6,k6,d6,e,h⟩ b=>⟨p6,A6,l6,c6,B6,k6,d6,e,h.keep b⟩,fun _ _ _ ⟨p6,A6,l6,c6,B6,k6,d6,e,h⟩ b=>⟨p6,A6,l6,c6,B6,k6,d6,e,h.keep b⟩,trivial⟩ ⟨?_,trivial⟩ ⟨?_,trivial⟩ ⟨?_,?_,trivial⟩ ?_
    · rintro W hS
      refine gvN ?_;(repeat refine flA ?_);refine flN (flN ?_)
      refine flK (fun K hK=>?_) flL
      go_simp
      go_at_call 84;refine (lack_at (HS.p0.keep (Yb H.p1 hS.1)) HZ.p1 HZ.q2 HEk.p0 HEk.q1 (HVk.out.keep (Yb H.p1 hS.1))).mono ?_;rintro e W2 ⟨p,A,l_,c,B,k_,d,rfl,h,hb⟩
      go_wp2_with fail
      exact hK.out _ _ ⟨⟨_,_,_,_,_,_,_,rfl,h⟩,hb⟩
    · rintro v12 ⟨_,p6,A6,l6,c6,B6,k6,d6,rfl,-⟩
      refine gvN ?_;(repeat refine flA ?_);exact trivial
    · rintro W hS -
      have hS:=hS flY
      refine gvN ?_;refine flN (flN ?_)
      refine flC fun K hK=>?_
      have hal:=Ya W (.cells #[.bool false,.slice none 0 0,.slice none 0 0] 96)
      go_simp
      have hb2:=Yb hS.1 hal
      exact hK.out _ _ ⟨⟨_,rfl,hS.1.size,Bl.new W 96 [.bool false,.slice none 0 0,.slice none 0 0]⟩,fun _=>⟨⟨hb2,Bl.ld (H.q2.keep hb2) 0 rfl,Bl.ld (H.q2.keep hb2) 1 rfl,Bl.ld (H.q2.keep hb2) 2 rfl,Bl.ld (H.q2.keep hb2) 3 rfl,Bl.ld (H.q2.keep hb2) 4 rfl,Bl.ld (H.q2.keep hb2) 5 rfl,Bl.ld (H.q2.keep hb2) 6 rfl,HYk.out _ (Yb H.p1 hb2)⟩,hal⟩⟩
    · rintro W hS c16 ⟨gz,rfl,pz,Xz⟩ v12 ⟨p6,A6,l6,c6,B6,k6,d6,rfl,h6⟩
      have hS:=hS flY
      refine gvN ?_;(repeat refine flA ?_);refine flN ?_
      refine flC fun K hK=>?_
      have f0:=Bl.fr Xz 0
      have f1:=Bl.fr Xz 1
      have f2:=Bl.fr Xz 2
      have r0:=Bl.ld Xz 0 rfl
      have r1:=Bl.ld Xz 1 rfl
      have r2:=Bl.ld Xz 2 rfl
      go_simp
      clear f0 f1 f2 r0 r1 r2
      have b3:=below3 hS.1 pz (.bool p6) (.slice A6 l6 c6) (.slice B6 k6 d6)
      exact hK.out undef _ ⟨⟨_,_,_,_,_,_,_,_,rfl,pz,Xz.set3 rfl (.bool p6) (.slice A6 l6 c6) (.slice B6 k6 d6),Qd.put3 h6 Xz _ _ _,b3⟩,fun h=>flX h⟩
    rintro W hS c16 c17 ⟨gz,pz,Az,lz,cz,Bz,kz,dz,rfl,pgz,Xz,hz,hbz⟩ v12 ⟨_,p6,A6,l6,c6,B6,k6,d6,rfl,-⟩
    clear hS
    refine gvN ?_;(repeat refine flA ?_);refine flN ?_
    have H5:=Yh4 (Yb H.p1 hbz) (H.q2.keep hbz) Xz hz
    have HSS:=Lib.hid (show sLs l xs bs k=(sL l xs (ck:Int)).1 by rw [sLs,HCDk.out])
    have HBP:=Lib.hid H.p0
    clear H hbz Xz hz pgz
    have z0:=Bl.ld H5.p2 0 rfl
    have z1:=Bl.ld H5.p2 1 rfl
    have z2:=Bl.ld H5.p2 2 rfl
    go_wp2_with fail
    refine (sign_e H5.q3).mono ?_;rintro e w6 ⟨rfl,hb⟩
    have H6:=Yh4 (Yb H5.p0 hb) (H5.p1.keep hb) (H5.p2.keep hb) (H5.q3.keep hb)
    clear hb H5 z0 z1 z2
    by_cases hs0:sgnQ (sL l xs (ck:Int)).1=0
    · skip
      have hs1:(sgnQ (sL l xs (ck:Int)).1==0)=true:=by rw [hs0];rfl
      go_wp2_with fail
      case roundEnd=>exact ⟨⟨k+1,bb,by go_num,rfl,Yo,HBP.out.skip (by rw [HSS.out];exact hs0),H6.p0,H6.p1⟩,by simp [intOf];omega⟩
    have HS0:=Lib.hid (show sgnQ (sLs l xs bs k)≠0 by rw [HSS.out];exact hs0)
    have hs1:(sgnQ (sL l xs (ck:Int)).1==0)=false:=beq_eq_false_iff_ne.2 hs0
    clear hs0
    by_cases hbb:bb<0
    · skip
      obtain rfl:bb=-1:=by rcases HBP.out with ⟨h,-⟩ | ⟨j,h,-⟩<;>omega
      clear hbb
      go_wp2_with fail
      case roundEnd=>exact ⟨⟨k+1,(k:Int),by go_num,rfl,Yo,HBP.out.first HS0.out,H6.p0,H6.p1⟩,by simp [intOf];omega⟩
    obtain ⟨j,hjb,hjk,hlv⟩:∃ j:Nat,bb=(j:Int)/\j<k/\lvK l xs bs first k=some j:=by
     rcases HBP.out with ⟨h,-⟩ | ⟨j,h,h2,h3⟩
     · omega
     · exact ⟨j,h,h2,h3⟩
    subst hjb
    have HLV:=Lib.hid hlv
    clear hlv hbb
    have hnb:¬((j:Int)<0):=Yo
    obtain ⟨c_j,hc_j⟩:∃ x,bs[j]?=some x:=⟨_,List.getElem?_eq_getElem (by rw [HN.p0];exact Yo)⟩
    have hin_j:=HIN.out j c_j hc_j
    rw [HN.q1] at hin_j
    obtain ⟨cj,rfl⟩:∃ ck:Nat,c_j=(ck:Int):=⟨c_j.toNat,Yo⟩
    have hm_j:cj<m:=Yo
    have hi_j:(cj:Int)<(m:Int):=Yo
    have hn_j:(j:Int)<(n:Int):=by have:=Yo;omega
    obtain ⟨xj,hxj⟩:∃ t,xs[cj]?=some t:=⟨_,List.getElem?_eq_getElem (by rw [HN.q1];exact hm_j)⟩
    have HEj:=Yh2 hxj (HZ.p0 xj (List.mem_of_getElem? hxj))
    have HCDj:=Lib.hid (show bs.getD j 0=(cj:Int) by rw [List.getD_eq_getElem?_getD,hc_j];rfl)
    obtain ⟨guj,ouj,_,e,hgu,cu0⟩:=HS.p1.at_ hc_j
    injection e with e1 e2 e3
    injection e1 with e1
    injection e1 with e1 e4 e5
    subst e1;subst e4
    clear e2 e3 e5
    obtain ⟨gyj,oyj,_,xyj,e,hgy,hvy,y0,y1,y2⟩:=HS.q2.at_ hxj
    injection e with e1 e2 e3
    injection e1 with e1
    injection e1 with e1 e4 e5
    subst e1;subst e4
    clear e2 e3 e5
    have HYj:Hid (∀ W,Yg w W->W.cell? ⟨guk,ouk+j,none⟩=some (.int .i64 (cj:Int))/\W.cell? ⟨gyk,oyk+cj*3,none⟩=some (.bool xyj.b)/\W.cell? ⟨gyk,oyk+cj*3+1,none⟩=some (.slice xyj.A xyj.l xyj.k)/\W.cell? ⟨gyk,oyk+cj*3+2,none⟩=some (.slice xyj.B xyj.m xyj.d)):=fun W b=>⟨(b.cell (p:=⟨guk,_,none⟩) hgu).trans cu0,(b.cell (p:=⟨gyk,_,none⟩) hgy).trans y0,(b.cell (p:=⟨gyk,_,none⟩) hgy).trans y1,(b.cell (p:=⟨gyk,_,none⟩) hgy).trans y2⟩
    have HVj:=Lib.hid hvy
    clear hc_j hxj hm_j hin_j hgu cu0 hgy hvy y0 y1 y2
    go_upto_region 9 with (fail)
    refine flow (fun W=>Yg w6 W/\W.cell? ⟨w.heap.size,0,none⟩=some (.int .i64 l.n)/\W.cell? ⟨w.heap.size,1,none⟩=some (.slice aA an ac)/\W.cell? ⟨w.heap.size,2,none⟩=some (.slice bA bn bc)/\W.cell? ⟨w.heap.size,3,none⟩=some (.slice cA cn cc)/\W.cell? ⟨w.heap.size,4,none⟩=some (.slice dA dn dc)/\W.cell? ⟨w.heap.size,5,none⟩=some (.slice eA en ec)/\W.cell? ⟨w.heap.size,6,none⟩=some (.slice fA fn fc)/\W.cell? ⟨guk,ouk+j,none⟩=some (.int .i64 (cj:Int))/\W.cell? ⟨gyk,oyk+cj*3,none⟩=some (.bool xyj.b)/\W.cell? ⟨gyk,oyk+cj*3+1,none⟩=some (.slice xyj.A xyj.l xyj.k)/\W.cell? ⟨gyk,oyk+cj*3+2,none⟩=some (.slice xyj.B xyj.m xyj.d)) (fun vs W=>match vs with|[]=>True|[a]=>∃ gg,a=.pointer (some ⟨gg,0,none⟩)/\w6.heap.size<=gg/\Bl W 96 gg [.bool false,.slice none 0 0,.slice none 0 0]|[a,_]=>∃ gg p A l_ c B k_ d,a=.pointer (some ⟨gg,0,none⟩)/\w6.heap.size<=gg/\Bl W 96 gg [.bool p,.slice A l_ c,.slice B k_ d]/\Qe W 61 (.agg #[.bool p,.slice A l_ c,.slice B k_ d]) (sL l xs (cj:Int)).1/\Yg w6 W|_=>True) (fun w w'=>Yg w w') 1 [⟨[],[(0,49),(1,50),(2,51),(3,52),(4,53),(5,54),(6,55),(7,56),(8,57),(9,58),(10,59),(11,60)],[],[(12,61,fun v W=>∃ p A l_ c B k_ d,v=.tuple #[.agg #[.bool p,.slice A l_ c,.slice B k_ d],.bool (sL l xs (cj:Int)).2]/\Qe W 61 (.agg #[.bool p,.slice A l_ c,.slice B k_ d]) (sL l xs (cj:Int)).1)]⟩] [⟨[(12,61)],[],[(13,48),(14,62),(15,63),(18,16)],[]⟩] [⟨16,some 15,[],[],[]⟩,⟨17,none,[(12,61)],[],[(13,48),(14,62)]⟩] ⟨[(12,61)],[(0,49),(1,50),(2,51),(3,52),(4,53),(5,54),(6,55),(7,56),(8,57),(9,58),(10,59),(11,60)],[(13,48),(14,62),(15,63),(18,16)],[]⟩ ⟨below_nil,Bl.ld (H6.p1.keep below_nil) 0 rfl,Bl.ld (H6.p1.keep below_nil) 1 rfl,Bl.ld (H6.p1.keep below_nil) 2 rfl,Bl.ld (H6.p1.keep below_nil) 3 rfl,Bl.ld (H6.p1.keep below_nil) 4 rfl,Bl.ld (H6.p1.keep below_nil) 5 rfl,Bl.ld (H6.p1.keep below_nil) 6 rfl,HYj.out _ (Yb H6.p0 below_nil)⟩ (trivial) (fun _ _ h b=>⟨(Yb h.1 b),Bl.ld (H6.p1.keep (Yb h.1 b)) 0 rfl,Bl.ld (H6.p1.keep (Yb h.1 b)) 1 rfl,Bl.ld (H6.p1.keep (Yb h.1 b)) 2 rfl,Bl.ld (H6.p1.keep (Yb h.1 b)) 3 rfl,Bl.ld (H6.p1.keep (Yb h.1 b)) 4 rfl,Bl.ld (H6.p1.keep (Yb h.1 b)) 5 rfl,Bl.ld (H6.p1.keep (Yb h.1 b)) 6 rfl,HYj.out _ (Yb H6.p0 (Yb h.1 b))⟩) (fun vs _ _ h b=>match vs,h with|[],_=>trivial|[_],⟨g,e,h1,h2⟩=>⟨g,e,h1,h2.keep b⟩|[_,_],⟨g,p,A,l,c,B,k,d,e,h1,h2,h3,h4⟩=>⟨g,p,A,l,c,B,k,d,e,h1,h2.keep b,h3.keep b,Yb h4 b⟩|_::_::_::_,_=>trivial) ⟨fun _ _ _ ⟨p6,A6,l6,c6,B6,k6,d6,e,h⟩ b=>⟨p6,A6,l6,c6,B6,k6,d6,e,h.keep b⟩,fun _ _ _ ⟨p6,A6,l6,c6,B6,k6,d6,e,h⟩ b=>⟨p6,A6,l6,c6,B6,k6,d6,e,h.keep b⟩,trivial⟩ ⟨?_,trivial⟩ ⟨?_,trivial⟩ ⟨?_,?_,trivial⟩ ?_
    · rintro W hS
      refine gvN ?_;(repeat refine flA ?_);refine flN (flN ?_)
      refine flK (fun K hK=>?_) flL
      go_simp
      go_at_call 84;refine (lack_at (HS.p0.keep (Yb H6.p0 hS.1)) HZ.p1 HZ.q2 HEj.p0 HEj.q1 (HVj.out.keep (Yb H6.p0 hS.1))).mono ?_;rintro e W2 ⟨p,A,l_,c,B,k_,d,rfl,h,hb⟩
      go_wp2_with fail
      exact hK.out _ _ ⟨⟨_,_,_,_,_,_,_,rfl,h⟩,hb⟩
    · rintro v12 ⟨_,p6,A6,l6,c6,B6,k6,d6,rfl,-⟩
      refine gvN ?_;(repeat refine flA ?_);exact trivial
    · rintro W hS -
      have hS:=hS flY
      refine gvN ?_;refine flN (flN ?_)
      refine flC fun K hK=>?_
      have hal:=Ya W (.cells #[.bool false,.slice none 0 0,.slice none 0 0] 96)
      go_simp
      have hb2:=Yb hS.1 hal
      exact hK.out _ _ ⟨⟨_,rfl,hS.1.size,Bl.new W 96 [.bool false,.slice none 0 0,.slice none 0 0]⟩,fun _=>⟨⟨hb2,Bl.ld (H6.p1.keep hb2) 0 rfl,Bl.ld (H6.p1.keep hb2) 1 rfl,Bl.ld (H6.p1.keep hb2) 2 rfl,Bl.ld (H6.p1.keep hb2) 3 rfl,Bl.ld (H6.p1.keep hb2) 4 rfl,Bl.ld (H6.p1.keep hb2) 5 rfl,Bl.ld (H6.p1.keep hb2) 6 rfl,HYj.out _ (Yb H6.p0 hb2)⟩,hal⟩⟩
    · rintro W hS c16 ⟨gz,rfl,pz,Xz⟩ v12 ⟨p6,A6,l6,c6,B6,k6,d6,rfl,h6⟩
      have hS:=hS flY
      refine gvN ?_;(repeat refine flA ?_);refine flN ?_
      refine flC fun K hK=>?_
      have f0:=Bl.fr Xz 0
      have f1:=Bl.fr Xz 1
      have f2:=Bl.fr Xz 2
      have r0:=Bl.ld Xz 0 rfl
      have r1:=Bl.ld Xz 1 rfl
      have r2:=Bl.ld Xz 2 rfl
      go_simp
      clear f0 f1 f2 r0 r1 r2
      have b3:=below3 hS.1 pz (.bool p6) (.slice A6 l6 c6) (.slice B6 k6 d6)
      exact hK.out undef _ ⟨⟨_,_,_,_,_,_,_,_,rfl,pz,Xz.set3 rfl (.bool p6) (.slice A6 l6 c6) (.slice B6 k6 d6),Qd.put3 h6 Xz _ _ _,b3⟩,fun h=>flX h⟩
    rintro W hS c16 c17 ⟨g9,p9,A9,l9,c9,B9,k9,d9,rfl,pg9,X9,h9,hb9⟩ v12 ⟨_,p6,A6,l6,c6,B6,k6,d6,rfl,-⟩
    clear hS
    refine gvN ?_;(repeat refine flA ?_);refine flN ?_
    have H9:=Yh6 (Yb H6.p0 hb9) (H6.p1.keep hb9) (H6.p2.keep hb9) (H6.q3.keep hb9) X9 h9
    have HSJ:=Lib.hid (show sLs l xs bs j=(sL l xs (cj:Int)).1 by rw [sLs,HCDj.out])
    clear H6 hb9 X9 h9 pg9
    have z0:=Bl.ld H9.p2 0 rfl
    have z1:=Bl.ld H9.p2 1 rfl
    have z2:=Bl.ld H9.p2 2 rfl
    have y0:=Bl.ld H9.p4 0 rfl
    have y1:=Bl.ld H9.p4 1 rfl
    have y2:=Bl.ld H9.p4 2 rfl
    go_wp2_with fail
    refine (cmp_e H9.p3 H9.q5 Yd Yd Yd Yd).mono ?_;rintro e w10 ⟨rfl,hb⟩
    have HA:=Yh2 (Yb H9.p0 hb) (H9.p1.keep hb)
    clear hb H9 z0 z1 z2 y0 y1 y2
    obtain ⟨o,ho⟩:∃ o,cmpQ (sL l xs (ck:Int)).1 (sL l xs (cj:Int)).1=o:=⟨_,rfl⟩
    rw [ho]
    have HO:=Lib.hid ho
    clear ho
    have HCK:=Yh2 (show cLs bs j=(cj:Int) from HCDj.out) (show cLs bs k=(ck:Int) from HCDk.out)
    have HC2:Hid (∀ W,Yg w W->W.cell? ⟨guk,ouk+k,none⟩=some (.int .i64 (ck:Int))/\W.cell? ⟨guk,ouk+j,none⟩=some (.int .i64 (cj:Int))):=fun W b=>⟨(HYk.out W b).1,(HYj.out W b).1⟩
    cases first with
    | true=>
     by_cases hcj:(ck:Int)<(cj:Int)
     · skip
       go_upto_region 13 with (fail)
       refine flow (fun W=>Yg w10 W/\W.cell? ⟨guk,ouk+k,none⟩=some (.int .i64 (ck:Int))/\W.cell? ⟨guk,ouk+j,none⟩=some (.int .i64 (cj:Int))) (fun _ _=>True) (fun _ _=>False) 0 [⟨[],[(0,68),(1,69),(2,70),(3,71),(4,72),(5,73),(6,74),(7,75),(8,76),(9,77),(10,78),(11,79),(12,80),(13,81),(14,82),(15,83),(16,84)],[],[]⟩] [] [] ⟨[],[(0,68),(1,69),(2,70),(3,71),(4,72),(5,73),(6,74),(7,75),(8,76),(9,77),(10,78),(11,79),(12,80),(13,81),(14,82),(15,83),(16,84)],[],[]⟩ ⟨below_nil,HC2.out _ (Yb HA.p0 below_nil)⟩ (trivial) (fun _ _ h b=>⟨(Yb h.1 b),HC2.out _ (Yb HA.p0 (Yb h.1 b))⟩) (fun _ _ _ h _=>h) trivial ⟨?_,trivial⟩ trivial trivial ?_
       · rintro W hS
         refine gvN ?_;(repeat first|refine flA ?_|refine flB ?_);refine flN (flN ?_)
         exact flL
       rintro W hS -
       have hS:=hS flY
       refine gvN ?_;(repeat first|refine flA ?_|refine flB ?_);refine flN (flN ?_)
       go_wp2_with fail
       case roundEnd=>exact ⟨⟨k+1,(k:Int),by go_num,rfl,Yo,.inr ⟨k,rfl,Yo,leaveK_2 HS0.out HLV.out (by rw [HCK.p0,HCK.q1,HSS.out,HSJ.out,HO.out];simp [hcj]<;>omega)⟩,(Yb HA.p0 hS.1),(HA.q1.keep hS.1)⟩,by simp [intOf];omega⟩
     go_upto_region 13 with (fail)
     refine flow (fun W=>Yg w10 W/\W.cell? ⟨guk,ouk+k,none⟩=some (.int .i64 (ck:Int))/\W.cell? ⟨guk,ouk+j,none⟩=some (.int .i64 (cj:Int))) (fun _ _=>True) (fun _ _=>False) 0 [⟨[],[(0,68),(1,69),(2,70),(3,71),(4,72),(5,73),(6,74),(7,75),(8,76),(9,77),(10,78),(11,79),(12,80),(13,81),(14,82),(15,83),(16,84)],[],[]⟩] [] [] ⟨[],[(0,68),(1,69),(2,70),(3,71),(4,72),(5,73),(6,74),(7,75),(8,76),(9,77),(10,78),(11,79),(12,80),(13,81),(14,82),(15,83),(16,84)],[],[]⟩ ⟨below_nil,HC2.out _ (Yb HA.p0 below_nil)⟩ (trivial) (fun _ _ h b=>⟨(Yb h.1 b),HC2.out _ (Yb HA.p0 (Yb h.1 b))⟩) (fun _ _ _ h _=>h) trivial ⟨?_,trivial⟩ trivial trivial ?_
     · rintro W hS
       refine gvN ?_;(repeat first|refine flA ?_|refine flB ?_);refine flN (flN ?_)
       exact flL
     rintro W hS -
     have hS:=hS flY
     refine gvN ?_;(repeat first|refine flA ?_|refine flB ?_);refine flN (flN ?_)
     go_wp2_with fail
     case roundEnd=>exact ⟨⟨k+1,(j:Int),by go_num,rfl,Yo,.inr ⟨j,rfl,Yo,leaveK_3 HS0.out HLV.out (by rw [HCK.p0,HCK.q1,HSS.out,HSJ.out,HO.out];simp [hcj]<;>omega)⟩,(Yb HA.p0 hS.1),(HA.q1.keep hS.1)⟩,by simp [intOf];omega⟩
    | false=>
     rcases (show o=-1∨o=0∨o=1 from HO.out ▸ cmpQ_cases _ _) with rfl | rfl | rfl
     · skip
       go_upto_region 13 with (fail)
       refine flow (fun W=>Yg w10 W/\W.cell? ⟨guk,ouk+k,none⟩=some (.int .i64 (ck:Int))/\W.cell? ⟨guk,ouk+j,none⟩=some (.int .i64 (cj:Int))) (fun _ _=>True) (fun _ _=>False) 0 [⟨[],[(0,68),(1,69),(2,70),(3,71),(4,72),(5,73),(6,74),(7,75),(8,76),(9,77),(10,78),(11,79),(12,80),(13,81),(14,82),(15,83),(16,84)],[],[]⟩] [] [] ⟨[],[(0,68),(1,69),(2,70),(3,71),(4,72),(5,73),(6,74),(7,75),(8,76),(9,77),(10,78),(11,79),(12,80),(13,81),(14,82),(15,83),(16,84)],[],[]⟩ ⟨below_nil,HC2.out _ (Yb HA.p0 below_nil)⟩ (trivial) (fun _ _ h b=>⟨(Yb h.1 b),HC2.out _ (Yb HA.p0 (Yb h.1 b))⟩) (fun _ _ _ h _=>h) trivial ⟨?_,trivial⟩ trivial trivial ?_
       · rintro W hS
         refine gvN ?_;(repeat first|refine flA ?_|refine flB ?_);refine flN (flN ?_)
         exact flL
       rintro W hS -
       have hS:=hS flY
       refine gvN ?_;(repeat first|refine flA ?_|refine flB ?_);refine flN (flN ?_)
       go_wp2_with fail
       case roundEnd=>exact ⟨⟨k+1,(j:Int),by go_num,rfl,Yo,.inr ⟨j,rfl,Yo,leaveK_3 HS0.out HLV.out (by rw [HCK.p0,HCK.q1,HSS.out,HSJ.out,HO.out];simp<;>omega)⟩,(Yb HA.p0 hS.1),(HA.q1.keep hS.1)⟩,by simp [intOf];omega⟩
     · skip
       by_cases hcj:(ck:Int)<(cj:Int)
       · skip
         go_upto_region 13 with (fail)
         refine flow (fun W=>Yg w10 W/\W.cell? ⟨guk,ouk+k,none⟩=some (.int .i64 (ck:Int))/\W.cell? ⟨guk,ouk+j,none⟩=some (.int .i64 (cj:Int))) (fun _ _=>True) (fun _ _=>False) 0 [⟨[],[(0,68),(1,69),(2,70),(3,71),(4,72),(5,73),(6,74),(7,75),(8,76),(9,77),(10,78),(11,79),(12,80),(13,81),(14,82),(15,83),(16,84)],[],[]⟩] [] [] ⟨[],[(0,68),(1,69),(2,70),(3,71),(4,72),(5,73),(6,74),(7,75),(8,76),(9,77),(10,78),(11,79),(12,80),(13,81),(14,82),(15,83),(16,84)],[],[]⟩ ⟨below_nil,HC2.out _ (Yb HA.p0 below_nil)⟩ (trivial) (fun _ _ h b=>⟨(Yb h.1 b),HC2.out _ (Yb HA.p0 (Yb h.1 b))⟩) (fun _ _ _ h _=>h) trivial ⟨?_,trivial⟩ trivial trivial ?_
         · rintro W hS
           refine gvN ?_;(repeat first|refine flA ?_|refine flB ?_);refine flN (flN ?_)
           exact flL
         rintro W hS -
         have hS:=hS flY
         refine gvN ?_;(repeat first|refine flA ?_|refine flB ?_);refine flN (flN ?_)
         go_wp2_with fail
         case roundEnd=>exact ⟨⟨k+1,(k:Int),by go_num,rfl,Yo,.inr ⟨k,rfl,Yo,leaveK_2 HS0.out HLV.out (by rw [HCK.p0,HCK.q1,HSS.out,HSJ.out,HO.out];simp [hcj]<;>omega)⟩,(Yb HA.p0 hS.1),(HA.q1.keep hS.1)⟩,by simp [intOf];omega⟩
       go_upto_region 13 with (fail)
       refine flow (fun W=>Yg w10 W/\W.cell? ⟨guk,ouk+k,none⟩=some (.int .i64 (ck:Int))/\W.cell? ⟨guk,ouk+j,none⟩=some (.int .i64 (cj:Int))) (fun _ _=>True) (fun _ _=>False) 0 [⟨[],[(0,68),(1,69),(2,70),(3,71),(4,72),(5,73),(6,74),(7,75),(8,76),(9,77),(10,78),(11,79),(12,80),(13,81),(14,82),(15,83),(16,84)],[],[]⟩] [] [] ⟨[],[(0,68),(1,69),(2,70),(3,71),(4,72),(5,73),(6,74),(7,75),(8,76),(9,77),(10,78),(11,79),(12,80),(13,81),(14,82),(15,83),(16,84)],[],[]⟩ ⟨below_nil,HC2.out _ (Yb HA.p0 below_nil)⟩ (trivial) (fun _ _ h b=>⟨(Yb h.1 b),HC2.out _ (Yb HA.p0 (Yb h.1 b))⟩) (fun _ _ _ h _=>h) trivial ⟨?_,trivial⟩ trivial trivial ?_
       · rintro W hS
         refine gvN ?_;(repeat first|refine flA ?_|refine flB ?_);refine flN (flN ?_)
         exact flL
       rintro W hS -
       have hS:=hS flY
       refine gvN ?_;(repeat first|refine flA ?_|refine flB ?_);refine flN (flN ?_)
       go_wp2_with fail
       case roundEnd=>exact ⟨⟨k+1,(j:Int),by go_num,rfl,Yo,.inr ⟨j,rfl,Yo,leaveK_3 HS0.out HLV.out (by rw [HCK.p0,HCK.q1,HSS.out,HSJ.out,HO.out];simp [hcj]<;>omega)⟩,(Yb HA.p0 hS.1),(HA.q1.keep hS.1)⟩,by simp [intOf];omega⟩
     go_upto_region 13 with (fail)
     refine flow (fun W=>Yg w10 W/\W.cell? ⟨guk,ouk+k,none⟩=some (.int .i64 (ck:Int))/\W.cell? ⟨guk,ouk+j,none⟩=some (.int .i64 (cj:Int))) (fun _ _=>True) (fun _ _=>False) 0 [⟨[],[(0,68),(1,69),(2,70),(3,71),(4,72),(5,73),(6,74),(7,75),(8,76),(9,77),(10,78),(11,79),(12,80),(13,81),(14,82),(15,83),(16,84)],[],[]⟩] [] [] ⟨[],[(0,68),(1,69),(2,70),(3,71),(4,72),(5,73),(6,74),(7,75),(8,76),(9,77),(10,78),(11,79),(12,80),(13,81),(14,82),(15,83),(16,84)],[],[]⟩ ⟨below_nil,HC2.out _ (Yb HA.p0 below_nil)⟩ (trivial) (fun _ _ h b=>⟨(Yb h.1 b),HC2.out _ (Yb HA.p0 (Yb h.1 b))⟩) (fun _ _ _ h _=>h) trivial ⟨?_,trivial⟩ trivial trivial ?_
     · rintro W hS
       refine gvN ?_;(repeat first|refine flA ?_|refine flB ?_);refine flN (flN ?_)
       exact flL
     rintro W hS -
     have hS:=hS flY
     refine gvN ?_;(repeat first|refine flA ?_|refine flB ?_);refine flN (flN ?_)
     go_wp2_with fail
     case roundEnd=>exact ⟨⟨k+1,(k:Int),by go_num,rfl,Yo,.inr ⟨k,rfl,Yo,leaveK_2 HS0.out HLV.out (by rw [HCK.p0,HCK.q1,HSS.out,HSJ.out,HO.out];simp<;>omega)⟩,(Yb HA.p0 hS.1),(HA.q1.keep hS.1)⟩,by simp [intOf];omega⟩
  obtain rfl:k=n:=by omega
  by_cases hbb:bb<0
  · skip
    have HNO:Hid (lvK l xs bs first k=none):=by
     rcases H.p0 with ⟨-,h⟩ | ⟨j,h,-⟩
     · exact h
     · omega
    go_wp2_with fail
    go_ret3
    exact ⟨_,_,_,rfl,H.p1,by unfold leaveX;rw [HN.p0,HNO.out]⟩
  obtain ⟨j,hjb,hjk,hlv⟩:∃ j:Nat,bb=(j:Int)/\j<k/\lvK l xs bs first k=some j:=by
   rcases H.p0 with ⟨h,-⟩ | ⟨j,h,h2,h3⟩
   · omega
   · exact ⟨j,h,h2,h3⟩
  subst hjb
  have HLV:=Lib.hid hlv
  clear hlv hbb
  have hnb:¬((j:Int)<0):=Yo
  obtain ⟨c_k,hc_k⟩:∃ x,bs[j]?=some x:=⟨_,List.getElem?_eq_getElem (by rw [HN.p0];exact hjk)⟩
  have hin_k:=HIN.out j c_k hc_k
  rw [HN.q1] at hin_k
  obtain ⟨ck,rfl⟩:∃ ck:Nat,c_k=(ck:Int):=⟨c_k.toNat,Yo⟩
  have hm_k:ck<m:=Yo
  have hi_k:(ck:Int)<(m:Int):=Yo
  have hn_k:(j:Int)<(k:Int):=by have:=hjk;omega
  obtain ⟨xk,hxk⟩:∃ t,xs[ck]?=some t:=⟨_,List.getElem?_eq_getElem (by rw [HN.q1];exact hm_k)⟩
  have HEk:=Yh2 hxk (HZ.p0 xk (List.mem_of_getElem? hxk))
  have HCDk:=Lib.hid (show bs.getD j 0=(ck:Int) by rw [List.getD_eq_getElem?_getD,hc_k];rfl)
  obtain ⟨guk,ouk,_,e,hgu,cu0⟩:=HS.p1.at_ hc_k
  injection e with e1 e2 e3
  subst e1
  clear e2 e3
  obtain ⟨gyk,oyk,_,xyk,e,hgy,hvy,y0,y1,y2⟩:=HS.q2.at_ hxk
  injection e with e1 e2 e3
  subst e1
  clear e2 e3
  have HYk:Hid (∀ W,Yg w W->W.cell? ⟨guk,ouk+j,none⟩=some (.int .i64 (ck:Int))/\W.cell? ⟨gyk,oyk+ck*3,none⟩=some (.bool xyk.b)/\W.cell? ⟨gyk,oyk+ck*3+1,none⟩=some (.slice xyk.A xyk.l xyk.k)/\W.cell? ⟨gyk,oyk+ck*3+2,none⟩=some (.slice xyk.B xyk.m xyk.d)):=fun W b=>⟨(b.cell (p:=⟨guk,_,none⟩) hgu).trans cu0,(b.cell (p:=⟨gyk,_,none⟩) hgy).trans y0,(b.cell (p:=⟨gyk,_,none⟩) hgy).trans y1,(b.cell (p:=⟨gyk,_,none⟩) hgy).trans y2⟩
  have HVk:=Lib.hid hvy
  clear hc_k hxk hm_k hin_k hgu cu0 hgy hvy y0 y1 y2
  go_upto_region 17 with (fail)
  refine flow (fun W=>Yg wr W/\W.cell? ⟨w.heap.size,0,none⟩=some (.int .i64 l.n)/\W.cell? ⟨w.heap.size,1,none⟩=some (.slice aA an ac)/\W.cell? ⟨w.heap.size,2,none⟩=some (.slice bA bn bc)/\W.cell? ⟨w.heap.size,3,none⟩=some (.slice cA cn cc)/\W.cell? ⟨w.heap.size,4,none⟩=some (.slice dA dn dc)/\W.cell? ⟨w.heap.size,5,none⟩=some (.slice eA en ec)/\W.cell? ⟨w.heap.size,6,none⟩=some (.slice fA fn fc)/\W.cell? ⟨guk,ouk+j,none⟩=some (.int .i64 (ck:Int))/\W.cell? ⟨gyk,oyk+ck*3,none⟩=some (.bool xyk.b)/\W.cell? ⟨gyk,oyk+ck*3+1,none⟩=some (.slice xyk.A xyk.l xyk.k)/\W.cell? ⟨gyk,oyk+ck*3+2,none⟩=some (.slice xyk.B xyk.m xyk.d)) (fun vs W=>match vs with|[]=>True|[a]=>∃ gg,a=.pointer (some ⟨gg,0,none⟩)/\wr.heap.size<=gg/\Bl W 96 gg [.bool false,.slice none 0 0,.slice none 0 0]|[a,_]=>∃ gg p A l_ c B k_ d,a=.pointer (some ⟨gg,0,none⟩)/\wr.heap.size<=gg/\Bl W 96 gg [.bool p,.slice A l_ c,.slice B k_ d]/\Qe W 61 (.agg #[.bool p,.slice A l_ c,.slice B k_ d]) (sL l xs (ck:Int)).1/\Yg wr W|_=>True) (fun w w'=>Yg w w') 1 [⟨[],[(0,89),(1,90),(2,91),(3,92),(4,93),(5,94),(6,95),(7,96),(8,97),(9,98),(10,99),(11,100)],[],[(12,101,fun v W=>∃ p A l_ c B k_ d,v=.tuple #[.agg #[.bool p,.slice A l_ c,.slice B k_ d],.bool (sL l xs (ck:Int)).2]/\Qe W 61 (.agg #[.bool p,.slice A l_ c,.slice B k_ d]) (sL l xs (ck:Int)).1)]⟩] [⟨[(12,101)],[],[(13,88),(14,102),(15,103),(18,19)],[]⟩] [⟨16,some 18,[],[],[]⟩,⟨17,none,[(12,101)],[],[(13,88),(14,102)]⟩] ⟨[(12,101)],[(0,89),(1,90),(2,91),(3,92),(4,93),(5,94),(6,95),(7,96),(8,97),(9,98),(10,99),(11,100)],[(13,88),(14,102),(15,103),(18,19)],[]⟩ ⟨below_nil,Bl.ld (H.q2.keep below_nil) 0 rfl,Bl.ld (H.q2.keep below_nil) 1 rfl,Bl.ld (H.q2.keep below_nil) 2 rfl,Bl.ld (H.q2.keep below_nil) 3 rfl,Bl.ld (H.q2.keep below_nil) 4 rfl,Bl.ld (H.q2.keep below_nil) 5 rfl,Bl.ld (H.q2.keep below_nil) 6 rfl,HYk.out _ (Yb H.p1 below_nil)⟩ (trivial) (fun _ _ h b=>⟨(Yb h.1 b),Bl.ld (H.q2.keep (Yb h.1 b)) 0 rfl,Bl.ld (H.q2.keep (Yb h.1 b)) 1 rfl,Bl.ld (H.q2.keep (Yb h.1 b)) 2 rfl,Bl.ld (H.q2.keep (Yb h.1 b)) 3 rfl,Bl.ld (H.q2.keep (Yb h.1 b)) 4 rfl,Bl.ld (H.q2.keep (Yb h.1 b)) 5 rfl,Bl.ld (H.q2.keep (Yb h.1 b)) 6 rfl,HYk.out _ (Yb H.p1 (Yb h.1 b))⟩) (fun vs _ _ h b=>match vs,h with|[],_=>trivial|[_],⟨g,e,h1,h2⟩=>⟨g,e,h1,h2.keep b⟩|[_,_],⟨g,p,A,l,c,B,k,d,e,h1,h2,h3,h4⟩=>⟨g,p,A,l,c,B,k,d,e,h1,h2.keep b,h3.keep b,Yb h4 b⟩|_::_::_::_,_=>trivial) ⟨fun _ _ _ ⟨p6,A6,l6,c6,B6,k6,d6,e,h⟩ b=>⟨p6,A6,l6,c6,B6,k6,d6,e,h.keep b⟩,fun _ _ _ ⟨p6,A6,l6,c6,B6,k6,d6,e,h⟩ b=>⟨p6,A6,l6,c6,B6,k6,d6,e,h.keep b⟩,trivial⟩ ⟨?_,trivial⟩ ⟨?_,trivial⟩ ⟨?_,?_,trivial⟩ ?_
  · rintro W hS
    refine gvN ?_;(repeat refine flA ?_);refine flN (flN ?_)
    refine flK (fun K hK=>?_) flL
    go_simp
    go_at_call 84;refine (lack_at (HS.p0.keep (Yb H.p1 hS.1)) HZ.p1 HZ.q2 HEk.p0 HEk.q1 (HVk.out.keep (Yb H.p1 hS.1))).mono ?_;rintro e W2 ⟨p,A,l_,c,B,k_,d,rfl,h,hb⟩
    go_wp2_with fail
    exact hK.out _ _ ⟨⟨_,_,_,_,_,_,_,rfl,h⟩,hb⟩
  · rintro v12 ⟨_,p6,A6,l6,c6,B6,k6,d6,rfl,-⟩
    refine gvN ?_;(repeat refine flA ?_);exact trivial
  · rintro W hS -
    have hS:=hS flY
    refine gvN ?_;refine flN (flN ?_)
    refine flC fun K hK=>?_
    have hal:=Ya W (.cells #[.bool false,.slice none 0 0,.slice none 0 0] 96)
    go_simp
    have hb2:=Yb hS.1 hal
    exact hK.out _ _ ⟨⟨_,rfl,hS.1.size,Bl.new W 96 [.bool false,.slice none 0 0,.slice none 0 0]⟩,fun _=>⟨⟨hb2,Bl.ld (H.q2.keep hb2) 0 rfl,Bl.ld (H.q2.keep hb2) 1 rfl,Bl.ld (H.q2.keep hb2) 2 rfl,Bl.ld (H.q2.keep hb2) 3 rfl,Bl.ld (H.q2.keep hb2) 4 rfl,Bl.ld (H.q2.keep hb2) 5 rfl,Bl.ld (H.q2.keep hb2) 6 rfl,HYk.out _ (Yb H.p1 hb2)⟩,hal⟩⟩
  · rintro W hS c16 ⟨gz,rfl,pz,Xz⟩ v12 ⟨p6,A6,l6,c6,B6,k6,d6,rfl,h6⟩
    have hS:=hS flY
    refine gvN ?_;(repeat refine flA ?_);refine flN ?_
    refine flC fun K hK=>?_
    have f0:=Bl.fr Xz 0
    have f1:=Bl.fr Xz 1
    have f2:=Bl.fr Xz 2
    have r0:=Bl.ld Xz 0 rfl
    have r1:=Bl.ld Xz 1 rfl
    have r2:=Bl.ld Xz 2 rfl
    go_simp
    clear f0 f1 f2 r0 r1 r2
    have b3:=below3 hS.1 pz (.bool p6) (.slice A6 l6 c6) (.slice B6 k6 d6)
    exact hK.out undef _ ⟨⟨_,_,_,_,_,_,_,_,rfl,pz,Xz.set3 rfl (.bool p6) (.slice A6 l6 c6) (.slice B6 k6 d6),Qd.put3 h6 Xz _ _ _,b3⟩,fun h=>flX h⟩
  rintro W hS c16 c17 ⟨gz,pz,Az,lz,cz,Bz,kz,dz,rfl,pgz,Xz,hz,hbz⟩ v12 ⟨_,p6,A6,l6,c6,B6,k6,d6,rfl,-⟩
  clear hS
  refine gvN ?_;(repeat refine flA ?_);refine flN ?_
  go_wp2_with fail
  go_ret3
  exact ⟨_,_,_,rfl,Yb H.p1 hbz,by unfold leaveX;rw [HN.p0,HLV.out];show ((j:Int),(sL l xs (bs.getD j 0)).2,true)=_;rw [HCDk.out]⟩
end I
end
end
section
section
open Go Go.RowKit Go.Proofs Pl
def fixedQ (bl bh:Bool) (lo hi:Rat):Bool:=bl && bh && decide (cmpQ lo hi=0)
def mayQ (s g:Int) (up fx:Bool):Bool:=
 let t:=if up=true then g else -g
 if s=1 then decide (t<0) && !fx else if s=2 then decide (0<t) && !fx else if s=4 then decide (t≠0) && !fx else false
def absQ (q:Rat):Rat:=if q<0 then -q else q
def orI (a b:Int):Int:=if a≠0 then a else b
theorem sgnQ_cases (q:Rat):sgnQ q=-1∨sgnQ q=0∨sgnQ q=1:=by
 unfold sgnQ signZ
 split
 · simp
 · split<;>simp
theorem sgn_lt0 (q:Rat):decide (sgnQ q<0)=decide (q<0):=by
 have h2:q<0↔q.num<0:=by rw [Rat.lt_iff];simp
 refine decide_eq_decide.2 ?_
 rw [h2]
 unfold sgnQ signZ
 split<;>(try split)<;>omega
theorem absQ_sz {L:Nat} {q:Rat} (h:Sz L q):Sz L (absQ q):=by
 unfold absQ
 split
 · exact sz_neg h
 · exact h
theorem absQ_nz {q:Rat} (h:q≠0):absQ q≠0:=by
 unfold absQ
 split
 · exact fun e=>h (by have:=congrArg (fun x=>-x) e;simpa using this)
 · exact h
theorem beq_dec (a b:Int):(a==b)=(true && true && decide (a=b)):=by
 rw [Bool.true_and,Bool.true_and]
 rfl
theorem fixed_v {w:World} {v:Value} {l:LPx} {k:Nat} {f g:Fx} {bl bh:Bool} (h:LPv w v l) (hbl:l.hasLo[k]?=some bl) (hbh:l.hasHi[k]?=some bh) (hf:l.lo[k]?=some f) (hg:l.hi[k]?=some g) (h6:f.xs.length<=6) (h7:f.ds.length<=6) (h8:g.xs.length<=6) (h9:g.ds.length<=6):
 Calls Tryz.prog 99 #[v,.int .i64 (k:Int)] w fun e w'=>e=.returned (.bool (fixedQ bl bh f.q g.q))/\Yg w w':=by
 obtain ⟨aA,an,ac,bA,bn,bc,cA,cn,cc,dA,dn,dc,eA,en,ec,fA,fn,fc,rfl,hP,hla,hlb,hlc,hld,hle,hlf,hma,hmb,hmc,hmd,hme,hmf⟩:=h.open
 have HS:=Lib.hid hP
 clear hP hma hmb hmc hmd hme hmf
 obtain ⟨gb,ob,qb,e,hgb,zb0⟩:=HS.p1.at_ hbl
 rw [hlb] at e
 injection e with e1 e2 e3
 subst e1
 clear e2 e3 qb
 have kb:k<bn:=by rw [<- hlb];exact (List.getElem?_eq_some_iff.1 hbl).1
 have ixb:(k:Int)<(bn:Int):=Yo
 obtain ⟨gc,oc,qc,e,hgc,zc0⟩:=HS.p2.at_ hbh
 rw [hlc] at e
 injection e with e1 e2 e3
 subst e1
 clear e2 e3 qc
 have kc:k<cn:=by rw [<- hlc];exact (List.getElem?_eq_some_iff.1 hbh).1
 have ixc:(k:Int)<(cn:Int):=Yo
 obtain ⟨gd,od,qd,xd,e,hgd,hvd,zd0,zd1,zd2⟩:=HS.p3.at_ hf
 rw [hld] at e
 injection e with e1 e2 e3
 subst e1
 clear e2 e3 qd
 have kd:k<dn:=by rw [<- hld];exact (List.getElem?_eq_some_iff.1 hf).1
 have ixd:(k:Int)<(dn:Int):=Yo
 obtain ⟨ge,oe,qe,xe,e,hge,hve,ze0,ze1,ze2⟩:=HS.p4.at_ hg
 rw [hle] at e
 injection e with e1 e2 e3
 subst e1
 clear e2 e3 qe
 have ke:k<en:=by rw [<- hle];exact (List.getElem?_eq_some_iff.1 hg).1
 have ixe:(k:Int)<(en:Int):=Yo
 have HC:Hid (∀ W,Yg w W->W.cell? ⟨gb,ob+k,none⟩=some (.bool bl)/\W.cell? ⟨gc,oc+k,none⟩=some (.bool bh)/\W.cell? ⟨gd,od+k*3,none⟩=some (.bool xd.b)/\W.cell? ⟨gd,od+k*3+1,none⟩=some (.slice xd.A xd.l xd.k)/\W.cell? ⟨gd,od+k*3+2,none⟩=some (.slice xd.B xd.m xd.d)/\W.cell? ⟨ge,oe+k*3,none⟩=some (.bool xe.b)/\W.cell? ⟨ge,oe+k*3+1,none⟩=some (.slice xe.A xe.l xe.k)/\W.cell? ⟨ge,oe+k*3+2,none⟩=some (.slice xe.B xe.m xe.d)):=fun W b=>⟨(b.cell (p:=⟨gb,_,none⟩) hgb).trans zb0,(b.cell (p:=⟨gc,_,none⟩) hgc).trans zc0,(b.cell (p:=⟨gd,_,none⟩) hgd).trans zd0,(b.cell (p:=⟨gd,_,none⟩) hgd).trans zd1,(b.cell (p:=⟨gd,_,none⟩) hgd).trans zd2,(b.cell (p:=⟨ge,_,none⟩) hge).trans ze0,(b.cell (p:=⟨ge,_,none⟩) hge).trans ze1,(b.cell (p:=⟨ge,_,none⟩) hge).trans ze2⟩
 clear zb0 hgb
 clear zc0 hgc
 have HVd:=Lib.hid hvd
 clear zd0 zd1 zd2 hvd hgd
 have HVe:=Lib.hid hve
 clear ze0 ze1 ze2 hve hge
 have HV:=Yh2 (HVd.out.qv h6 h7) (HVe.out.qv h8 h9)
 clear HVd HVe hf hg hbl hbh h hla hlb hlc hld hle hlf h6 h7 h8 h9
 change Calls Tryz.prog 99 #[.agg #[.int .i64 l.n,.slice aA an ac,.slice (some ⟨gb,ob,none⟩) bn bc,.slice (some ⟨gc,oc,none⟩) cn cc,.slice (some ⟨gd,od,none⟩) dn dc,.slice (some ⟨ge,oe,none⟩) en ec,.slice fA fn fc],.int .i64 (k:Int)] w _
 go_enter Tryz.func99,Tryz.ntmps99
 go_upto_region 1 with (fail)
 obtain ⟨hX,hB⟩:=box1 w 26 [.int .i64 l.n,.slice aA an ac,.slice (some ⟨gb,ob,none⟩) bn bc,.slice (some ⟨gc,oc,none⟩) cn cc,.slice (some ⟨gd,od,none⟩) dn dc,.slice (some ⟨ge,oe,none⟩) en ec,.slice fA fn fc]
 have HX:=Yh2 hX hB
 clear hX hB
 generalize w.alloc _=W0 at HX ⊢
 cases bl with
 | true=>
  cases bh with
  | true=>
   refine flow (fun W=>Yg W0 W/\W.cell? ⟨w.heap.size,2,none⟩=some (.slice (some ⟨gb,ob,none⟩) bn bc)/\W.cell? ⟨w.heap.size,3,none⟩=some (.slice (some ⟨gc,oc,none⟩) cn cc)/\W.cell? ⟨w.heap.size,4,none⟩=some (.slice (some ⟨gd,od,none⟩) dn dc)/\W.cell? ⟨w.heap.size,5,none⟩=some (.slice (some ⟨ge,oe,none⟩) en ec)/\W.cell? ⟨gb,ob+k,none⟩=some (.bool true)/\W.cell? ⟨gc,oc+k,none⟩=some (.bool true)/\W.cell? ⟨gd,od+k*3,none⟩=some (.bool xd.b)/\W.cell? ⟨gd,od+k*3+1,none⟩=some (.slice xd.A xd.l xd.k)/\W.cell? ⟨gd,od+k*3+2,none⟩=some (.slice xd.B xd.m xd.d)/\W.cell? ⟨ge,oe+k*3,none⟩=some (.bool xe.b)/\W.cell? ⟨ge,oe+k*3+1,none⟩=some (.slice xe.A xe.l xe.k)/\W.cell? ⟨ge,oe+k*3+2,none⟩=some (.slice xe.B xe.m xe.d)) (fun _ _=>True) (fun _ _=>False) 0 [⟨[],[(0,5),(1,6),(2,7),(3,8),(4,9),(5,10),(6,11),(7,12),(8,13),(9,14),(10,15),(11,16),(12,17),(13,18),(14,19),(15,20),(16,21),(17,22),(18,23),(19,24),(20,25),(21,26),(22,27)],[],[(23,28,fun v W=>v=.int .i64 (cmpQ f.q g.q))]⟩,⟨[(23,28)],[(0,5),(1,6),(2,7),(3,8),(4,9),(5,10),(6,11),(7,12),(8,13),(9,14),(10,15),(11,16),(12,17),(24,29),(25,30),(26,4)],[],[]⟩] [] [] ⟨[(23,28)],[(0,5),(1,6),(2,7),(3,8),(4,9),(5,10),(6,11),(7,12),(8,13),(9,14),(10,15),(11,16),(12,17),(13,18),(14,19),(15,20),(16,21),(17,22),(18,23),(19,24),(20,25),(21,26),(22,27),(24,29),(25,30),(26,4)],[],[]⟩ ⟨below_nil,Bl.ld (HX.p0.keep below_nil) 2 rfl,Bl.ld (HX.p0.keep below_nil) 3 rfl,Bl.ld (HX.p0.keep below_nil) 4 rfl,Bl.ld (HX.p0.keep below_nil) 5 rfl,HC.out _ (Yb HX.q1 below_nil)⟩ (trivial) (fun _ _ h b=>⟨(Yb h.1 b),Bl.ld (HX.p0.keep (Yb h.1 b)) 2 rfl,Bl.ld (HX.p0.keep (Yb h.1 b)) 3 rfl,Bl.ld (HX.p0.keep (Yb h.1 b)) 4 rfl,Bl.ld (HX.p0.keep (Yb h.1 b)) 5 rfl,HC.out _ (Yb HX.q1 (Yb h.1 b))⟩) (fun _ _ _ h _=>h) ⟨fun _ _ _ h _=>h,fun _ _ _ _ h=>h.elim,trivial⟩ ⟨?_,?_,trivial⟩ trivial trivial ?_
   · rintro W hS
     refine gvN ?_;(repeat first|refine flA ?_|refine flB ?_);refine flN (flN ?_)
     refine flK (fun K hK=>?_) flL
     go_simp
     go_at_call 89;refine (cmp_v (HV.p0.keep (Yb HX.q1 hS.1)) (HV.q1.keep (Yb HX.q1 hS.1)) Yd Yd Yd Yd).mono ?_;rintro e W2 ⟨rfl,hb⟩
     go_wp2_with fail
     exact hK.out _ _ ⟨rfl,hb⟩
   · rintro W hS v23 rfl
     refine gvN ?_;(repeat first|refine flA ?_|refine flB ?_);refine flN (flN ?_)
     exact flL
   rintro W hS - v23 rfl
   have hS:=hS flY
   refine gvN ?_;(repeat first|refine flA ?_|refine flB ?_);refine flN (flN ?_)
   go_wp2_with fail
   go_ret
   exact ⟨congrArg (fun b=>Ending.returned (.bool b)) (beq_dec _ _),Yb HX.q1 hS.1⟩
  | false=>
   refine flow (fun W=>Yg W0 W/\W.cell? ⟨w.heap.size,2,none⟩=some (.slice (some ⟨gb,ob,none⟩) bn bc)/\W.cell? ⟨w.heap.size,3,none⟩=some (.slice (some ⟨gc,oc,none⟩) cn cc)/\W.cell? ⟨w.heap.size,4,none⟩=some (.slice (some ⟨gd,od,none⟩) dn dc)/\W.cell? ⟨w.heap.size,5,none⟩=some (.slice (some ⟨ge,oe,none⟩) en ec)/\W.cell? ⟨gb,ob+k,none⟩=some (.bool true)/\W.cell? ⟨gc,oc+k,none⟩=some (.bool false)/\W.cell? ⟨gd,od+k*3,none⟩=some (.bool xd.b)/\W.cell? ⟨gd,od+k*3+1,none⟩=some (.slice xd.A xd.l xd.k)/\W.cell? ⟨gd,od+k*3+2,none⟩=some (.slice xd.B xd.m xd.d)/\W.cell? ⟨ge,oe+k*3,none⟩=some (.bool xe.b)/\W.cell? ⟨ge,oe+k*3+1,none⟩=some (.slice xe.A xe.l xe.k)/\W.cell? ⟨ge,oe+k*3+2,none⟩=some (.slice xe.B xe.m xe.d)) (fun _ _=>True) (fun _ _=>False) 0 [⟨[],[(0,5),(1,6),(2,7),(3,8),(4,9),(5,10),(6,11),(7,12),(8,13),(9,14),(10,15),(11,16),(12,17),(13,18),(14,19),(15,20),(16,21),(17,22),(18,23),(19,24),(20,25),(21,26),(22,27)],[],[(23,28,fun v W=>v=undef)]⟩,⟨[(23,28)],[(0,5),(1,6),(2,7),(3,8),(4,9),(5,10),(6,11),(7,12),(8,13),(9,14),(10,15),(11,16),(12,17),(24,29),(25,30),(26,4)],[],[]⟩] [] [] ⟨[(23,28)],[(0,5),(1,6),(2,7),(3,8),(4,9),(5,10),(6,11),(7,12),(8,13),(9,14),(10,15),(11,16),(12,17),(13,18),(14,19),(15,20),(16,21),(17,22),(18,23),(19,24),(20,25),(21,26),(22,27),(24,29),(25,30),(26,4)],[],[]⟩ ⟨below_nil,Bl.ld (HX.p0.keep below_nil) 2 rfl,Bl.ld (HX.p0.keep below_nil) 3 rfl,Bl.ld (HX.p0.keep below_nil) 4 rfl,Bl.ld (HX.p0.keep below_nil) 5 rfl,HC.out _ (Yb HX.q1 below_nil)⟩ (trivial) (fun _ _ h b=>⟨(Yb h.1 b),Bl.ld (HX.p0.keep (Yb h.1 b)) 2 rfl,Bl.ld (HX.p0.keep (Yb h.1 b)) 3 rfl,Bl.ld (HX.p0.keep (Yb h.1 b)) 4 rfl,Bl.ld (HX.p0.keep (Yb h.1 b)) 5 rfl,HC.out _ (Yb HX.q1 (Yb h.1 b))⟩) (fun _ _ _ h _=>h) ⟨fun _ _ _ h _=>h,fun _ _ _ _ h=>h.elim,trivial⟩ ⟨?_,?_,trivial⟩ trivial trivial ?_
   · rintro W hS
     refine gvN ?_;(repeat first|refine flA ?_|refine flB ?_);refine flN (flN ?_)
     refine flK (fun K hK=>?_) flL
     go_simp
     exact hK.out _ _ ⟨rfl,below_nil⟩
   · rintro W hS v23 rfl
     refine gvN ?_;(repeat first|refine flA ?_|refine flB ?_);refine flN (flN ?_)
     exact flL
   rintro W hS - v23 rfl
   have hS:=hS flY
   refine gvN ?_;(repeat first|refine flA ?_|refine flB ?_);refine flN (flN ?_)
   go_wp2_with fail
   go_ret
   exact ⟨rfl,Yb HX.q1 hS.1⟩
 | false=>
  refine flow (fun W=>Yg W0 W/\W.cell? ⟨w.heap.size,2,none⟩=some (.slice (some ⟨gb,ob,none⟩) bn bc)/\W.cell? ⟨w.heap.size,3,none⟩=some (.slice (some ⟨gc,oc,none⟩) cn cc)/\W.cell? ⟨w.heap.size,4,none⟩=some (.slice (some ⟨gd,od,none⟩) dn dc)/\W.cell? ⟨w.heap.size,5,none⟩=some (.slice (some ⟨ge,oe,none⟩) en ec)/\W.cell? ⟨gb,ob+k,none⟩=some (.bool false)/\W.cell? ⟨gc,oc+k,none⟩=some (.bool bh)/\W.cell? ⟨gd,od+k*3,none⟩=some (.bool xd.b)/\W.cell? ⟨gd,od+k*3+1,none⟩=some (.slice xd.A xd.l xd.k)/\W.cell? ⟨gd,od+k*3+2,none⟩=some (.slice xd.B xd.m xd.d)/\W.cell? ⟨ge,oe+k*3,none⟩=some (.bool xe.b)/\W.cell? ⟨ge,oe+k*3+1,none⟩=some (.slice xe.A xe.l xe.k)/\W.cell? ⟨ge,oe+k*3+2,none⟩=some (.slice xe.B xe.m xe.d)) (fun _ _=>True) (fun _ _=>False) 0 [⟨[],[(0,5),(1,6),(2,7),(3,8),(4,9),(5,10),(6,11),(7,12),(8,13),(9,14),(10,15),(11,16),(12,17),(13,18),(14,19),(15,20),(16,21),(17,22),(18,23),(19,24),(20,25),(21,26),(22,27)],[],[(23,28,fun v W=>v=undef)]⟩,⟨[(23,28)],[(0,5),(1,6),(2,7),(3,8),(4,9),(5,10),(6,11),(7,12),(8,13),(9,14),(10,15),(11,16),(12,17),(24,29),(25,30),(26,4)],[],[]⟩] [] [] ⟨[(23,28)],[(0,5),(1,6),(2,7),(3,8),(4,9),(5,10),(6,11),(7,12),(8,13),(9,14),(10,15),(11,16),(12,17),(13,18),(14,19),(15,20),(16,21),(17,22),(18,23),(19,24),(20,25),(21,26),(22,27),(24,29),(25,30),(26,4)],[],[]⟩ ⟨below_nil,Bl.ld (HX.p0.keep below_nil) 2 rfl,Bl.ld (HX.p0.keep below_nil) 3 rfl,Bl.ld (HX.p0.keep below_nil) 4 rfl,Bl.ld (HX.p0.keep below_nil) 5 rfl,HC.out _ (Yb HX.q1 below_nil)⟩ (trivial) (fun _ _ h b=>⟨(Yb h.1 b),Bl.ld (HX.p0.keep (Yb h.1 b)) 2 rfl,Bl.ld (HX.p0.keep (Yb h.1 b)) 3 rfl,Bl.ld (HX.p0.keep (Yb h.1 b)) 4 rfl,Bl.ld (HX.p0.keep (Yb h.1 b)) 5 rfl,HC.out _ (Yb HX.q1 (Yb h.1 b))⟩) (fun _ _ _ h _=>h) ⟨fun _ _ _ h _=>h,fun _ _ _ _ h=>h.elim,trivial⟩ ⟨?_,?_,trivial⟩ trivial trivial ?_
  · rintro W hS
    refine gvN ?_;(repeat first|refine flA ?_|refine flB ?_);refine flN (flN ?_)
    refine flK (fun K hK=>?_) flL
    go_simp
    exact hK.out _ _ ⟨rfl,below_nil⟩
  · rintro W hS v23 rfl
    refine gvN ?_;(repeat first|refine flA ?_|refine flB ?_);refine flN (flN ?_)
    exact flL
  rintro W hS - v23 rfl
  have hS:=hS flY
  refine gvN ?_;(repeat first|refine flA ?_|refine flB ?_);refine flN (flN ?_)
  go_wp2_with fail
  go_ret
  exact ⟨rfl,Yb HX.q1 hS.1⟩
theorem may_v {w:World} {v u:Value} {l:LPx} {k L:Nat} {f g:Fx} {bl bh up:Bool} {s:Int} {q:Rat} (h:LPv w v l) (hbl:l.hasLo[k]?=some bl) (hbh:l.hasHi[k]?=some bh) (hf:l.lo[k]?=some f) (hg:l.hi[k]?=some g) (hx:Qv w L u q) (hL:L<=137438953472) (h6:f.xs.length<=6) (h7:f.ds.length<=6) (h8:g.xs.length<=6) (h9:g.ds.length<=6):
 Calls Tryz.prog 92 #[v,.int .i64 (k:Int),.int .i64 s,u,.bool up] w fun e w'=>e=.returned (.bool (mayQ s (sgnQ q) up (fixedQ bl bh f.q g.q)))/\Yg w w':=by
 obtain ⟨fx,hfx⟩:∃ b,fixedQ bl bh f.q g.q=b:=⟨_,rfl⟩
 rw [hfx]
 have HFE:=Lib.hid hfx
 clear hfx
 have HE:=Yh9 h hbl hbh hf hg h6 h7 h8 h9
 have HU:=Yh2 hx hL
 obtain ⟨bx,Ax,lx,cx,Bx,kx,dx,rfl⟩:=hx.parts
 obtain ⟨aA,an,ac,bA,bn,bc,cA,cn,cc,dA,dn,dc,eA,en,ec,fA,fn,fc,rfl,hP,hla,hlb,hlc,hld,hle,hlf,hma,hmb,hmc,hmd,hme,hmf⟩:=h.open
 have HS:=Lib.hid HE.p0
 clear hP hla hlb hlc hld hle hlf hma hmb hmc hmd hme hmf hx hL hbl hbh hf hg h6 h7 h8 h9 h
 change Calls Tryz.prog 92 #[.agg #[.int .i64 l.n,.slice aA an ac,.slice bA bn bc,.slice cA cn cc,.slice dA dn dc,.slice eA en ec,.slice fA fn fc],.int .i64 (k:Int),.int .i64 s,.agg #[.bool bx,.slice Ax lx cx,.slice Bx kx dx],.bool up] w _
 go_enter Tryz.func92,Tryz.ntmps92
 go_upto_region 1 with (fail)
 obtain ⟨hX,hY,hB⟩:=box2 w 26 36 [.int .i64 l.n,.slice aA an ac,.slice bA bn bc,.slice cA cn cc,.slice dA dn dc,.slice eA en ec,.slice fA fn fc] [.bool bx,.slice Ax lx cx,.slice Bx kx dx]
 have HX:=Yh3 hX hY hB
 clear hX hY hB
 generalize (w.alloc _).alloc _=W0 at HX ⊢
 have y0:=Bl.ld HX.p1 0 rfl
 have y1:=Bl.ld HX.p1 1 rfl
 have y2:=Bl.ld HX.p1 2 rfl
 go_wp2_with fail
 refine (sign_v (HU.p0.keep HX.q2) HU.q1).mono ?_;rintro e w1 ⟨rfl,hb⟩
 have H1:=Yh2 (HX.p0.keep hb) (Yb HX.q2 hb)
 clear hb HX y0 y1 y2
 have HFX:Hid (∀ W,Yg w W->Calls Tryz.prog 99 #[.agg #[.int .i64 l.n,.slice aA an ac,.slice bA bn bc,.slice cA cn cc,.slice dA dn dc,.slice eA en ec,.slice fA fn fc],.int .i64 (k:Int)] W fun e w'=>e=.returned (.bool fx)/\Yg W w'):=fun W b=>by rw [<- HFE.out];exact fixed_v (HS.out.keep b) HE.p1 HE.p2 HE.p3 HE.p4 HE.p5 HE.p6 HE.p7 HE.q8
 clear HE HS HFE
 have l0:=Bl.ld H1.p0 0 rfl
 have l1:=Bl.ld H1.p0 1 rfl
 have l2:=Bl.ld H1.p0 2 rfl
 have l3:=Bl.ld H1.p0 3 rfl
 have l4:=Bl.ld H1.p0 4 rfl
 have l5:=Bl.ld H1.p0 5 rfl
 have l6:=Bl.ld H1.p0 6 rfl
 rcases sgnQ_cases q with hz | hz | hz<;>rw [hz]<;>cases up<;>(
  by_cases h1:s=1
  · subst h1
    go_wp2_with (refine (HFX.out _ H1.q1).mono ?_;rintro e w2 ⟨rfl,hb⟩)
    go_ret
    refine ⟨?_,by first | exact Yb H1.q1 hb | exact H1.q1⟩
    cases fx<;>exact congrArg (fun b:Bool=>Ending.returned (Value.bool b)) (by rw [hz];decide)
  · by_cases h2:s=2
    · subst h2
      go_wp2_with (refine (HFX.out _ H1.q1).mono ?_;rintro e w2 ⟨rfl,hb⟩)
      go_ret
      refine ⟨?_,by first | exact Yb H1.q1 hb | exact H1.q1⟩
      cases fx<;>exact congrArg (fun b:Bool=>Ending.returned (Value.bool b)) (by rw [hz];decide)
    · by_cases h4:s=4
      · subst h4
        go_wp2_with (refine (HFX.out _ H1.q1).mono ?_;rintro e w2 ⟨rfl,hb⟩)
        go_ret
        refine ⟨?_,by first | exact Yb H1.q1 hb | exact H1.q1⟩
        cases fx<;>exact congrArg (fun b:Bool=>Ending.returned (Value.bool b)) (by rw [hz];decide)
      · have e1:(s==1)=false:=beq_eq_false_iff_ne.2 h1
        have e2:(s==2)=false:=beq_eq_false_iff_ne.2 h2
        have e4:(s==4)=false:=beq_eq_false_iff_ne.2 h4
        go_wp2_with fail
        go_ret
        exact ⟨by unfold mayQ;dsimp only;rw [if_neg h1,if_neg h2,if_neg h4];rfl,H1.q1⟩)
theorem dist_v {w:World} {u:Value} {L:Nat} {q:Rat} (hx:Qv w L u q) (h0:0<L) (hL:L<=17179869184):
 Calls Tryz.prog 93 #[u] w fun e w'=>∃ v,e=.returned v/\Qv w' L v (absQ q)/\Yg w w':=by
 have HU:=Yh3 hx h0 hL
 obtain ⟨bx,Ax,lx,cx,Bx,kx,dx,rfl⟩:=hx.parts
 clear hx h0 hL
 go_enter Tryz.func93,Tryz.ntmps93
 go_upto_region 1 with (fail)
 obtain ⟨hX,hR,hB⟩:=box2 w 36 36 [.bool bx,.slice Ax lx cx,.slice Bx kx dx] [.bool false,.slice none 0 0,.slice none 0 0]
 have HX:=Yh3 hX hR hB
 clear hX hR hB
 generalize (w.alloc _).alloc _=W0 at HX ⊢
 have y0:=Bl.ld HX.p0 0 rfl
 have y1:=Bl.ld HX.p0 1 rfl
 have y2:=Bl.ld HX.p0 2 rfl
 go_wp2_with fail
 refine (sign_v (HU.p0.keep HX.q2) (by have:=HU.out;omega)).mono ?_;rintro e w1 ⟨rfl,hb⟩
 have H1:=Yh3 (HX.p0.keep hb) (HX.p1.keep hb) (Yb HX.q2 hb)
 clear hb HX y0 y1 y2
 have y0:=Bl.ld H1.p0 0 rfl
 have y1:=Bl.ld H1.p0 1 rfl
 have y2:=Bl.ld H1.p0 2 rfl
 by_cases hs:sgnQ q<0
 · skip
   have hq:absQ q=-q:=by rw [absQ,if_pos (of_decide_eq_true ((sgn_lt0 q).symm.trans (decide_eq_true hs)))]
   have HQ:=Lib.hid hq
   clear hq
   go_wp2_with fail
   refine (neg_v (HU.p0.keep H1.q2) HU.p1 HU.q2).mono ?_;rintro e w2 ⟨v,rfl,h⟩
   obtain ⟨p,A,l_,c,B,k_,d,rfl⟩:=h.qo.parts
   have X:=H1.p1.keep h.below
   have f0:=Bl.fr X 0
   have f1:=Bl.fr X 1
   have f2:=Bl.fr X 2
   have r0:=Bl.ld X 0 rfl
   have r1:=Bl.ld X 1 rfl
   have r2:=Bl.ld X 2 rfl
   go_wp2_with fail
   refine ret_bl (X.set3 rfl (.bool p) (.slice A l_ c) (.slice B k_ d)) (fun W2 hW=>by have d0:=hW 0 _ rfl;have d1:=hW 1 _ rfl;have d2:=hW 2 _ rfl;simp [results,Tryz.results93,go_sem,d0,d1,d2];try rfl) rfl ?_
   have b2:=below3 (Yb H1.q2 h.below) (by omega:w.heap.size<=w.heap.size+1) (.bool p) (.slice A l_ c) (.slice B k_ d)
   exact ⟨_,rfl,by rw [HQ.out];exact (((h.from H1.q2).keepT (X.keep3 Yd (.bool p) (.slice A l_ c) (.slice B k_ d)) b2).qv (sz_neg (HU.p0.sz HU.p1))),b2⟩
 have hq:absQ q=q:=by rw [absQ,if_neg (of_decide_eq_false ((sgn_lt0 q).symm.trans (decide_eq_false hs)))]
 have HQ:=Lib.hid hq
 clear hq
 have X:=H1.p1
 have f0:=Bl.fr X 0
 have f1:=Bl.fr X 1
 have f2:=Bl.fr X 2
 have r0:=Bl.ld X 0 rfl
 have r1:=Bl.ld X 1 rfl
 have r2:=Bl.ld X 2 rfl
 go_wp2_with fail
 refine ret_bl (X.set3 rfl (.bool bx) (.slice Ax lx cx) (.slice Bx kx dx)) (fun W2 hW=>by have d0:=hW 0 _ rfl;have d1:=hW 1 _ rfl;have d2:=hW 2 _ rfl;simp [results,Tryz.results93,go_sem,d0,d1,d2];try rfl) rfl ?_
 have b2:=below3 H1.q2 (by omega:w.heap.size<=w.heap.size+1) (.bool bx) (.slice Ax lx cx) (.slice Bx kx dx)
 exact ⟨_,rfl,by rw [HQ.out];exact HU.p0.keep b2,b2⟩
end
end
end Go.Proofs.YtaajajngnmaggaaGreat
