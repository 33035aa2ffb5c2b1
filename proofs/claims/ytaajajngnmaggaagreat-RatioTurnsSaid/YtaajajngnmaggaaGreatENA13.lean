import Derived.Test.YtaajajngnmaggaaGreatENA12
import Derived.Lib.SliceRun
set_option maxRecDepth 100000
set_option maxHeartbeats 8000000
set_option linter.unusedVariables false
set_option linter.unusedSimpArgs false
namespace Go.Proofs.YtaajajngnmaggaaGreat
section
section
open Go Go.RowKit Go.Proofs Pl
theorem term_info:(Tryz.prog.info? 63).map (fun i=>(i.zero,i.size,i.bytes))=some (some (.agg #[.int .i64 0,.bool false,.slice none 0 0,.slice none 0 0]),4,64):=by kernel_rfl
theorem term_word:(125:TypeId)≠63:=by decide
def To (w:World) (B0:Nat) (v:Value) (xs:List Tm):Prop:=w.ownsRow B0 63 4 v xs.length (flatT xs)
end
end
section
section
open Go Go.RowKit Go.Proofs Pl
theorem Qr.keepT {w0 w w':World} {v:Value} {q:Rat} (h:Qr w0 w v q) (k:KeepT 125 w w') (hb:Below w0.heap.size w0 w'):Qr w0 w' v q:=by
 obtain ⟨s,d,e,h1,h2⟩:=h
 exact ⟨s,d,e,⟨⟨h1.1.1,own_keepT h1.1.2 k⟩,hb⟩,⟨⟨h2.1.1,own_keepT h2.1.2 k⟩,hb⟩⟩
def Vr (w0 w:World) (v:Value) (xs:List Tm):Prop:=To w w0.heap.size v xs/\(∀ x∈xs,Qr w0 w x.num x.q)/\Yg w0 w
end
end
section
namespace I
section
open Go Go.RowKit Go.Proofs Pl
theorem get_e {w:World} {L:Nat} {v:Value} {l:Tms} {col:Int} (hv:Vt w L v l) (h0:0<L) (hL:L<=10000) (hn:l.length<=4096):
 Calls Tryz.prog 62 #[v,.int .i64 col] w fun e w'=>∃ u,e=.returned u/\Qe w' (7+l.length*(5*L+1)) u (getV l col)/\Yg w w':=by
 obtain ⟨xs,⟨A,cap,rfl,h1,h2,h3,h4,h5⟩,rfl⟩:=hv
 obtain ⟨n,hnn⟩:∃ n,xs.length=n:=⟨_,rfl⟩
 have hl:n<=4096:=by rw [<- hnn];simpa using hn
 have hlm:(xs.map Tm.t).length=n:=by rw [List.length_map];exact hnn
 have HL:=Yh5 h0 hL h5 h4 hnn
 rw [hlm,hnn]
 clear h0 hL h5 h4 h1 h2 h3 hn hnn hlm
 go_enter Tryz.func62,Tryz.ntmps62
 go_upto_region 1 with (fail)
 have S0:=Yh2 (B3.new 96 w (.bool false) (.slice none 0 0) (.slice none 0 0)) (Ya w (.cells #[.bool false,.slice none 0 0,.slice none 0 0] 96))
 generalize w.alloc _=W0 at S0 ⊢
 go_wp2_with fail
 refine (small_e sm_zero).mono ?_;rintro e w1 ⟨u,rfl,h,hb⟩
 obtain ⟨p,A0,l0,c0,B0,m0,d0,rfl⟩:=h.parts
 have S1:=Yh3 (S0.p0.keep hb) h (Yb S0.q1 hb)
 clear h hb S0
 go_upto_region 2 with (fail)
 have hal:=Ya w1 (.cells #[.bool p,.slice A0 l0 c0,.slice B0 m0 d0] 96)
 obtain ⟨g5,hg5⟩:∃ g,g=w1.heap.size:=⟨_,rfl⟩
 have hgw:w.heap.size<g5:=by rw [hg5];exact S1.p0.lt
 have S2:=Yh4 (S1.p0.keep hal) (B3.new 96 w1 (.bool p) (.slice A0 l0 c0) (.slice B0 m0 d0)) (S1.p1.keep hal) (Yb S1.q2 hal)
 clear S1 hal
 rw [<- hg5] at S2 ⊢
 generalize w1.alloc _=W1 at S2 ⊢
 clear hg5
 go_wp2_with fail
 go_loopw [6] (fun i wr=>∃ (k:Nat) (q:Rat) (p:Bool) (A1:Option Addr) (l1 c1:Nat) (B1:Option Addr) (m1 d1:Nat),i=.int .i64 (k:Int)/\k<=n/\
  Hid (B3 96 wr w.heap.size (.bool false) (.slice none 0 0) (.slice none 0 0)/\B3 96 wr g5 (.bool p) (.slice A1 l1 c1) (.slice B1 m1 d1)/\Qe wr (7+k*(5*L+1)) (.agg #[.bool p,.slice A1 l1 c1,.slice B1 m1 d1]) q/\Yg w wr/\q=getV ((xs.map Tm.t).take k) col)) (fun i _=>n - (intOf i).toNat)
 case atStart=>exact ⟨0,0,p,A0,l0,c0,B0,m0,d0,rfl,Yo,S2.p0,S2.p1,S2.p2.mono Yo,S2.q3,by simp [getV,sumAt]⟩
 case round=>
  obtain ⟨k,q,p1,A1,l1,c1,B1,m1,d1,rfl,hk,H⟩:=hrel
  by_cases hlt:k<n
  · have hkx:k<xs.length:=by rw [HL.q4];exact hlt
    obtain ⟨x,hx⟩:∃ x,xs[k]?=some x:=⟨_,List.getElem?_eq_getElem hkx⟩
    obtain ⟨g,off,rfl,hgl,-⟩:=(HL.p3).at_ hx
    obtain ⟨g',off',eA,-,y0,y1,y2,y3⟩:=(HL.p3.keep H.p3).at_ hx
    injection eA with eA
    injection eA with e1 e2
    subst e1;subst e2
    have HX:=Yh3 hx (List.mem_of_getElem? hx) hgl
    have hnext:=get_succ (l:=xs.map Tm.t) (i:=k) (t:=x.t) (by rw [List.getElem?_map,hx];rfl) col
    have dk:(k:Int)<(n:Int):=Yo
    have hone:7+k*(5*L+1)+5*L+1=7+(k+1)*(5*L+1):=by have:(k+1)*(5*L+1)=k*(5*L+1)+(5*L+1):=Nat.succ_mul _ _;omega
    have HO:=Lib.hid hone
    clear hx hgl hkx hone
    by_cases hc:x.c=col
    · by_cases h0c:0<=col
      · rw [if_pos ⟨hc,h0c⟩] at hnext
        have hN:=Lib.hid hnext
        have e1:(x.c==col)=true:=by rw [hc];exact beq_self_eq_true col
        have e2:decide ((0:Int)<=col)=true:=decide_eq_true h0c
        clear hnext hc h0c
        go_upto_region 6 with (fail)
        clear e1 e2
        refine wp_region_held_drew (S:=fun W=>W.cell? ⟨g,off+k*4+1,none⟩=some (.bool x.b)/\W.cell? ⟨g,off+k*4+2,none⟩=some (.slice x.A x.l x.k)/\W.cell? ⟨g,off+k*4+3,none⟩=some (.slice x.B x.m x.d)) (by kernel_rfl) ⟨y1,y2,y3⟩ (fun Hh=>?_)
        refine rgRun 5 [1,2,3,4,5] Hh fun K hK=>?_
        repeat refine rgA ?_
        refine hK _ _ ?_;clear hK K
        have T0:Hid (B3 96 wr.drew w.heap.size (.bool false) (.slice none 0 0) (.slice none 0 0)/\B3 96 wr.drew g5 (.bool p1) (.slice A1 l1 c1) (.slice B1 m1 d1)/\Qe wr.drew (7+k*(5*L+1)) (.agg #[.bool p1,.slice A1 l1 c1,.slice B1 m1 d1]) q/\Yg w wr.drew):=⟨H.p0.keep (below_dr _ 1),H.p1.keep (below_dr _ 1),H.p2.keep (below_dr _ 1),Yb H.p3 (below_dr _ 1)⟩
        have HQ:=Lib.hid H.q4
        generalize wr.drew=Wd at T0 Hh ⊢
        clear H y0 y1 y2 y3
        obtain ⟨s0,s1,s2,-,-,-⟩:=T0.p1.facts
        have hcell:Hid (∀ W,Yg w W->W.cell? ⟨g,off+k*4+1,none⟩=some (.bool x.b)/\W.cell? ⟨g,off+k*4+2,none⟩=some (.slice x.A x.l x.k)/\W.cell? ⟨g,off+k*4+3,none⟩=some (.slice x.B x.m x.d)):=fun W hW=>by
         obtain ⟨g',off',eA,-,-,y1,y2,y3⟩:=(HL.p3.keep hW).at_ HX.p0
         injection eA with eA
         injection eA with e1 e2
         subst e1;subst e2
         exact ⟨y1,y2,y3⟩
        refine rgReady [0,6] (rgOne (fun K hK=>?_) (rgOne (fun K hK=>?_) rgNil))
        ·
         go_simp
         refine hK.out _ _ (hcell.out _ T0.q3) (fun Hh=>?_);clear hK K s0 s1 s2;try simp only [Yp]
         refine rgO 6 fun K hK=>?_
         go_simp
         go_at_call 41;refine (of_e (a:=x.num) ((HL.p2 x HX.p1).keep T0.q3) HL.p0 (by have:=HL.p1;omega)).mono ?_;rintro e w4 ⟨v4,rfl,h,hb⟩
         obtain ⟨pv,Av,lv,cv,Bv,mv,dv,rfl⟩:=h.parts
         have T1:Hid (B3 96 w4 w.heap.size (.bool false) (.slice none 0 0) (.slice none 0 0)/\B3 96 w4 g5 (.bool p1) (.slice A1 l1 c1) (.slice B1 m1 d1)/\Qe w4 (7+k*(5*L+1)) (.agg #[.bool p1,.slice A1 l1 c1,.slice B1 m1 d1]) q/\Yg w w4/\Qe w4 (5*L) (.agg #[.bool pv,.slice Av lv cv,.slice Bv mv dv]) x.q):=⟨T0.p0.keep hb,T0.p1.keep hb,T0.p2.keep hb,Yb T0.q3 hb,h⟩
         clear h hb T0
         go_wp2_with fail
         refine rgK hK (hcell.out _ T1.p3) fun Hh=>?_;clear hK K
         refine rgO 7 fun K hK=>?_
         go_simp
         go_at_call 68;refine (add_e (L:=7+k*(5*L+1)) (M:=5*L) T1.p2 T1.q4 Yo (by have:=HL.p0;omega) (by have:=HL.p1;have:=Nat.mul_le_mul (show k<=4096 by omega) (show 5*L+1<=50001 by omega);omega) (by have:=HL.p1;omega)).mono ?_;rintro e w5 ⟨v5,rfl,h,hb⟩
         obtain ⟨p2,A2,l2,c2,B2,m2,d2,rfl⟩:=h.parts
         have T2:Hid (B3 96 w5 w.heap.size (.bool false) (.slice none 0 0) (.slice none 0 0)/\B3 96 w5 g5 (.bool p1) (.slice A1 l1 c1) (.slice B1 m1 d1)/\Qe w5 (7+(k+1)*(5*L+1)) (.agg #[.bool p2,.slice A2 l2 c2,.slice B2 m2 d2]) (q+x.q)/\Yg w w5):=⟨T1.p0.keep hb,T1.p1.keep hb,by rw [<- HO.out];exact h,Yb T1.p3 hb⟩
         clear h hb T1
         go_wp2_with fail
         refine rgK hK (hcell.out _ T2.q3) fun Hh=>?_;clear hK K
         obtain ⟨s0,s1,s2,f0,f1,f2⟩:=T2.p1.facts
         refine rgO 8 fun K hK=>?_
         go_simp
         have hb9:=Lib.hid (T2.p1.below T2.q3 (Nat.le_of_lt hgw) (.bool p2) (.slice A2 l2 c2) (.slice B2 m2 d2))
         refine rgK hK (hcell.out _ hb9.out) fun Hh=>?_;clear hK K
         refine Yw ?_
         clear Hh s0 s1 s2 f0 f1 f2
         go_wp2_with fail
         case roundEnd=>exact ⟨⟨k+1,q+x.q,p2,A2,l2,c2,B2,m2,d2,by go_num,Yo,T2.p0.other3 (Nat.ne_of_gt hgw) _ _ _,T2.p1.set _ _ _,Qd.put3 T2.p2 T2.p1 _ _ _,hb9.out,by rw [hN.out,<- HQ.out];rfl⟩,by simp [intOf];omega⟩
        ·
         clear s0 s1 s2
         go_simp
         go_at_call 41;refine (of_e (a:=x.num) ((HL.p2 x HX.p1).keep T0.q3) HL.p0 (by have:=HL.p1;omega)).mono ?_;rintro e w4 ⟨v4,rfl,h,hb⟩
         obtain ⟨pv,Av,lv,cv,Bv,mv,dv,rfl⟩:=h.parts
         have T1:Hid (B3 96 w4 w.heap.size (.bool false) (.slice none 0 0) (.slice none 0 0)/\B3 96 w4 g5 (.bool p1) (.slice A1 l1 c1) (.slice B1 m1 d1)/\Qe w4 (7+k*(5*L+1)) (.agg #[.bool p1,.slice A1 l1 c1,.slice B1 m1 d1]) q/\Yg w w4/\Qe w4 (5*L) (.agg #[.bool pv,.slice Av lv cv,.slice Bv mv dv]) x.q):=⟨T0.p0.keep hb,T0.p1.keep hb,T0.p2.keep hb,Yb T0.q3 hb,h⟩
         clear h hb T0
         go_wp2_with fail
         refine rgK hK (hcell.out _ T1.p3) fun Hh=>?_;clear hK K
         obtain ⟨s0,s1,s2,-,-,-⟩:=T1.p1.facts
         refine rgO 0 fun K hK=>?_
         go_simp
         refine hK.out _ _ (hcell.out _ T1.p3) (fun Hh=>?_);clear hK K s0 s1 s2;try simp only [Yp]
         refine rgO 7 fun K hK=>?_
         go_simp
         go_at_call 68;refine (add_e (L:=7+k*(5*L+1)) (M:=5*L) T1.p2 T1.q4 Yo (by have:=HL.p0;omega) (by have:=HL.p1;have:=Nat.mul_le_mul (show k<=4096 by omega) (show 5*L+1<=50001 by omega);omega) (by have:=HL.p1;omega)).mono ?_;rintro e w5 ⟨v5,rfl,h,hb⟩
         obtain ⟨p2,A2,l2,c2,B2,m2,d2,rfl⟩:=h.parts
         have T2:Hid (B3 96 w5 w.heap.size (.bool false) (.slice none 0 0) (.slice none 0 0)/\B3 96 w5 g5 (.bool p1) (.slice A1 l1 c1) (.slice B1 m1 d1)/\Qe w5 (7+(k+1)*(5*L+1)) (.agg #[.bool p2,.slice A2 l2 c2,.slice B2 m2 d2]) (q+x.q)/\Yg w w5):=⟨T1.p0.keep hb,T1.p1.keep hb,by rw [<- HO.out];exact h,Yb T1.p3 hb⟩
         clear h hb T1
         go_wp2_with fail
         refine rgK hK (hcell.out _ T2.q3) fun Hh=>?_;clear hK K
         obtain ⟨s0,s1,s2,f0,f1,f2⟩:=T2.p1.facts
         refine rgO 8 fun K hK=>?_
         go_simp
         have hb9:=Lib.hid (T2.p1.below T2.q3 (Nat.le_of_lt hgw) (.bool p2) (.slice A2 l2 c2) (.slice B2 m2 d2))
         refine rgK hK (hcell.out _ hb9.out) fun Hh=>?_;clear hK K
         refine Yw ?_
         clear Hh s0 s1 s2 f0 f1 f2
         go_wp2_with fail
         case roundEnd=>exact ⟨⟨k+1,q+x.q,p2,A2,l2,c2,B2,m2,d2,by go_num,Yo,T2.p0.other3 (Nat.ne_of_gt hgw) _ _ _,T2.p1.set _ _ _,Qd.put3 T2.p2 T2.p1 _ _ _,hb9.out,by rw [hN.out,<- HQ.out];rfl⟩,by simp [intOf];omega⟩
      · rw [if_neg (fun h=>h0c h.2)] at hnext
        have hN:=Lib.hid hnext
        have e1:(x.c==col)=true:=by rw [hc];exact beq_self_eq_true col
        have e2:decide ((0:Int)<=col)=false:=decide_eq_false h0c
        clear hnext hc h0c
        go_wp2_with fail
        case roundEnd=>exact ⟨⟨k+1,q,p1,A1,l1,c1,B1,m1,d1,by go_num,Yo,H.p0,H.p1,H.p2.mono (by have:(k+1)*(5*L+1)=k*(5*L+1)+(5*L+1):=Nat.succ_mul _ _;omega),H.p3,by rw [hN.out];exact H.q4⟩,by simp [intOf];omega⟩
    · rw [if_neg (fun h=>hc h.1)] at hnext
      have hN:=Lib.hid hnext
      have e1:(x.c==col)=false:=beq_eq_false_iff_ne.2 hc
      clear hnext hc
      go_wp2_with fail
      case roundEnd=>exact ⟨⟨k+1,q,p1,A1,l1,c1,B1,m1,d1,by go_num,Yo,H.p0,H.p1,H.p2.mono (by have:(k+1)*(5*L+1)=k*(5*L+1)+(5*L+1):=Nat.succ_mul _ _;omega),H.p3,by rw [hN.out];exact H.q4⟩,by simp [intOf];omega⟩
  · have e:q=getV (xs.map Tm.t) col:=by rw [H.q4,List.take_of_length_le (by rw [List.length_map,HL.q4];omega)]
    obtain rfl:k=n:=by omega
    have E:=Lib.hid e
    have d0:¬ (k:Int)<(k:Int):=Yo
    clear e
    obtain ⟨s0,s1,s2,-,-,-⟩:=H.p1.facts
    obtain ⟨r0,r1,r2,f0,f1,f2⟩:=H.p0.facts
    go_wp2_with fail
    refine ret_b3 H.p0 (fun W d0 d1 d2=>by simp [results,Tryz.results62,go_sem,d0,d1,d2];try rfl) rfl ?_
    rw [<- E.out]
    exact ⟨_,rfl,Qd.put3 H.p2 H.p0 _ _ _,H.p0.below H.p3 (Nat.le_refl _) _ _ _⟩
end
end I
end
section
namespace I
section
open Go Go.RowKit Go.Proofs Pl
theorem to_z {w:World} {L K:Nat} {a:Value} {x:Int} (ha:Zd w L a x) (hL:L<=1073741824) (hx:x.natAbs<WB ^ K) (hK:K<=1048576):
 Calls Tryz.prog 133 #[a] w fun e w'=>∃ v,e=.returned v/\Zs w w' v x:=by
 obtain ⟨s,rfl,hs⟩:=ha
 obtain ⟨p,hp⟩:∃ b,b=decide (x<0):=⟨_,rfl⟩
 rw [<- hp]
 have HL:=Yh4 hL hx hK hp
 have S0:=Yh2 hs (Below.refl w.heap.size w)
 clear hs hL hx hK hp
 go_enter Tryz.func133,Tryz.ntmps133
 go_upto_region 1 with (fail)
 have S1:=Yh4 (S0.p0.keep ((Yb (Ya w (.cells #[.bool p,s] 94)) (Ya _ (.cells #[.bool false,.slice none 0 0] 34))))) ((Bx.new 94 w (.bool p) s).alloc (.cells #[.bool false,.slice none 0 0] 34)) (Bx.new1 34 w (.cells #[.bool p,s] 94) (.bool false) (.slice none 0 0)) (Yb S0.q1 ((Yb (Ya w (.cells #[.bool p,s] 94)) (Ya _ (.cells #[.bool false,.slice none 0 0] 34)))))
 clear S0
 generalize (w.alloc _).alloc _=W0 at S1 ⊢
 go_upto_region 1 with (fail)
 have S2:=Yh4 (S1.p0.keep (below_dr _ 1)) (S1.p1.keep (below_dr _ 1)) (S1.p2.keep (below_dr _ 1)) (Yb S1.q3 (below_dr _ 1))
 refine wp_region_held_drew (S:=fun W=>W.cell? ⟨w.heap.size,0,none⟩=some (.bool p)/\W.cell? ⟨w.heap.size,1,none⟩=some s) (by kernel_rfl) ⟨S2.p1.facts.1,S2.p1.facts.2.1⟩ (fun Hh=>?_)
 refine rgT 0 Hh ?_
 refine rgT 1 Hh ?_
 refine rgT 2 Hh ?_
 refine rgT 3 Hh ?_
 refine rgO 4 fun K hK=>?_
 go_simp
 go_at_call 134;refine (to_any _ S2.p0.nm HL.p0 HL.p1 HL.p2).mono ?_;rintro e w3 ⟨v,rfl,h⟩
 obtain ⟨An,ln,cn,rfl⟩:=h.form
 have S3:=Yh5 (S2.p0.keep h.2) (S2.p1.keep h.2) (S2.p2.keep h.2) (h.out S2.q3) (Yb S2.q3 h.2)
 clear h Hh
 go_wp2_with fail
 refine rgK hK ⟨S3.p1.facts.1,S3.p1.facts.2.1⟩ fun Hh=>?_;clear hK K
 refine rgT 5 Hh ?_
 obtain ⟨f0,f1,f2,f3⟩:=S3.p2.facts
 refine rgO 6 fun K hK=>?_
 go_simp;clear f0 f1 f2 f3
 refine rgK hK ⟨cell_st _ S3.p1.facts.1 Yo,cell_st _ S3.p1.facts.2.1 Yo⟩ fun Hh=>?_;clear hK K
 refine Yw ?_
 clear Hh
 go_wp2_with fail
 refine ret_bx S3.p2 (fun W d0 d1=>by simp [results,Tryz.results133,go_sem,d0,d1]) rfl ?_
 refine ⟨_,rfl,Zs.put int_word S3.p2 Yo ?_ _ _⟩
 exact ⟨_,by rw [<- HL.q3],S3.p3⟩
theorem to_r {w:World} {L K:Nat} {a:Value} {q:Rat} (ha:Qe w L a q) (hL:L<=1073741824) (hs:Sz K q) (hK:K<=1048576):
 Calls Tryz.prog 67 #[a] w fun e w'=>∃ v,e=.returned v/\Qr w w' v q:=by
 obtain ⟨p,A,l,c,B,k,d,rfl,hz,hd⟩:=ha.open
 have HL:=Yh4 hL hs.1 hs.2 hK
 have S0:=Yh3 hz hd (Below.refl w.heap.size w)
 clear hz hd hL hs hK ha
 go_enter Tryz.func67,Tryz.ntmps67
 go_upto_region 1 with (fail)
 have S1:=Yh5 (S0.p0.keep ((Yb (Ya w (.cells #[.bool p,.slice A l c,.slice B k d] 96)) (Ya _ (.cells #[.bool false,.slice none 0 0,.slice none 0 0] 36))))) (S0.p1.keep ((Yb (Ya w (.cells #[.bool p,.slice A l c,.slice B k d] 96)) (Ya _ (.cells #[.bool false,.slice none 0 0,.slice none 0 0] 36))))) ((B3.new 96 w (.bool p) (.slice A l c) (.slice B k d)).alloc (.cells #[.bool false,.slice none 0 0,.slice none 0 0] 36)) (B3.new1 36 w (.cells #[.bool p,.slice A l c,.slice B k d] 96) (.bool false) (.slice none 0 0) (.slice none 0 0)) (Yb S0.q2 ((Yb (Ya w (.cells #[.bool p,.slice A l c,.slice B k d] 96)) (Ya _ (.cells #[.bool false,.slice none 0 0,.slice none 0 0] 36)))))
 clear S0
 generalize (w.alloc _).alloc _=W0 at S1 ⊢
 go_upto_region 1 with (fail)
 have S2:=Yh5 (S1.p0.keep (below_dr _ 1)) (S1.p1.keep (below_dr _ 1)) (S1.p2.keep (below_dr _ 1)) (S1.p3.keep (below_dr _ 1)) (Yb S1.q4 (below_dr _ 1))
 refine wp_region_held_drew (S:=fun W=>Ye3 W w.heap.size (.bool p) (.slice A l c) (.slice B k d)) (by kernel_rfl) ⟨S2.p2.facts.1,S2.p2.facts.2.1,S2.p2.facts.2.2.1⟩ (fun Hh=>?_)
 refine rgT 0 Hh ?_
 refine rgT 1 Hh ?_
 refine rgT 3 Hh ?_
 refine rgT 4 Hh ?_
 refine rgO 2 fun K hK=>?_
 go_simp
 go_at_call 133;refine (to_z S2.p0 HL.p0 HL.p1 HL.q3).mono ?_;rintro e w3 ⟨v,rfl,h⟩
 obtain ⟨pn,An,ln,cn,rfl,-⟩:=h.parts
 have S3:=Yh6 (S2.p0.keep h.below) (S2.p1.keep h.below) (S2.p2.keep h.below) (S2.p3.keep h.below) (h.from S2.q4) (Yb S2.q4 h.below)
 clear h Hh
 go_wp2_with fail
 refine rgK hK ⟨S3.p2.facts.1,S3.p2.facts.2.1,S3.p2.facts.2.2.1⟩ fun Hh=>?_;clear hK K
 refine rgO 5 fun K hK=>?_
 go_simp
 go_at_call 134;refine (to_any _ S3.p1.nm HL.p0 HL.p2 HL.q3).mono ?_;rintro e w4 ⟨v,rfl,h⟩
 obtain ⟨Ae,le,ce,rfl⟩:=h.form
 have S4:=Yh7 (S3.p0.keep h.2) (S3.p1.keep h.2) (S3.p2.keep h.2) (S3.p3.keep h.2) (S3.p4.keep h.2) (h.out S3.q5) (Yb S3.q5 h.2)
 clear h Hh
 go_wp2_with fail
 refine rgK hK ⟨S4.p2.facts.1,S4.p2.facts.2.1,S4.p2.facts.2.2.1⟩ fun Hh=>?_;clear hK K
 refine rgT 6 Hh ?_
 obtain ⟨f0,f1,f2,f3,f4,f5⟩:=S4.p3.facts
 refine rgO 7 fun K hK=>?_
 go_simp;clear f0 f1 f2 f3 f4 f5
 refine rgK hK ⟨cell_st3 _ S4.p2.facts.1 Yo,cell_st3 _ S4.p2.facts.2.1 Yo,cell_st3 _ S4.p2.facts.2.2.1 Yo⟩ fun Hh=>?_;clear hK K
 refine Yw ?_
 clear Hh
 go_wp2_with fail
 refine ret_b3 S4.p3 (fun W d0 d1 d2=>by simp [results,Tryz.results67,go_sem,d0,d1,d2];try rfl) rfl ?_
 exact ⟨_,rfl,Qs.put3 rat_word S4.p3 Yo ((S4.p4).q S4.p5) _ _ _⟩
end
end I
end
section
namespace I
section
open Go Go.RowKit Go.Proofs Pl
def insC (x:Int):List Int->List Int
 | []=>[x]
 | c::r=>if x=c then c::r else if x<c then x::c::r else c::insC x r
def RiseC (l:List Int):Prop:=l.Pairwise fun a b=>a<b
theorem insC_lt {x:Int} {l m:List Int} (h:∀ a∈l,a<x):insC x (l++m)=l++insC x m:=by
 induction l with
 | nil=>rfl
 | cons c l ih=>
  have hc:=h c (by simp)
  show (if x=c then _ else if x<c then _ else c::insC x (l++m))=_
  rw [if_neg (by omega),if_neg (by omega),ih fun a ha=>h a (by simp [ha])]
  rfl
theorem insC_in {x:Int} {l m:List Int} (h:∃ a∈l,x<=a):insC x (l++m)=insC x l++m:=by
 induction l with
 | nil=>obtain ⟨a,ha,-⟩:=h;cases ha
 | cons c l ih=>
  obtain ⟨a,ha,hxa⟩:=h
  show (if x=c then c::(l++m) else if x<c then x::c::(l++m) else c::insC x (l++m))=(if x=c then c::l else if x<c then x::c::l else c::insC x l)++m
  by_cases h1:x=c
  · rw [if_pos h1,if_pos h1];rfl
  · rw [if_neg h1,if_neg h1]
    by_cases h2:x<c
    · rw [if_pos h2,if_pos h2];rfl
    · rw [if_neg h2,if_neg h2]
      rcases List.mem_cons.1 ha with rfl | ha
      · omega
      · rw [ih ⟨a,ha,hxa⟩];rfl
theorem insC_mem {x:Int} {l:List Int} (hr:RiseC l) (h:x∈l):insC x l=l:=by
 induction l with
 | nil=>cases h
 | cons c l ih=>
  show (if x=c then c::l else if x<c then x::c::l else c::insC x l)=_
  by_cases h1:x=c
  · rw [if_pos h1]
  · rw [if_neg h1]
    rcases List.mem_cons.1 h with h | h
    · exact absurd h h1
    · have:=List.rel_of_pairwise_cons hr h
      rw [if_neg (by omega),ih (List.Pairwise.tail hr) h]
theorem insC_has {x y:Int} {l:List Int}:y∈insC x l↔y=x∨y∈l:=by
 induction l with
 | nil=>simp [insC]
 | cons c l ih=>
  unfold insC
  split
  · rename_i h;subst h;simp
  · split
    · simp
    · simp only [List.mem_cons,ih]
      constructor
      · rintro (h | h | h)
        · exact .inr (.inl h)
        · exact .inl h
        · exact .inr (.inr h)
      · rintro (h | h | h)
        · exact .inr (.inl h)
        · exact .inl h
        · exact .inr (.inr h)
theorem insC_rise {x:Int} {l:List Int} (hr:RiseC l):RiseC (insC x l):=by
 induction l with
 | nil=>exact List.pairwise_singleton _ _
 | cons c l ih=>
  have hc:∀ a∈l,c<a:=fun a ha=>List.rel_of_pairwise_cons hr ha
  unfold insC
  split
  · exact hr
  · split
    · rename_i h1 h2
      refine List.Pairwise.cons (fun a ha=>?_) hr
      rcases List.mem_cons.1 ha with rfl | ha
      · exact h2
      · exact Int.lt_trans h2 (hc a ha)
    · rename_i h1 h2
      refine List.Pairwise.cons (fun a ha=>?_) (ih (List.Pairwise.tail hr))
      rcases insC_has.1 ha with rfl | ha
      · omega
      · exact hc a ha
theorem insC_len (x:Int) (l:List Int):(insC x l).length<=l.length+1:=by
 induction l with
 | nil=>simp [insC]
 | cons c l ih=>
  unfold insC
  split
  · simp
  · split
    · simp
    · simp;exact ih
def Insd (cs:List Int) (x:Int) (i:Nat) (d:Bool) (out:List Int):Prop:=
 (d=false/\out=cs.take i/\∀ a∈cs.take i,a<x)∨(d=true/\out=insC x (cs.take i)/\∃ a∈cs.take i,x<a)
theorem take_c {cs:List Int} {i:Nat} {c:Int} (h:cs[i]?=some c):cs.take (i+1)=cs.take i++[c]:=by
 obtain ⟨hk,rfl⟩:=List.getElem?_eq_some_iff.1 h
 exact List.take_succ_eq_append_getElem hk
theorem insd_step {cs out:List Int} {x c:Int} {i:Nat} {d:Bool} (h:Insd cs x i d out) (hc:cs[i]?=some c) (hne:c≠x):
 (d=false/\x<c->Insd cs x (i+1) true (out++[x]++[c]))/\(¬ (d=false/\x<c)->Insd cs x (i+1) d (out++[c])):=by
 refine ⟨fun ⟨hd,hx⟩=>?_,fun hn=>?_⟩
 · rcases h with ⟨-,rfl,h⟩ | ⟨h,-⟩
   · refine .inr ⟨rfl,?_,c,by rw [take_c hc];simp,hx⟩
     rw [take_c hc,insC_lt h,List.append_assoc]
     congr 1
     show [x,c]=if x=c then [c] else if x<c then [x,c] else _
     rw [if_neg (fun e=>hne e.symm),if_pos hx]
   · rw [hd] at h;cases h
 · rcases h with ⟨hd,rfl,h⟩ | ⟨hd,rfl,a,ha,hxa⟩
   · have hcx:c<x:=by
      by_cases hx:x<c
      · exact absurd ⟨hd,hx⟩ hn
      · omega
     refine .inl ⟨hd,(take_c hc).symm,fun a ha=>?_⟩
     rw [take_c hc] at ha
     rcases List.mem_append.1 ha with ha | ha
     · exact h a ha
     · rw [List.mem_singleton.1 ha];exact hcx
   · refine .inr ⟨hd,?_,a,by rw [take_c hc];simp [ha],hxa⟩
     rw [take_c hc,insC_in ⟨a,ha,Int.le_of_lt hxa⟩]
theorem insd_end {cs out:List Int} {x:Int} {d:Bool} (h:Insd cs x cs.length d out):(d=false->out++[x]=insC x cs)/\(d=true->out=insC x cs):=by
 unfold Insd at h
 rw [List.take_length] at h
 refine ⟨fun hd=>?_,fun hd=>?_⟩
 · rcases h with ⟨-,rfl,h⟩ | ⟨h,-⟩
   · have:=insC_lt (m:=[]) h
     rw [List.append_nil] at this
     rw [this];rfl
   · rw [hd] at h;cases h
 · rcases h with ⟨h,-⟩ | ⟨-,h,-⟩
   · rw [hd] at h;cases h
   · exact h
def ic (cs:List Int):List Value:=cs.map fun c=>Value.int .i64 c
def Pi (w:World) (B0:Nat) (v:Value) (cs:List Int):Prop:=w.ownsRow B0 3 1 v cs.length (ic cs)
theorem ic_one {cs:List Int}:∀ u∈ic cs,u.oneCell'=true:=fun u hu=>by
 obtain ⟨c,-,rfl⟩:=List.mem_map.1 hu
 rfl
theorem ic_app (a b:List Int):ic (a++b)=ic a++ic b:=List.map_append ..
theorem pi_info:(Tryz.prog.info? 3).map (fun i=>(i.zero,i.size,i.bytes))=some (some (.int .i64 0),1,8):=by kernel_rfl
theorem Pi.keep {w w':World} {B0:Nat} {v:Value} {cs:List Int} (h:Pi w B0 v cs) (hb:Below w.heap.size w w'):Pi w' B0 v cs:=own_keepT h (KeepT.below hb)
theorem Pi.shape {w:World} {B0:Nat} {v:Value} {cs:List Int} (h:Pi w B0 v cs):∃ A cap,v=.slice A cs.length cap:=by
 obtain ⟨A,cap,e,-⟩:=own_slice h
 exact ⟨A,cap,e⟩
theorem Pi.at_ {w:World} {B0 i:Nat} {v:Value} {cs:List Int} {c:Int} (h:Pi w B0 v cs) (hi:cs[i]?=some c):∃ g cap,v=.slice (some ⟨g,0,none⟩) cs.length cap/\B0<=g/\g<w.heap.size/\w.cell? ⟨g,i,none⟩=some (.int .i64 c):=by
 have h0:0<cs.length:=by have:=(List.getElem?_eq_some_iff.1 hi).1;omega
 obtain ⟨g,cap,e,h1,h2,h3,h4,h5,h6⟩:=own_cells h h0
 exact ⟨g,cap,e,h1,h4,h5 i _ (by rw [ic,List.getElem?_map,hi];rfl)⟩
end
end I
end
section
namespace I
section
open Go Go.RowKit Go.Proofs Pl
theorem app_c {w0 wr:World} {B:Nat} {ops:Array Oper} {rest:List Oper} {o:Oper} {a:Act} {Q:Exit->Act->World->Prop} {u1:Value} {out:List Int} {c:Int} (hgd:o.guard=none) (s x:Operand)
 (ho:o.op=.call { callee:=.builtin .append,args:=#[s,x],argTypes:=#[73,73] }) (hs:a.eval s=u1) (hx:a.eval x=.slice (some ⟨wr.heap.size,0,none⟩) 1 1)
 (hP:Pi wr B u1 out) (hb:Below B w0 wr) (hB:B<=wr.heap.size) (hl:out.length<=1048576)
 (h:∀ u2 w2,Pi w2 B u2 (out++[c])->Below B w0 w2->wpList Tryz.prog ops Q rest (a.put o.dst u2) w2):wpList Tryz.prog ops Q (o::rest) a (wr.alloc (.cells #[.int .i64 c] 3)):=by
 obtain ⟨i0,hi,hz0,hz1,hz2⟩:=info_parts pi_info
 have hown:Pi (wr.alloc (.cells #[.int .i64 c] 3)) B u1 out:=hP.keep (Ya _ _)
 have hbw:Below B w0 (wr.alloc (.cells #[.int .i64 c] 3)):=hb.alloc hB _
 refine wpList_append_own _ hgd s x 73 ho B 3 i0 (.int .i64 0) 1 8 Tryz.underlying73 hi hz0 hz1 hz2 rfl Yd u1 out.length (ic out) hs hown ⟨wr.heap.size,0,none⟩ 1 1 (ic [c]) hx rfl ?_ ic_one (by unfold maxLen;omega) Yo (by rw [World.size_alloc];omega) ?_
 · intro j u hj
   cases j with
   | zero=>
    obtain rfl:Value.int .i64 c=u:=by simpa [ic] using hj
    have e:(⟨wr.heap.size,0,none⟩:Addr).add 0=⟨wr.heap.size,0,none⟩:=by unfold Addr.add;split<;>simp_all
    rw [e,cell_of_row _ wr.heap.size 0 #[.int .i64 c] 3 _ (heap_alloc_new _ _)]
    rfl
   | succ j=>simp [ic] at hj
 · intro u2 w2 hown2 hg _
   refine h u2 w2 ?_ (hbw.grown hg (by rw [World.size_alloc];omega) (fun k hk=>(hown.lt k hk).1))
   unfold Pi
   rw [ic_app,List.length_append]
   exact hown2
theorem ins_e {w:World} {B0:Nat} {v:Value} {cs:List Int} {x:Int} (h:Pi w B0 v cs) (hB:B0<=w.heap.size) (hr:RiseC cs) (hl:cs.length<=1000000):
 Calls Tryz.prog 203 #[v,.int .i64 x] w fun e w'=>∃ u,e=.returned u/\Pi w' B0 u (insC x cs)/\Yg w w':=by
 obtain ⟨A,cap,rfl⟩:=h.shape
 obtain ⟨n,hn⟩:∃ n,cs.length=n:=⟨_,rfl⟩
 rw [hn] at h hl ⊢
 have HS:=Yh3 h hr hn
 clear h hr hn
 go_enter Tryz.func203,Tryz.ntmps203
 go_upto_region 2 with (fail)
 have R0:Hid (Pi (w.alloc (.cells #[] 3)) w.heap.size (.slice (some ⟨w.heap.size,0,none⟩) 0 0) []/\Yg w (w.alloc (.cells #[] 3))):=⟨World.ownsRow_made (base:=w.heap.size) (e:=3) (size:=1) w #[] 0 (Nat.le_refl _) Yd rfl,Ya _ _⟩
 generalize w.alloc _=W0 at R0 ⊢
 go_wp2_with fail
 go_loopw [5,6,7] (fun z1 z2 z3 wr=>∃ (i:Nat) (d:Bool) (out:List Int) (u1:Value),u1=z1/\z2=.bool d/\z3=.int .i64 (i:Int)/\i<=n/\Hid (Pi wr w.heap.size u1 out/\Yg w wr/\Insd cs x i d out/\out.length<=i+1)) (fun _ _ z3 _=>n - (intOf z3).toNat)
 case atStart=>exact ⟨0,false,[],_,rfl,rfl,rfl,Nat.zero_le _,R0.p0,R0.q1,.inl ⟨rfl,by simp,by simp⟩,by simp⟩
 case round=>
  clear R0
  obtain ⟨i,d,out,u1,rfl,rfl,rfl,hi,H⟩:=hrel
  by_cases hlt:i<n
  · have hic:i<cs.length:=by rw [HS.q2];exact hlt
    obtain ⟨c,hc⟩:∃ c,cs[i]?=some c:=⟨_,List.getElem?_eq_getElem hic⟩
    obtain ⟨g,cap',e,-,-,hcell⟩:=(HS.p0.keep H.p1).at_ hc
    injection e with e1 e2 e3
    subst e1
    have d0:(i:Int)<(n:Int):=Yo
    have HC:=Lib.hid hc
    clear hc hic e2 e3
    by_cases hcx:c=x
    · have e1:(c==x)=true:=by rw [hcx];exact beq_self_eq_true _
      have hm:insC x cs=cs:=insC_mem HS.p1 (by rw [<- hcx];exact List.mem_of_getElem? HC.out)
      have HM:=Lib.hid hm
      clear hcx hm
      go_wp2_with fail
      go_ret
      rw [HM.out]
      exact ⟨_,rfl,HS.p0.keep H.p1,H.p1⟩
    · have e1:(c==x)=false:=beq_eq_false_iff_ne.2 hcx
      obtain ⟨st1,st2⟩:=insd_step H.p2 HC.out hcx
      clear hcx
      have hol:out.length<=1000001:=by have:=H.q3;omega
      cases d with
      | true=>
       have hst:=Lib.hid (st2 (by simp))
       clear st1 st2
       go_wp2_with (at_builtin;refine app_c rfl (.tmp 36) (.tmp 41) rfl rfl rfl H.p0 H.p1 H.p1.size Yo ?_;intro u2 w2 k1 k2)
       have K:=Yh4 k1 k2 hst.out (show (out++[c]).length<=i+1+1 by rw [List.length_append];have:=H.q3;simp;omega)
       clear k1 k2
       go_wp2_with fail
       case roundEnd=>exact ⟨⟨i+1,true,_,u2,rfl,rfl,by go_num,Yo,K.out⟩,by simp [intOf];omega⟩
      | false=>
       by_cases hx:x<c
       · have hst:=Lib.hid (st1 ⟨rfl,hx⟩)
         have d1:x<c:=hx
         clear st1 st2 hx
         have hof:Hid (out.length<=i):=by
          rcases H.p2 with ⟨-,h,-⟩ | ⟨h,-⟩
          · show out.length<=i;rw [h,List.length_take];omega
          · cases h
         go_upto_region 10 with (at_builtin;refine app_c rfl (.tmp 32) (.tmp 34) rfl rfl rfl H.p0 H.p1 H.p1.size Yo ?_;intro u2 w2 k1 k2)
         have K:=Yh2 k1 k2
         have hcell2:w2.cell? ⟨g,i,none⟩=some (.int .i64 c):=by
          obtain ⟨g2,cap2,e,-,-,h⟩:=(HS.p0.keep K.q1).at_ HC.out
          injection e with e1 e2 e3
          injection e1 with e1
          injection e1 with e1
          rw [e1];exact h
         clear k1 k2 hcell
         go_wp2_with (at_builtin;refine app_c rfl (.tmp 36) (.tmp 41) rfl rfl rfl K.p0 K.q1 K.q1.size (by rw [List.length_append];simp;omega) ?_;intro u3 w3 k3 k4)
         have K2:=Yh4 k3 k4 hst.out (show (out++[x]++[c]).length<=i+1+1 by rw [List.length_append,List.length_append];have:=hof.out;simp;omega)
         clear k3 k4
         go_wp2_with fail
         case roundEnd=>exact ⟨⟨i+1,true,_,u3,rfl,rfl,by go_num,Yo,K2.out⟩,by simp [intOf];omega⟩
       · have hst:=Lib.hid (st2 (fun h=>hx h.2))
         have d1:¬ x<c:=hx
         clear st1 st2 hx
         go_wp2_with (at_builtin;refine app_c rfl (.tmp 36) (.tmp 41) rfl rfl rfl H.p0 H.p1 H.p1.size Yo ?_;intro u2 w2 k1 k2)
         have K:=Yh4 k1 k2 hst.out (show (out++[c]).length<=i+1+1 by rw [List.length_append];have:=H.q3;simp;omega)
         clear k1 k2
         go_wp2_with fail
         case roundEnd=>exact ⟨⟨i+1,false,_,u2,rfl,rfl,by go_num,Yo,K.out⟩,by simp [intOf];omega⟩
  · have d0:¬ (i:Int)<(n:Int):=by omega
    have hin:i=cs.length:=by have:=HS.q2;omega
    have hend:=insd_end (hin ▸ H.p2)
    have hol:out.length<=1000001:=by have:=H.q3;omega
    clear hin
    cases d with
    | true=>
     have HE:=Lib.hid (hend.2 rfl)
     clear hend
     go_wp2_with fail
     go_ret
     refine ⟨_,rfl,?_,H.p1⟩
     rw [<- HE.out]
     exact own_mono H.p0 hB
    | false=>
     have HE:=Lib.hid (hend.1 rfl)
     clear hend
     go_wp2_with (at_builtin;refine app_c rfl (.tmp 45) (.tmp 47) rfl rfl rfl H.p0 H.p1 H.p1.size Yo ?_;intro u2 w2 k1 k2)
     have K:=Yh2 k1 k2
     clear k1 k2
     go_wp2_with fail
     go_ret
     refine ⟨_,rfl,?_,K.q1⟩
     rw [<- HE.out]
     exact own_mono K.p0 hB
end
end I
end
section
namespace I
section
open Go Go.RowKit Go.Proofs Pl
def placesC (l:Tms):List Int:=l.foldl (fun acc t=>if 0<=t.1 then insC t.1 acc else acc) []
theorem places_snoc (l:Tms) (t:Int × Rat):placesC (l++[t])=if 0<=t.1 then insC t.1 (placesC l) else placesC l:=by
 unfold placesC;rw [List.foldl_append];rfl
theorem places_succ {l:Tms} {k:Nat} {t:Int × Rat} (h:l[k]?=some t):placesC (l.take (k+1))=if 0<=t.1 then insC t.1 (placesC (l.take k)) else placesC (l.take k):=by
 obtain ⟨hk,rfl⟩:=List.getElem?_eq_some_iff.1 h
 rw [List.take_succ_eq_append_getElem hk,places_snoc]
theorem places_ind {P:Tms->Prop} (h0:P []) (h1:∀ l t,P l->P (l++[t])):∀ l,P l:=by
 intro l
 have:∀ n (l:Tms),l.length=n->P l:=by
  intro n
  induction n with
  | zero=>intro l hl;rw [List.eq_nil_of_length_eq_zero hl];exact h0
  | succ n ih=>
   intro l hl
   rcases List.eq_nil_or_concat l with h | ⟨m,t,h⟩
   · rw [h] at hl;simp at hl
   · have e:l=m++[t]:=by simpa using h
     rw [e]
     refine h1 m t (ih m ?_)
     rw [e] at hl;simp at hl;exact hl
 exact this l.length l rfl
theorem places_rise (l:Tms):RiseC (placesC l):=by
 refine places_ind (P:=fun l=>RiseC (placesC l)) List.Pairwise.nil (fun l t h=>?_) l
 show RiseC (placesC (l++[t]))
 rw [places_snoc]
 split
 · exact insC_rise h
 · exact h
theorem places_len (l:Tms):(placesC l).length<=l.length:=by
 refine places_ind (P:=fun l=>(placesC l).length<=l.length) (Nat.le_refl _) (fun l t h=>?_) l
 show (placesC (l++[t])).length<=_
 rw [places_snoc,List.length_append]
 have:=insC_len t.1 (placesC l)
 split<;>simp<;>omega
theorem places_has (l:Tms):∀ c,c∈placesC l↔0<=c/\∃ t∈l,t.1=c:=by
 refine places_ind (P:=fun l=>∀ c,c∈placesC l↔0<=c/\∃ t∈l,t.1=c) (by simp [placesC]) (fun l t h=>?_) l
 intro c
 show c∈placesC (l++[t])↔_
 rw [places_snoc]
 by_cases ht:0<=t.1
 · rw [if_pos ht,insC_has,h c]
   constructor
   · rintro (h | ⟨h1,u,h2,h3⟩)
     · exact ⟨Yo,t,by simp,h.symm⟩
     · exact ⟨h1,u,by simp [h2],h3⟩
   · rintro ⟨h1,u,h2,h3⟩
     rcases List.mem_append.1 h2 with h2 | h2
     · exact .inr ⟨h1,u,h2,h3⟩
     · rw [List.mem_singleton.1 h2] at h3;exact .inl h3.symm
 · rw [if_neg ht,h c]
   constructor
   · rintro ⟨h1,u,h2,h3⟩
     exact ⟨h1,u,by simp [h2],h3⟩
   · rintro ⟨h1,u,h2,h3⟩
     rcases List.mem_append.1 h2 with h2 | h2
     · exact ⟨h1,u,h2,h3⟩
     · rw [List.mem_singleton.1 h2] at h3;omega
theorem places_e {w:World} {L:Nat} {v:Value} {l:Tms} (hv:Vt w L v l) (hn:l.length<=4096):
 Calls Tryz.prog 171 #[v] w fun e w'=>∃ u,e=.returned u/\Pi w' w.heap.size u (placesC l)/\Yg w w':=by
 obtain ⟨xs,⟨A,cap,rfl,h1,h2,h3,h4,h5⟩,rfl⟩:=hv
 obtain ⟨n,hnn⟩:∃ n,xs.length=n:=⟨_,rfl⟩
 have hl:n<=4096:=by rw [<- hnn];simpa using hn
 have HL:=Yh2 h4 hnn
 rw [hnn]
 clear h5 h4 h1 h2 h3 hn hnn
 go_enter Tryz.func171,Tryz.ntmps171
 go_upto_region 2 with (fail)
 have R0:Hid (Pi (w.alloc (.cells #[] 3)) w.heap.size (.slice (some ⟨w.heap.size,0,none⟩) 0 0) []/\Yg w (w.alloc (.cells #[] 3))):=⟨World.ownsRow_made (base:=w.heap.size) (e:=3) (size:=1) w #[] 0 (Nat.le_refl _) Yd rfl,Ya _ _⟩
 generalize w.alloc _=W0 at R0 ⊢
 go_wp2_with fail
 go_loopw [3,4] (fun z1 z2 wr=>∃ (k:Nat) (u1:Value),u1=z1/\z2=.int .i64 (k:Int)/\k<=n/\Hid (Pi wr w.heap.size u1 (placesC ((xs.map Tm.t).take k))/\Yg w wr)) (fun _ z2 _=>n - (intOf z2).toNat)
 case atStart=>exact ⟨0,_,rfl,rfl,Nat.zero_le _,R0.out⟩
 case round=>
  clear R0
  obtain ⟨k,u1,rfl,rfl,hk,H⟩:=hrel
  by_cases hlt:k<n
  · have hkx:k<xs.length:=by rw [HL.q1];exact hlt
    obtain ⟨x,hx⟩:∃ x,xs[k]?=some x:=⟨_,List.getElem?_eq_getElem hkx⟩
    obtain ⟨g,off,rfl,hgl,c0,c1,c2,c3⟩:=(HL.p0.keep H.q1).at_ hx
    have hs:placesC ((xs.map Tm.t).take (k+1))=if 0<=x.c then insC x.c (placesC ((xs.map Tm.t).take k)) else placesC ((xs.map Tm.t).take k):=places_succ (l:=xs.map Tm.t) (k:=k) (t:=x.t) (by rw [List.getElem?_map,hx];rfl)
    have d0:(k:Int)<(n:Int):=Yo
    clear hx hgl hkx
    by_cases h0:0<=x.c
    · rw [if_pos h0] at hs
      have HS:=Lib.hid hs
      have e1:decide ((0:Int)<=x.c)=true:=decide_eq_true h0
      clear hs
      go_wp2_with fail
      refine (ins_e H.p0 H.q1.size (places_rise _) (by have:=places_len ((xs.map Tm.t).take k);rw [List.length_take] at this;omega)).mono ?_;rintro e w2 ⟨u2,rfl,g1,g2⟩
      have K:Hid (Pi w2 w.heap.size u2 (placesC ((xs.map Tm.t).take (k+1)))/\Yg w w2):=⟨by rw [HS.out];exact g1,Yb H.q1 g2⟩
      clear g1 g2
      go_wp2_with fail
      case roundEnd=>exact ⟨⟨k+1,u2,rfl,by go_num,Yo,K.out⟩,by simp [intOf];omega⟩
    · rw [if_neg h0] at hs
      have HS:Hid (Pi wr w.heap.size u1 (placesC ((xs.map Tm.t).take (k+1)))/\Yg w wr):=⟨by rw [hs];exact H.p0,H.q1⟩
      have e1:decide ((0:Int)<=x.c)=false:=decide_eq_false h0
      clear hs
      go_wp2_with fail
      case roundEnd=>exact ⟨⟨k+1,u1,rfl,by go_num,Yo,HS.out⟩,by simp [intOf];omega⟩
  · have d0:¬ (k:Int)<(n:Int):=by omega
    have hf:Hid (Pi wr w.heap.size u1 (placesC (xs.map Tm.t))/\Yg w wr):=by
     have h:=H.out
     rw [List.take_of_length_le (by rw [List.length_map,HL.q1];omega)] at h
     exact h
    go_wp2_with fail
    go_ret
    exact ⟨_,rfl,hf.out⟩
def mkR (l:Tms):Tms:=((placesC l).filter fun c=>decide (getV l c≠0)).map fun c=>(c,getV l c)
theorem sumAt_map (f:Int->Rat):∀ (cs:List Int) (c:Int),RiseC cs->sumAt (cs.map fun a=>(a,f a)) c=if c∈cs then f c else 0:=by
 intro cs c hr
 induction cs with
 | nil=>simp [sumAt]
 | cons a cs ih=>
  have ha:∀ b∈cs,a<b:=fun b hb=>List.rel_of_pairwise_cons hr hb
  show (if a=c then f a else 0)+sumAt (cs.map fun a=>(a,f a)) c=_
  rw [ih (List.Pairwise.tail hr)]
  by_cases h:a=c
  · subst h
    have:a ∉ cs:=fun h=>by have:=ha a h;omega
    rw [if_pos rfl,if_neg this,Rat.add_zero,if_pos (by simp)]
  · rw [if_neg h,Rat.zero_add]
    by_cases h2:c∈cs
    · rw [if_pos h2,if_pos (by simp [h2])]
    · rw [if_neg h2,if_neg (by simp [h2,Ne.symm h])]
theorem mkR_eq (l:Tms):mkR l=mkV l:=by
 have hr:RiseC ((placesC l).filter fun c=>decide (getV l c≠0)):=List.Pairwise.filter _ (places_rise l)
 refine mk_of ⟨?_,?_,?_⟩ fun c hc=>?_
 · unfold mkR
   rw [List.pairwise_map];exact hr
 · intro t ht
   obtain ⟨c,hc,rfl⟩:=List.mem_map.1 ht
   exact ((places_has l c).1 (List.mem_filter.1 hc).1).1
 · intro t ht
   obtain ⟨c,hc,rfl⟩:=List.mem_map.1 ht
   exact of_decide_eq_true (List.mem_filter.1 hc).2
 · unfold mkR
   rw [sumAt_map (fun c=>getV l c) _ _ hr]
   have hg:getV l c=sumAt l c:=if_pos hc
   by_cases h:c∈(placesC l).filter fun c=>decide (getV l c≠0)
   · rw [if_pos h,hg]
   · rw [if_neg h]
     by_cases h2:c∈placesC l
     · have h3:getV l c=0:=by
        by_cases h3:getV l c=0
        · exact h3
        · exact absurd (List.mem_filter.2 ⟨h2,decide_eq_true h3⟩) h
       rw [<- hg,h3]
     · refine (sumAt_none fun t ht e=>h2 ((places_has l c).2 ⟨hc,t,ht,e⟩)).symm
end
end I
end
section
section
open Go Go.RowKit Go.Proofs Pl
def flat {α:Type} (f:α->List Value) (xs:List α):List Value:=xs.flatMap f
section
variable {α β:Type} {f:α->List Value} {xs ys:List α} {x:α} {s i j n:Nat} {w w':World} {B:Nat} {T:TypeId} {v u:Value}
theorem flat_app:flat f (xs++ys)=flat f xs++flat f ys:=List.flatMap_append
theorem flat_one_:flat f [x]=f x:=by simp [flat]
theorem flat_len (hf:∀ x,(f x).length=s) (xs:List α):(flat f xs).length=xs.length*s:=by
 induction xs with
 | nil=>simp [flat]
 | cons x xs ih=>
  show (f x++flat f xs).length=_
  rw [List.length_append,hf,ih,List.length_cons,Nat.succ_mul];omega
theorem flat_at (hf:∀ x,(f x).length=s) (h:xs[i]?=some x) (hj:(f x)[j]?=some u):(flat f xs)[i*s+j]?=some u:=by
 induction xs generalizing i with
 | nil=>simp at h
 | cons y xs ih=>
  show (f y++flat f xs)[i*s+j]?=_
  cases i with
  | zero=>
   obtain rfl:y=x:=by simpa using h
   have hl:=(List.getElem?_eq_some_iff.1 hj).1
   rw [Nat.zero_mul,Nat.zero_add,List.getElem?_append_left hl];exact hj
  | succ i=>
   rw [Nat.succ_mul,List.getElem?_append_right (by rw [hf];omega),hf,show i*s+s+j - s=i*s+j by omega]
   exact ih (by simpa using h)
theorem flat_cell (h1:∀ x,∀ u∈f x,u.oneCell'=true):∀ u∈flat f xs,u.oneCell'=true:=fun u hu=>by
 obtain ⟨x,hx,hu⟩:=List.mem_flatMap.1 hu
 exact h1 x u hu
def Rr (w:World) (B:Nat) (T:TypeId) (s:Nat) (f:α->List Value) (v:Value) (xs:List α):Prop:=w.ownsRow B T s v xs.length (flat f xs)
def Rv (w:World) (f:α->List Value) (v:Value) (xs:List α):Prop:=∃ A cap,v=.slice A xs.length cap/\xs.length<=cap/\cap<=maxLen/\(A=none->cap=0)/\TRd w A (flat f xs)
theorem Rr.keep (h:Rr w B T s f v xs) (hb:Below w.heap.size w w'):Rr w' B T s f v xs:=own_keepT h (KeepT.below hb)
theorem Rr.keepT (h:Rr w B T s f v xs) (k:KeepT T w w'):Rr w' B T s f v xs:=own_keepT h k
theorem Rr.mono {B1:Nat} (h:Rr w B T s f v xs) (hB:B1<=B):Rr w B1 T s f v xs:=own_mono h hB
theorem Rr.nil (w:World) (B:Nat) (T:TypeId) (s:Nat) (f:α->List Value):Rr w B T s f (.slice none 0 0) []:=World.ownsRow_nil _ _ _ _
theorem Rr.shape (h:Rr w B T s f v xs):∃ A cap,v=.slice A xs.length cap/\xs.length<=maxLen:=own_slice h
theorem Rr.rv (h:Rr w B T s f v xs):Rv w f v xs:=by
 rcases Nat.eq_zero_or_pos xs.length with h0 | h0
 · obtain rfl:=List.eq_nil_of_length_eq_zero h0
   rcases h.2 with ⟨hv,-⟩ | ⟨g,cap,cur,hv,hb,hh,h1,h2,h3,h4⟩
   · exact ⟨none,0,hv,Nat.le_refl _,Nat.zero_le _,fun _=>rfl,.inl rfl⟩
   · exact ⟨_,cap,hv,Yo,h2,by simp,.inl rfl⟩
 · obtain ⟨g,cap,e,h1,h2,h3,h4,h5,h6⟩:=own_cells h h0
   exact ⟨_,cap,e,h2,h3,by simp,.inr ⟨g,0,rfl,h4,fun i u hi=>by rw [Nat.zero_add];exact h5 i u hi⟩⟩
theorem Rv.keep (h:Rv w f v xs) (hb:Below w.heap.size w w'):Rv w' f v xs:=by
 obtain ⟨A,cap,e,h1,h2,h3,h4⟩:=h
 exact ⟨A,cap,e,h1,h2,h3,h4.keep hb⟩
theorem Rv.at_ (hs:0<s) (hf:∀ x,(f x).length=s) (h:Rv w f v xs) (hi:xs[i]?=some x):∃ g o cap,v=.slice (some ⟨g,o,none⟩) xs.length cap/\xs.length<=cap/\g<w.heap.size/\∀ j u,(f x)[j]?=some u->w.cell? ⟨g,o+(i*s+j),none⟩=some u:=by
 obtain ⟨A,cap,e,h1,h2,h3,h4⟩:=h
 rcases h4 with h4 | ⟨g,o,rfl,hg,hc⟩
 · exfalso
   have hl:=(List.getElem?_eq_some_iff.1 hi).1
   have e:=flat_len hf xs
   rw [h4] at e
   have:=Nat.mul_le_mul (show 1<=xs.length by omega) (show 1<=s from hs)
   simp at e
   omega
 · exact ⟨g,o,cap,e,h1,hg,fun j u hj=>hc _ _ (flat_at hf hi hj)⟩
def Bl (w:World) (T:TypeId) (g:Nat) (us:List Value):Prop:=w.heap[g]?=some (.cells us.toArray T (0,0))
theorem Bl.cell {g:Nat} {us:List Value} (h:Bl w T g us) (hj:us[j]?=some u):w.cell? ((⟨g,0,none⟩:Addr).add j)=some u:=by
 have e:(⟨g,0,none⟩:Addr).add j=⟨g,j,none⟩:=by unfold Addr.add;split<;>simp_all
 have h':w.heap[g]?=_:=h
 rw [e]
 simp [World.cell?,h',hj]
theorem app_el {S:TypeId} {bytes:Nat} {z:Value} (hS:Tryz.prog.underlying S=some (.slice T)) (hI:(Tryz.prog.info? T).map (fun i=>(i.zero,i.size,i.bytes))=some (some z,s,bytes))
 (hby:0<s/\z.cells.size=s/\bytes<=128) (hf:∀ x,(f x).length=s) (hf1:∀ x,∀ u∈f x,u.oneCell'=true) {o:Oper} {a:Act} {K:Act->World->Prop} {Q:Exit->Act->World->Prop} (sO xO:Operand)
 (ho:o.op=.call { callee:=.builtin .append,args:=#[sO,xO],argTypes:=#[S,S] }) {w0:World} {gn:Nat} (hs:a.eval sO=v) (hx:a.eval xO=.slice (some ⟨gn,0,none⟩) 1 1)
 (hown:Rr w w0.heap.size T s f v xs) (hn:Bl w T gn (f x)) (hl:xs.length<=1048576) (hb:Yg w0 w)
 (h:∀ v' w',Rr w' w0.heap.size T s f v' (xs++[x])->Yg w0 w'->(∀ T',T≠T'->KeepT T' w w')->(∀ g,g<w.heap.size->v.ownBlock≠some g->w'.heap[g]?=w.heap[g]?)->K (a.put o.dst v') w'):o.wp Tryz.prog a w K Q:=by
 obtain ⟨i0,hi0,hz0,hz1,hz2⟩:=info_parts hI
 refine wp_append_own _ sO xO S ho w0.heap.size T i0 z s bytes hS hi0 hz0 hz1 hz2 hby.2.1 hby.1 v xs.length (flat f xs) hs hown ⟨gn,0,none⟩ 1 1 (f x) hx (by rw [hf];omega) (fun j u hj=>hn.cell hj) (hf1 x) (by unfold maxLen;omega) ?_ hb.size ?_
 · have:=Nat.mul_le_mul (show xs.length+1<=1048577 by omega) hby.2.2;omega
 · intro v' w' h1 h2 _
   refine h v' w' ?_ (hb.grown h2 hb.size (fun k hk=>(hown.lt k hk).1)) (fun T' hT=>own_keepT_of hown h2 hT) (fun g hg hne=>h2.block g hg (fun e=>hne e.symm))
   unfold Rr
   rw [flat_app,flat_one_,List.length_append]
   exact h1
theorem app_els {S:TypeId} {bytes:Nat} {z:Value} (hS:Tryz.prog.underlying S=some (.slice T)) (hI:(Tryz.prog.info? T).map (fun i=>(i.zero,i.size,i.bytes))=some (some z,s,bytes))
 (hby:0<s/\z.cells.size=s/\bytes<=128) (hf:∀ x,(f x).length=s) (hf1:∀ x,∀ u∈f x,u.oneCell'=true) {ops:Array Oper} {rest:List Oper} {o:Oper} {a:Act} {Q:Exit->Act->World->Prop} (hgd:o.guard=none) (sO xO:Operand)
 (ho:o.op=.call { callee:=.builtin .append,args:=#[sO,xO],argTypes:=#[S,S] }) {w0:World} {gn:Nat} (hs:a.eval sO=v) (hx:a.eval xO=.slice (some ⟨gn,0,none⟩) 1 1)
 (hown:Rr w w0.heap.size T s f v xs) (hn:Bl w T gn (f x)) (hl:xs.length<=1048576) (hb:Yg w0 w)
 (h:∀ v' w',Rr w' w0.heap.size T s f v' (xs++[x])->Yg w0 w'->(∀ T',T≠T'->KeepT T' w w')->(∀ g,g<w.heap.size->v.ownBlock≠some g->w'.heap[g]?=w.heap[g]?)->wpList Tryz.prog ops Q rest (a.put o.dst v') w'):wpList Tryz.prog ops Q (o::rest) a w:=
 wpList_plain hgd fun _ hK=>app_el hS hI hby hf hf1 sO xO ho hs hx hown hn hl hb fun v' w' h1 h2 h3 h4=>hK _ _ (h v' w' h1 h2 h3 h4)
theorem Bl.new (w:World) (T:TypeId) (us:List Value):Bl (w.alloc (.cells us.toArray T)) T w.heap.size us:=World.alloc_heap_new w _
theorem Bl.keep {g:Nat} {us:List Value} (h:Bl w T g us) (hb:Below w.heap.size w w'):Bl w' T g us:=(hb.block g (heap_lt h)).trans h
end
def Zip2 {α β:Type} (P:α->β->Prop) (xs:List α) (ys:List β):Prop:=xs.length=ys.length/\∀ (i:Nat) (x:α) (y:β),xs[i]?=some x->ys[i]?=some y->P x y
section
variable {α β:Type} {P P':α->β->Prop} {xs xs':List α} {ys ys':List β} {x:α} {y:β} {i:Nat}
theorem Zip2.nil:Zip2 P [] []:=⟨rfl,fun i x y h=>by simp at h⟩
theorem Zip2.imp (h:Zip2 P xs ys) (hP:∀ x y,P x y->P' x y):Zip2 P' xs ys:=⟨h.1,fun i x y hx hy=>hP x y (h.2 i x y hx hy)⟩
theorem Zip2.app (h:Zip2 P xs ys) (h':P x y):Zip2 P (xs++[x]) (ys++[y]):=by
 refine ⟨by rw [List.length_append,List.length_append,h.1];rfl,fun i a b ha hb=>?_⟩
 by_cases hi:i<xs.length
 · rw [List.getElem?_append_left hi] at ha
   rw [List.getElem?_append_left (by rw [<- h.1];exact hi)] at hb
   exact h.2 i a b ha hb
 · rw [List.getElem?_append_right (by omega)] at ha
   rw [List.getElem?_append_right (by rw [<- h.1];omega),<- h.1] at hb
   have h0:i - xs.length=0:=by
    have:=(List.getElem?_eq_some_iff.1 ha).1
    simp at this;omega
   rw [h0] at ha hb
   simp at ha hb
   subst ha;subst hb
   exact h'
theorem Zip2.left (h:Zip2 P xs ys) (hy:ys[i]?=some y):∃ x,xs[i]?=some x/\P x y:=by
 have hl:i<xs.length:=by rw [h.1];exact (List.getElem?_eq_some_iff.1 hy).1
 exact ⟨_,List.getElem?_eq_getElem hl,h.2 i _ y (List.getElem?_eq_getElem hl) hy⟩
theorem Zip2.right (h:Zip2 P xs ys) (hx:xs[i]?=some x):∃ y,ys[i]?=some y/\P x y:=by
 have hl:i<ys.length:=by rw [<- h.1];exact (List.getElem?_eq_some_iff.1 hx).1
 exact ⟨_,List.getElem?_eq_getElem hl,h.2 i x _ hx (List.getElem?_eq_getElem hl)⟩
end
structure Fx where
 b:Bool
 xs:List Nat
 ds:List Nat
deriving DecidableEq
def Fx.q (f:Fx):Rat:=rv f.b f.xs f.ds
def Fv (w:World) (v:Value) (f:Fx):Prop:=Ql w v f.b f.xs f.ds
def Fw (w w':World) (v:Value) (f:Fx):Prop:=(∃ s d,v=.agg #[.bool f.b,s,d]/\Ow w' w.heap.size s f.xs/\Ow w' w.heap.size d f.ds)/\Yg w w'
def fq (q:Rat):Fx:=⟨decide (q.num<0),dg WB q.num.natAbs,dg WB q.den⟩
theorem fq_q (q:Rat):(fq q).q=q:=by
 show rv (decide (q.num<0)) (dg WB q.num.natAbs) (dg WB q.den)=q
 unfold rv
 rw [val_dg WB_one,val_dg WB_one,sg_form,den_den,Rat.mkRat_self]
section
variable {w w' W:World} {v:Value} {f:Fx} {q:Rat} {L:Nat}
theorem Fv.keep (h:Fv w v f) (hb:Below w.heap.size w w'):Fv w' v f:=Ql.keep h hb
theorem Fv.qv (h:Fv w v f) (hx:f.xs.length<=L) (hd:f.ds.length<=L):Qv w L v f.q:=Ql.qv h hx hd
theorem Fv.parts (h:Fv w v f):∃ A l c B k d,v=.agg #[.bool f.b,.slice A l c,.slice B k d]:=by
 obtain ⟨s,d,rfl,h1,h2⟩:=h
 obtain ⟨A,c,rfl,-⟩:=h1.shape
 obtain ⟨B,k,rfl,-⟩:=h2.shape
 exact ⟨A,_,c,B,_,k,rfl⟩
theorem Fw.below (h:Fw w w' v f):Below w.heap.size w w':=h.2
theorem Fw.fv (h:Fw w w' v f):Fv w' v f:=by
 obtain ⟨⟨s,d,e,h1,h2⟩,-⟩:=h
 exact ⟨s,d,e,h1.nl,h2.nl⟩
theorem Fw.keep (h:Fw w w' v f) (hb:Below w'.heap.size w' W):Fw w W v f:=by
 obtain ⟨⟨s,d,e,h1,h2⟩,h3⟩:=h
 exact ⟨⟨s,d,e,h1.keep hb,h2.keep hb⟩,Yb h3 hb⟩
theorem Fw.keepT (h:Fw w w' v f) (k:KeepT 125 w' W) (hb:Below w.heap.size w W):Fw w W v f:=by
 obtain ⟨⟨s,d,e,h1,h2⟩,h3⟩:=h
 exact ⟨⟨s,d,e,⟨h1.1,own_keepT h1.2 k⟩,⟨h2.1,own_keepT h2.2 k⟩⟩,hb⟩
theorem Fw.from (h:Fw w' W v f) (hb:Below w.heap.size w w'):Fw w W v f:=by
 obtain ⟨⟨s,d,e,h1,h2⟩,h3⟩:=h
 exact ⟨⟨s,d,e,⟨h1.1,own_mono h1.2 hb.size⟩,⟨h2.1,own_mono h2.2 hb.size⟩⟩,Yb hb h3⟩
theorem Qr.fw (h:Qr w w' v q):Fw w w' v (fq q):=by
 obtain ⟨s,d,e,h1,h2⟩:=h
 exact ⟨⟨s,d,e,h1.1,h2.1⟩,h1.2⟩
end
end
end
end Go.Proofs.YtaajajngnmaggaaGreat
