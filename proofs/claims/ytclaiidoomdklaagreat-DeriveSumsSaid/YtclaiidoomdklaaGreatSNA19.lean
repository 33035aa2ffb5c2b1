import Derived.Test.YtclaiidoomdklaaGreatSNA18
set_option maxRecDepth 100000
set_option maxHeartbeats 8000000
set_option linter.unusedVariables false
set_option linter.unusedSimpArgs false
namespace Go.Proofs.YtclaiidoomdklaaGreat
section
section
open Go Go.RowKit Go.Proofs Pl
theorem form_c {w:World} {v:Value} {c:Cx} {L J:Nat} (h:Cv w v c) (h0:0<L) (hL:L<=1048576) (hn:c.ts.length<=4096) (hw:∀ t∈c.ts,t.2.xs.length<=L/\t.2.ds.length<=L) (hw2:c.r.xs.length<=L/\c.r.ds.length<=L):
 Calls Tryz.prog 70 #[v] w fun e w'=>∃ u,e=.returned u/\Cw w w' u ⟨c.s,fqT (mkV (qT c.ts)),fq c.r.q⟩:=by
 obtain ⟨⟨s,E,n,c',b,A,l,k,B,m,d⟩,rfl,hs,ht,hr⟩:=h
 have hs:s=c.s:=hs
 subst hs
 have ht:Tx w (.slice E n c') c.ts:=ht
 have hr:Fv w (.agg #[.bool b,.slice A l k,.slice B m d]) c.r:=hr
 have HS:=Yh7 ht hr h0 hL hn hw hw2
 clear ht hr h0 hL hn hw hw2
 change Calls Tryz.prog 70 #[.agg #[.int .i64 c.s,.slice E n c',.bool b,.slice A l k,.slice B m d]] w _
 go_enter Tryz.func70,Tryz.ntmps70
 go_upto_region 1 with (fail)
 have X0:=(Bl.new w 39 [.int .i64 c.s,.slice E n c',.bool b,.slice A l k,.slice B m d]).alloc (.cells #[.int .i64 0,.slice none 0 0,.bool false,.slice none 0 0,.slice none 0 0] 39)
 have R0:=Bl.new1 w (.cells #[.int .i64 c.s,.slice E n c',.bool b,.slice A l k,.slice B m d] 39) 39 [.int .i64 0,.slice none 0 0,.bool false,.slice none 0 0,.slice none 0 0]
 have hb0:Yg w ((w.alloc (.cells #[.int .i64 c.s,.slice E n c',.bool b,.slice A l k,.slice B m d] 39)).alloc (.cells #[.int .i64 0,.slice none 0 0,.bool false,.slice none 0 0,.slice none 0 0] 39)):=Yb (Ya _ _) (Ya _ _)
 obtain ⟨gR,hgR⟩:∃ g,g=w.heap.size+1:=⟨_,rfl⟩
 rw [<- hgR] at R0 ⊢
 have S0:=Yh3 X0 R0 hb0
 generalize (w.alloc _).alloc _=W0 at S0 ⊢
 have hgl:w.heap.size<gR:=Yo
 clear X0 R0 hb0 hgR
 refine wp_region_held_drew (S:=fun W=>Ye5 W w.heap.size (.int .i64 c.s) (.slice E n c') (.bool b) (.slice A l k) (.slice B m d)) (by kernel_rfl) ⟨Bl.ld (S0.p0.keep (below_dr _ 1)) 0 rfl,Bl.ld (S0.p0.keep (below_dr _ 1)) 1 rfl,Bl.ld (S0.p0.keep (below_dr _ 1)) 2 rfl,Bl.ld (S0.p0.keep (below_dr _ 1)) 3 rfl,Bl.ld (S0.p0.keep (below_dr _ 1)) 4 rfl⟩ (fun Hh=>?_)
 refine rgRun 6 [0,1,2,3,5,6] Hh fun K hK=>?_
 repeat refine rgA ?_
 refine hK _ _ ?_;clear hK K
 have T0:Hid (Bl W0.drew 39 w.heap.size [.int .i64 c.s,.slice E n c',.bool b,.slice A l k,.slice B m d]/\Bl W0.drew 39 gR [.int .i64 0,.slice none 0 0,.bool false,.slice none 0 0,.slice none 0 0]/\Yg w W0.drew):=⟨S0.p0.keep (below_dr _ 1),S0.p1.keep (below_dr _ 1),Yb S0.q2 (below_dr _ 1)⟩
 generalize W0.drew=Wd at T0 Hh ⊢
 clear S0
 refine rgO 4 fun K hK=>?_
 go_simp
 go_at_call 118;refine (make_v ((HS.p0.keep T0.q2).vt HS.p5) HS.p2 HS.p3 (by unfold qT;rw [List.length_map];exact HS.p4)).mono ?_;rintro e w4 ⟨u4,zs,rfl,h4,h5⟩
 have h6:=h4.tw h5
 obtain ⟨E4,c4,rfl⟩:=h6.shape
 obtain ⟨n4,hn4⟩:∃ n,n=(fqT (mkV (qT c.ts))).length:=⟨_,rfl⟩
 rw [<- hn4] at h6 ⊢
 have T1:Hid ((Bl w4 39 w.heap.size [.int .i64 c.s,.slice E n c',.bool b,.slice A l k,.slice B m d]/\Bl w4 39 gR [.int .i64 0,.slice none 0 0,.bool false,.slice none 0 0,.slice none 0 0]/\Yg w w4)/\Tw w w4 (.slice E4 n4 c4) (fqT (mkV (qT c.ts)))):=⟨⟨T0.p0.keep h6.below,T0.p1.keep h6.below,Yb T0.q2 h6.below⟩,h6.from T0.q2⟩
 clear h4 h5 h6 hn4 Hh T0
 go_wp2_with fail
 refine rgK hK ⟨Bl.ld T1.p0.1 0 rfl,Bl.ld T1.p0.1 1 rfl,Bl.ld T1.p0.1 2 rfl,Bl.ld T1.p0.1 3 rfl,Bl.ld T1.p0.1 4 rfl⟩ fun Hh=>?_;clear hK K
 refine rgO 7 fun K hK=>?_
 go_simp
 go_at_call 119;refine (form_v (a:=.agg #[.bool b,.slice A l k,.slice B m d]) ((HS.p1.keep T1.p0.2.2).qv HS.p6 HS.q7) HS.p2 (by have:=HS.p3;omega)).mono ?_;rintro e w9 ⟨u5,rfl,h7⟩
 have hf:=h7.fw
 obtain ⟨A5,l5,k5,B5,m5,d5,rfl⟩:=hf.fv.parts
 obtain ⟨b5,hb5⟩:∃ b,b=(fq c.r.q).b:=⟨_,rfl⟩
 rw [<- hb5] at hf ⊢
 have T9:Hid ((Bl w9 39 w.heap.size [.int .i64 c.s,.slice E n c',.bool b,.slice A l k,.slice B m d]/\Bl w9 39 gR [.int .i64 0,.slice none 0 0,.bool false,.slice none 0 0,.slice none 0 0]/\Yg w w9)/\Tw w w9 (.slice E4 n4 c4) (fqT (mkV (qT c.ts)))/\Fw w w9 (.agg #[.bool b5,.slice A5 l5 k5,.slice B5 m5 d5]) (fq c.r.q)):=⟨⟨T1.p0.1.keep hf.below,T1.p0.2.1.keep hf.below,Yb T1.p0.2.2 hf.below⟩,T1.q1.keep hf.below,hf.from T1.p0.2.2⟩
 clear h7 hf hb5 Hh T1
 go_wp2_with fail
 refine rgK hK ⟨Bl.ld T9.p0.1 0 rfl,Bl.ld T9.p0.1 1 rfl,Bl.ld T9.p0.1 2 rfl,Bl.ld T9.p0.1 3 rfl,Bl.ld T9.p0.1 4 rfl⟩ fun Hh=>?_;clear hK K
 refine rgT 8 Hh ?_
 refine rgO 9 fun K hK=>?_
 have f0:=Bl.fr T9.p0.2.1 0
 have f1:=Bl.fr T9.p0.2.1 1
 have f2:=Bl.fr T9.p0.2.1 2
 have f3:=Bl.fr T9.p0.2.1 3
 have f4:=Bl.fr T9.p0.2.1 4
 have r0:=Bl.ld T9.p0.2.1 0 rfl
 have r1:=Bl.ld T9.p0.2.1 1 rfl
 have r2:=Bl.ld T9.p0.2.1 2 rfl
 have r3:=Bl.ld T9.p0.2.1 3 rfl
 have r4:=Bl.ld T9.p0.2.1 4 rfl
 go_simp
 clear f0 r0 f1 r1 f2 r2 f3 r3 f4 r4
 have R9:Hid (Bl (cells5 w9 gR (.int .i64 c.s) (.slice E4 n4 c4) (.bool b5) (.slice A5 l5 k5) (.slice B5 m5 d5)) 39 gR [.int .i64 c.s,.slice E4 n4 c4,.bool b5,.slice A5 l5 k5,.slice B5 m5 d5]/\Bl (cells5 w9 gR (.int .i64 c.s) (.slice E4 n4 c4) (.bool b5) (.slice A5 l5 k5) (.slice B5 m5 d5)) 39 w.heap.size [.int .i64 c.s,.slice E n c',.bool b,.slice A l k,.slice B m d]/\Cw w (cells5 w9 gR (.int .i64 c.s) (.slice E4 n4 c4) (.bool b5) (.slice A5 l5 k5) (.slice B5 m5 d5)) (.agg #[.int .i64 c.s,.slice E4 n4 c4,.bool b5,.slice A5 l5 k5,.slice B5 m5 d5]) ⟨c.s,fqT (mkV (qT c.ts)),fq c.r.q⟩):=⟨T9.p0.2.1.set5 rfl _ _ _ _ _,T9.p0.1.other5 Yo _ _ _ _ _,⟨c.s,E4,n4,c4,b5,A5,l5,k5,B5,m5,d5⟩,rfl,rfl,T9.p1.keepT (T9.p0.2.1.keep5 Yd _ _ _ _ _) (T9.p0.2.1.keep5 Yd _ _ _ _ _) (below5 T9.p0.2.2 Yo _ _ _ _ _),T9.q2.keepT (T9.p0.2.1.keep5 Yd _ _ _ _ _) (below5 T9.p0.2.2 Yo _ _ _ _ _)⟩
 refine rgK hK ⟨Bl.ld R9.p1 0 rfl,Bl.ld R9.p1 1 rfl,Bl.ld R9.p1 2 rfl,Bl.ld R9.p1 3 rfl,Bl.ld R9.p1 4 rfl⟩ fun Hh=>?_;clear hK K
 refine Yw ?_
 clear Hh
 go_wp2_with fail
 refine ret_bl R9.p0 (fun W hW=>by have d0:=hW 0 _ rfl;have d1:=hW 1 _ rfl;have d2:=hW 2 _ rfl;have d3:=hW 3 _ rfl;have d4:=hW 4 _ rfl;simp [results,Tryz.results70,go_sem,d0,d1,d2,d3,d4];try rfl) rfl ?_
 exact ⟨_,rfl,R9.q2⟩
namespace I
theorem form_cd {w:World} {v:Value} {c:Cx} {L J:Nat} (h:Cv w v c) (h0:0<L) (hL:L<=10000) (hn:c.ts.length<=4096) (hw:∀ t∈c.ts,t.2.xs.length<=L/\t.2.ds.length<=L) (hw2:c.r.xs.length<=L/\c.r.ds.length<=L) (hz:∀ i,Sz J (getV (qT c.ts) i)) (hz2:Sz J c.r.q) (hK:J<=1048576):
 Calls Tryz.prog 72 #[v] w fun e w'=>∃ u,e=.returned u/\Cw w w' u ⟨c.s,fqT (mkV (qT c.ts)),fq c.r.q⟩:=by
 obtain ⟨⟨s,E,n,c',b,A,l,k,B,m,d⟩,rfl,hs,ht,hr⟩:=h
 have hs:s=c.s:=hs
 subst hs
 have ht:Tx w (.slice E n c') c.ts:=ht
 have hr:Fv w (.agg #[.bool b,.slice A l k,.slice B m d]) c.r:=hr
 have HS:=Yh7 ht hr h0 hL hn hw hw2
 have HK:=Yh3 hz hz2 hK
 clear hz hz2 hK
 clear ht hr h0 hL hn hw hw2
 change Calls Tryz.prog 72 #[.agg #[.int .i64 c.s,.slice E n c',.bool b,.slice A l k,.slice B m d]] w _
 go_enter Tryz.func72,Tryz.ntmps72
 go_upto_region 1 with (fail)
 have X0:=(Bl.new w 39 [.int .i64 c.s,.slice E n c',.bool b,.slice A l k,.slice B m d]).alloc (.cells #[.int .i64 0,.slice none 0 0,.bool false,.slice none 0 0,.slice none 0 0] 39)
 have R0:=Bl.new1 w (.cells #[.int .i64 c.s,.slice E n c',.bool b,.slice A l k,.slice B m d] 39) 39 [.int .i64 0,.slice none 0 0,.bool false,.slice none 0 0,.slice none 0 0]
 have hb0:Yg w ((w.alloc (.cells #[.int .i64 c.s,.slice E n c',.bool b,.slice A l k,.slice B m d] 39)).alloc (.cells #[.int .i64 0,.slice none 0 0,.bool false,.slice none 0 0,.slice none 0 0] 39)):=Yb (Ya _ _) (Ya _ _)
 obtain ⟨gR,hgR⟩:∃ g,g=w.heap.size+1:=⟨_,rfl⟩
 rw [<- hgR] at R0 ⊢
 have S0:=Yh3 X0 R0 hb0
 generalize (w.alloc _).alloc _=W0 at S0 ⊢
 have hgl:w.heap.size<gR:=Yo
 clear X0 R0 hb0 hgR
 refine wp_region_held_drew (S:=fun W=>Ye5 W w.heap.size (.int .i64 c.s) (.slice E n c') (.bool b) (.slice A l k) (.slice B m d)) (by kernel_rfl) ⟨Bl.ld (S0.p0.keep (below_dr _ 1)) 0 rfl,Bl.ld (S0.p0.keep (below_dr _ 1)) 1 rfl,Bl.ld (S0.p0.keep (below_dr _ 1)) 2 rfl,Bl.ld (S0.p0.keep (below_dr _ 1)) 3 rfl,Bl.ld (S0.p0.keep (below_dr _ 1)) 4 rfl⟩ (fun Hh=>?_)
 refine rgRun 6 [0,1,2,3,5,6] Hh fun K hK=>?_
 repeat refine rgA ?_
 refine hK _ _ ?_;clear hK K
 have T0:Hid (Bl W0.drew 39 w.heap.size [.int .i64 c.s,.slice E n c',.bool b,.slice A l k,.slice B m d]/\Bl W0.drew 39 gR [.int .i64 0,.slice none 0 0,.bool false,.slice none 0 0,.slice none 0 0]/\Yg w W0.drew):=⟨S0.p0.keep (below_dr _ 1),S0.p1.keep (below_dr _ 1),Yb S0.q2 (below_dr _ 1)⟩
 generalize W0.drew=Wd at T0 Hh ⊢
 clear S0
 refine rgO 4 fun K hK=>?_
 go_simp
 go_at_call 66;refine (make_e (J:=J) ((HS.p0.keep T0.q2).vt HS.p5) HS.p2 HS.p3 (by unfold qT;rw [List.length_map];exact HS.p4) HK.p0 HK.q2).mono ?_;rintro e w4 ⟨u4,rfl,h6⟩
 obtain ⟨E4,c4,rfl⟩:=h6.shape
 obtain ⟨n4,hn4⟩:∃ n,n=(fqT (mkV (qT c.ts))).length:=⟨_,rfl⟩
 rw [<- hn4] at h6 ⊢
 have T1:Hid ((Bl w4 39 w.heap.size [.int .i64 c.s,.slice E n c',.bool b,.slice A l k,.slice B m d]/\Bl w4 39 gR [.int .i64 0,.slice none 0 0,.bool false,.slice none 0 0,.slice none 0 0]/\Yg w w4)/\Tw w w4 (.slice E4 n4 c4) (fqT (mkV (qT c.ts)))):=⟨⟨T0.p0.keep h6.below,T0.p1.keep h6.below,Yb T0.q2 h6.below⟩,h6.from T0.q2⟩
 clear h6 hn4 Hh T0
 go_wp2_with fail
 refine rgK hK ⟨Bl.ld T1.p0.1 0 rfl,Bl.ld T1.p0.1 1 rfl,Bl.ld T1.p0.1 2 rfl,Bl.ld T1.p0.1 3 rfl,Bl.ld T1.p0.1 4 rfl⟩ fun Hh=>?_;clear hK K
 refine rgO 7 fun K hK=>?_
 go_simp
 go_at_call 28;refine (of_e (a:=.agg #[.bool b,.slice A l k,.slice B m d]) ((HS.p1.keep T1.p0.2.2).qv HS.p6 HS.q7) HS.p2 (by have:=HS.p3;omega)).mono ?_;rintro e w5 ⟨u5,rfl,h7,hb⟩
 obtain ⟨p5,A5,l5,k5,B5,m5,d5,rfl⟩:=h7.parts
 have T2:Hid ((Bl w5 39 w.heap.size [.int .i64 c.s,.slice E n c',.bool b,.slice A l k,.slice B m d]/\Bl w5 39 gR [.int .i64 0,.slice none 0 0,.bool false,.slice none 0 0,.slice none 0 0]/\Yg w w5)/\Tw w w5 (.slice E4 n4 c4) (fqT (mkV (qT c.ts)))/\Qe w5 (5*L) (.agg #[.bool p5,.slice A5 l5 k5,.slice B5 m5 d5]) c.r.q):=⟨⟨T1.p0.1.keep hb,T1.p0.2.1.keep hb,Yb T1.p0.2.2 hb⟩,T1.q1.keep hb,h7⟩
 clear h7 hb Hh T1
 go_wp2_with fail
 refine rgK hK ⟨Bl.ld T2.p0.1 0 rfl,Bl.ld T2.p0.1 1 rfl,Bl.ld T2.p0.1 2 rfl,Bl.ld T2.p0.1 3 rfl,Bl.ld T2.p0.1 4 rfl⟩ fun Hh=>?_;clear hK K
 refine rgO 8 fun K hK=>?_
 go_simp
 go_at_call 29;refine (to_r (K:=J) T2.q2 (by have:=HS.p3;omega) HK.p1 HK.q2).mono ?_;rintro e w9 ⟨u6,rfl,h7⟩
 have hf:=h7.fw
 obtain ⟨A6,l6,k6,B6,m6,d6,rfl⟩:=hf.fv.parts
 obtain ⟨b6,hb6⟩:∃ b,b=(fq c.r.q).b:=⟨_,rfl⟩
 rw [<- hb6] at hf ⊢
 have T9:Hid ((Bl w9 39 w.heap.size [.int .i64 c.s,.slice E n c',.bool b,.slice A l k,.slice B m d]/\Bl w9 39 gR [.int .i64 0,.slice none 0 0,.bool false,.slice none 0 0,.slice none 0 0]/\Yg w w9)/\Tw w w9 (.slice E4 n4 c4) (fqT (mkV (qT c.ts)))/\Fw w w9 (.agg #[.bool b6,.slice A6 l6 k6,.slice B6 m6 d6]) (fq c.r.q)):=⟨⟨T2.p0.1.keep hf.below,T2.p0.2.1.keep hf.below,Yb T2.p0.2.2 hf.below⟩,T2.p1.keep hf.below,hf.from T2.p0.2.2⟩
 clear h7 hf hb6 Hh T2
 go_wp2_with fail
 refine rgK hK ⟨Bl.ld T9.p0.1 0 rfl,Bl.ld T9.p0.1 1 rfl,Bl.ld T9.p0.1 2 rfl,Bl.ld T9.p0.1 3 rfl,Bl.ld T9.p0.1 4 rfl⟩ fun Hh=>?_;clear hK K
 refine rgT 9 Hh ?_
 refine rgO 10 fun K hK=>?_
 have f0:=Bl.fr T9.p0.2.1 0
 have f1:=Bl.fr T9.p0.2.1 1
 have f2:=Bl.fr T9.p0.2.1 2
 have f3:=Bl.fr T9.p0.2.1 3
 have f4:=Bl.fr T9.p0.2.1 4
 have r0:=Bl.ld T9.p0.2.1 0 rfl
 have r1:=Bl.ld T9.p0.2.1 1 rfl
 have r2:=Bl.ld T9.p0.2.1 2 rfl
 have r3:=Bl.ld T9.p0.2.1 3 rfl
 have r4:=Bl.ld T9.p0.2.1 4 rfl
 go_simp
 clear f0 r0 f1 r1 f2 r2 f3 r3 f4 r4
 have R9:Hid (Bl (cells5 w9 gR (.int .i64 c.s) (.slice E4 n4 c4) (.bool b6) (.slice A6 l6 k6) (.slice B6 m6 d6)) 39 gR [.int .i64 c.s,.slice E4 n4 c4,.bool b6,.slice A6 l6 k6,.slice B6 m6 d6]/\Bl (cells5 w9 gR (.int .i64 c.s) (.slice E4 n4 c4) (.bool b6) (.slice A6 l6 k6) (.slice B6 m6 d6)) 39 w.heap.size [.int .i64 c.s,.slice E n c',.bool b,.slice A l k,.slice B m d]/\Cw w (cells5 w9 gR (.int .i64 c.s) (.slice E4 n4 c4) (.bool b6) (.slice A6 l6 k6) (.slice B6 m6 d6)) (.agg #[.int .i64 c.s,.slice E4 n4 c4,.bool b6,.slice A6 l6 k6,.slice B6 m6 d6]) ⟨c.s,fqT (mkV (qT c.ts)),fq c.r.q⟩):=⟨T9.p0.2.1.set5 rfl _ _ _ _ _,T9.p0.1.other5 Yo _ _ _ _ _,⟨c.s,E4,n4,c4,b6,A6,l6,k6,B6,m6,d6⟩,rfl,rfl,T9.p1.keepT (T9.p0.2.1.keep5 Yd _ _ _ _ _) (T9.p0.2.1.keep5 Yd _ _ _ _ _) (below5 T9.p0.2.2 Yo _ _ _ _ _),T9.q2.keepT (T9.p0.2.1.keep5 Yd _ _ _ _ _) (below5 T9.p0.2.2 Yo _ _ _ _ _)⟩
 refine rgK hK ⟨Bl.ld R9.p1 0 rfl,Bl.ld R9.p1 1 rfl,Bl.ld R9.p1 2 rfl,Bl.ld R9.p1 3 rfl,Bl.ld R9.p1 4 rfl⟩ fun Hh=>?_;clear hK K
 refine Yw ?_
 clear Hh
 go_wp2_with fail
 refine ret_bl R9.p0 (fun W hW=>by have d0:=hW 0 _ rfl;have d1:=hW 1 _ rfl;have d2:=hW 2 _ rfl;have d3:=hW 3 _ rfl;have d4:=hW 4 _ rfl;simp [results,Tryz.results72,go_sem,d0,d1,d2,d3,d4];try rfl) rfl ?_
 exact ⟨_,rfl,R9.q2⟩
end I
theorem sameCons_c {w:World} {a c:Value} {x y:Cx} (ha:Cv w a x) (hc:Cv w c y):
 Calls Tryz.prog 16 #[a,c] w fun e w'=>e=.returned (.bool (decide (x=y)))/\Yg w w':=by
 obtain ⟨⟨s,E,n,c1,b,A,l,k,B,m,d⟩,rfl,hs,ht,hr⟩:=ha
 obtain ⟨⟨s',E',n',c1',b',A',l',k',B',m',d'⟩,rfl,hs',ht',hr'⟩:=hc
 have hs:s=x.s:=hs
 have hs':s'=y.s:=hs'
 subst hs;subst hs'
 have HS:=Yh4 (show Tx w (.slice E n c1) x.ts from ht) (show Tx w (.slice E' n' c1') y.ts from ht') (show Fv w (.agg #[.bool b,.slice A l k,.slice B m d]) x.r from hr) (show Fv w (.agg #[.bool b',.slice A' l' k',.slice B' m' d']) y.r from hr')
 obtain ⟨D,hD⟩:∃ D,D=decide (x=y):=⟨_,rfl⟩
 rw [<- hD]
 have HD:=Lib.hid hD
 clear ht hr ht' hr' hD
 change Calls Tryz.prog 16 #[.agg #[.int .i64 x.s,.slice E n c1,.bool b,.slice A l k,.slice B m d],.agg #[.int .i64 y.s,.slice E' n' c1',.bool b',.slice A' l' k',.slice B' m' d']] w _
 go_enter Tryz.func16,Tryz.ntmps16
 go_upto_region 1 with (fail)
 have X0:=(Bl.new w 39 [.int .i64 x.s,.slice E n c1,.bool b,.slice A l k,.slice B m d]).alloc (.cells #[.int .i64 y.s,.slice E' n' c1',.bool b',.slice A' l' k',.slice B' m' d'] 39)
 have Y0:=Bl.new1 w (.cells #[.int .i64 x.s,.slice E n c1,.bool b,.slice A l k,.slice B m d] 39) 39 [.int .i64 y.s,.slice E' n' c1',.bool b',.slice A' l' k',.slice B' m' d']
 have hb0:Yg w ((w.alloc (.cells #[.int .i64 x.s,.slice E n c1,.bool b,.slice A l k,.slice B m d] 39)).alloc (.cells #[.int .i64 y.s,.slice E' n' c1',.bool b',.slice A' l' k',.slice B' m' d'] 39)):=Yb (Ya _ _) (Ya _ _)
 obtain ⟨gR,hgR⟩:∃ g,g=w.heap.size+1:=⟨_,rfl⟩
 rw [<- hgR] at Y0 ⊢
 have S0:=Yh3 X0 Y0 hb0
 generalize (w.alloc _).alloc _=W0 at S0 ⊢
 clear X0 Y0 hb0 hgR
 have x0:=Bl.ld S0.p0 0 rfl
 have x1:=Bl.ld S0.p0 1 rfl
 have x2:=Bl.ld S0.p0 2 rfl
 have x3:=Bl.ld S0.p0 3 rfl
 have x4:=Bl.ld S0.p0 4 rfl
 have y0:=Bl.ld S0.p1 0 rfl
 have y1:=Bl.ld S0.p1 1 rfl
 have y2:=Bl.ld S0.p1 2 rfl
 have y3:=Bl.ld S0.p1 3 rfl
 have y4:=Bl.ld S0.p1 4 rfl
 by_cases hse:x.s=y.s
 · skip
   have e1:(x.s==y.s)=true:=by rw [hse];exact beq_self_eq_true _
   have HE:=Lib.hid hse
   clear hse
   go_wp2_with fail
   refine (same_t (HS.p0.keep S0.q2) (HS.p1.keep S0.q2)).mono ?_;rintro e w4 ⟨rfl,hb⟩
   have S1:=Yh3 (S0.p0.keep hb) (S0.p1.keep hb) (Yb S0.q2 hb)
   clear hb S0
   obtain ⟨r,hr⟩:∃ r,r=decide (x.ts=y.ts):=⟨_,rfl⟩
   rw [<- hr]
   have HR:=Lib.hid hr
   clear x0 y0 x1 y1 x2 y2 x3 y3 x4 y4
   clear hr
   have x0:=Bl.ld S1.p0 0 rfl
   have x1:=Bl.ld S1.p0 1 rfl
   have x2:=Bl.ld S1.p0 2 rfl
   have x3:=Bl.ld S1.p0 3 rfl
   have x4:=Bl.ld S1.p0 4 rfl
   have y0:=Bl.ld S1.p1 0 rfl
   have y1:=Bl.ld S1.p1 1 rfl
   have y2:=Bl.ld S1.p1 2 rfl
   have y3:=Bl.ld S1.p1 3 rfl
   have y4:=Bl.ld S1.p1 4 rfl
   cases r with
   | true=>
    go_wp2_with fail
    refine (same_f (a:=.agg #[.bool b,.slice A l k,.slice B m d]) (c:=.agg #[.bool b',.slice A' l' k',.slice B' m' d']) (HS.p2.keep S1.q2) (HS.q3.keep S1.q2)).mono ?_;rintro e w5 ⟨rfl,hb⟩
    have hb2:=Lib.hid (Yb S1.q2 hb)
    clear hb S1 x0 y0 x1 y1 x2 y2 x3 y3 x4 y4
    obtain ⟨r,hr⟩:∃ r,r=decide (x.r=y.r):=⟨_,rfl⟩
    rw [<- hr]
    have HR2:=Lib.hid hr
    clear hr
    go_wp2_with fail
    go_ret
    have e:D=r:=by
     rw [HD.out,HR2.out]
     have h1:=of_decide_eq_true HR.out.symm
     obtain ⟨s1,t1,r1⟩:=x
     obtain ⟨s2,t2,r2⟩:=y
     have h2:s1=s2:=HE.out
     have h1:t1=t2:=h1
     subst h1;subst h2
     by_cases hr:r1=r2
     · subst hr;rw [decide_eq_true rfl,decide_eq_true rfl]
     · rw [decide_eq_false hr,decide_eq_false (fun e=>hr (congrArg Cx.r e))]
    subst e
    exact ⟨rfl,hb2.out⟩
   | false=>
    have hne:x≠y:=fun e=>of_decide_eq_false HR.out.symm (by rw [e])
    have HN:=Lib.hid (decide_eq_false hne)
    clear hne
    go_wp2_with fail
    go_ret
    obtain rfl:D=false:=HD.out.trans HN.out
    exact ⟨rfl,S1.q2⟩
 have e1:(x.s==y.s)=false:=beq_eq_false_iff_ne.2 hse
 have hne:x≠y:=fun e=>hse (by rw [e])
 have HN:=Lib.hid (decide_eq_false hne)
 clear hne hse
 go_wp2_with fail
 go_ret
 obtain rfl:D=false:=HD.out.trans HN.out
 exact ⟨rfl,S0.q2⟩
theorem sensible_c {w:World} (s:Int):Calls Tryz.prog 129 #[.int .i64 s] w fun e w'=>e=.returned (.bool (decide (0<s/\s<4)))/\w'=w:=by
 obtain ⟨D,hD⟩:∃ D,D=decide (0<s/\s<4):=⟨_,rfl⟩
 rw [<- hD]
 have HD:=Lib.hid hD
 clear hD
 by_cases h1:0<s
 · by_cases h2:s<4
   · have d1:decide (1<=s)=true:=decide_eq_true Yo
     have d2:decide (s<=3)=true:=decide_eq_true Yo
     obtain rfl:D=true:=HD.out.trans (decide_eq_true ⟨h1,h2⟩)
     clear h1 h2
     go_enter Tryz.func129,Tryz.ntmps129
     go_wp2_with fail
     go_ret
     first | done | exact ⟨rfl,rfl⟩
   · have d1:decide (1<=s)=true:=decide_eq_true Yo
     have d2:decide (s<=3)=false:=decide_eq_false Yo
     obtain rfl:D=false:=HD.out.trans (decide_eq_false (fun h=>h2 h.2))
     clear h1 h2
     go_enter Tryz.func129,Tryz.ntmps129
     go_wp2_with fail
     go_ret
     first | done | exact ⟨rfl,rfl⟩
 · have d1:decide (1<=s)=false:=decide_eq_false Yo
   obtain rfl:D=false:=HD.out.trans (decide_eq_false (fun h=>h1 h.1))
   clear h1
   go_enter Tryz.func129,Tryz.ntmps129
   go_wp2_with fail
   go_ret
   first | done | exact ⟨rfl,rfl⟩
namespace I
theorem sense_d {w:World} (s:Int):Calls Tryz.prog 107 #[.int .i64 s] w fun e w'=>e=.returned (.bool (decide (0<s/\s<4)))/\w'=w:=by
 obtain ⟨D,hD⟩:∃ D,D=decide (0<s/\s<4):=⟨_,rfl⟩
 rw [<- hD]
 have HD:=Lib.hid hD
 clear hD
 by_cases h1:0<s
 · by_cases h2:s<4
   · have d1:decide (0<s)=true:=decide_eq_true Yo
     have d2:decide (s<4)=true:=decide_eq_true Yo
     obtain rfl:D=true:=HD.out.trans (decide_eq_true ⟨h1,h2⟩)
     clear h1 h2
     go_enter Tryz.func107,Tryz.ntmps107
     go_wp2_with fail
     go_ret
     first | done | exact ⟨rfl,rfl⟩
   · have d1:decide (0<s)=true:=decide_eq_true Yo
     have d2:decide (s<4)=false:=decide_eq_false Yo
     obtain rfl:D=false:=HD.out.trans (decide_eq_false (fun h=>h2 h.2))
     clear h1 h2
     go_enter Tryz.func107,Tryz.ntmps107
     go_wp2_with fail
     go_ret
     first | done | exact ⟨rfl,rfl⟩
 · have d1:decide (0<s)=false:=decide_eq_false Yo
   obtain rfl:D=false:=HD.out.trans (decide_eq_false (fun h=>h1 h.1))
   clear h1
   go_enter Tryz.func107,Tryz.ntmps107
   go_wp2_with fail
   go_ret
   first | done | exact ⟨rfl,rfl⟩
end I
def signC (f i:Int):Int × Bool:=if f=3 then (0,true) else if i=3 then (0,false) else if f=i then (1,false) else (-1,false)
theorem sign_c {w:World} (f i:Int):Calls Tryz.prog 130 #[.int .i64 f,.int .i64 i] w fun e w'=>e=.returned (.tuple #[.int .i64 (signC f i).1,.bool (signC f i).2])/\w'=w:=by
 by_cases h1:f=3
 · have e1:(f==3)=true:=by rw [h1];rfl
   have hs:signC f i=(0,true):=if_pos h1
   rw [hs]
   clear hs h1
   go_enter Tryz.func130,Tryz.ntmps130
   go_wp2_with fail
   go_ret2
   first | done | exact ⟨rfl,rfl⟩
 · have e1:(f==3)=false:=beq_eq_false_iff_ne.2 h1
   by_cases h2:i=3
   · have e2:(i==3)=true:=by rw [h2];rfl
     have hs:signC f i=(0,false):=by unfold signC;rw [if_neg h1,if_pos h2]
     rw [hs]
     clear hs h1 h2
     go_enter Tryz.func130,Tryz.ntmps130
     go_wp2_with fail
     go_ret2
     first | done | exact ⟨rfl,rfl⟩
   · have e2:(i==3)=false:=beq_eq_false_iff_ne.2 h2
     by_cases h3:f=i
     · have e3:(f==i)=true:=by rw [h3];exact beq_self_eq_true _
       have hs:signC f i=(1,false):=by unfold signC;rw [if_neg h1,if_neg h2,if_pos h3]
       rw [hs]
       clear hs h1 h2 h3
       go_enter Tryz.func130,Tryz.ntmps130
       go_wp2_with fail
       go_ret2
       first | done | exact ⟨rfl,rfl⟩
     · have e3:(f==i)=false:=beq_eq_false_iff_ne.2 h3
       have hs:signC f i=(-1,false):=by unfold signC;rw [if_neg h1,if_neg h2,if_neg h3]
       rw [hs]
       clear hs h1 h2 h3
       go_enter Tryz.func130,Tryz.ntmps130
       go_wp2_with fail
       go_ret2
       first | done | exact ⟨rfl,rfl⟩
end
end
section
section
open Go Go.RowKit Go.Proofs Pl
theorem fq_len {L:Nat} {q:Rat} (h:Sz L q):(fq q).xs.length<=L/\(fq q).ds.length<=L:=⟨dg_length_le WB_one h.1,dg_length_le WB_one h.2⟩
def rowT (l:LPx) (col:Int):Tms:=if col<l.n then [(col,1)] else (List.range l.n.toNat).map fun (i:Nat)=>((i:Int),getV (qT (l.cols.getD i [])) (col - l.n))
def okB (l:LPx) (col:Int):Prop:=0<=col/\col<l.cols.length/\l.lo.length=l.cols.length/\l.hi.length=l.cols.length/\l.hasLo.length=l.cols.length/\l.hasHi.length=l.cols.length/\0<=l.n/\l.n<=l.cols.length
instance (l:LPx) (col:Int):Decidable (okB l col):=by unfold okB;infer_instance
def hasX (l:LPx) (col:Int) (up:Bool):Bool:=bif up then l.hasHi.getD col.toNat false else l.hasLo.getD col.toNat false
def rhsX (l:LPx) (col:Int) (up:Bool):Fx:=bif up then l.hi.getD col.toNat ⟨false,[],[]⟩ else l.lo.getD col.toNat ⟨false,[],[]⟩
def cB (l:LPx) (col:Int) (up:Bool):Cx:=⟨bif up then 1 else 2,fqT (mkV (rowT l col)),fq (rhsX l col up).q⟩
def boundX (l:LPx) (col:Int) (up:Bool):Option Cx:=if okB l col/\hasX l col up=true then some (cB l col up) else none
def tellX (o:Option Cx):Cx × Int:=match o with | some c=>(c,0) | none=>(Cx.no,2)
def badC (sense:Int) (c:Cx) (f:Fx):Bool:=if sense=3 then true else if c.s=sense then decide (f.q<0) else decide (0<f.q)
abbrev Acc:=Bool × Tms × Rat
def stepC (sense:Int) (st:Acc) (p:Cx × Fx):Acc:=
 if p.2.q=0 then st else (st.1 || badC sense p.1 p.2,mkV (st.2.1++scaleT p.2.q (qT p.1.ts)),st.2.2+p.2.q*p.1.r.q)
def runC (sense:Int) (ps:List (Cx × Fx)):Acc:=ps.foldl (stepC sense) (false,[],0)
theorem runC_succ {sense:Int} {ps:List (Cx × Fx)} {k:Nat} {p:Cx × Fx} (h:ps[k]?=some p):runC sense (ps.take (k+1))=stepC sense (runC sense (ps.take k)) p:=by
 unfold runC
 rw [take_f h,List.foldl_append];rfl
theorem runC_bad {sense:Int} (ps:List (Cx × Fx)) (st:Acc) (h:st.1=true):(ps.foldl (stepC sense) st).1=true:=by
 induction ps generalizing st with
 | nil=>exact h
 | cons p ps ih=>
  refine ih _ ?_
  unfold stepC
  split
  · exact h
  · rw [h];rfl
def combX (cs:List Cx) (fs:List Fx) (sense:Int):Cx × Int:=
 if 0<sense/\sense<4 then (if (runC sense (cs.zip fs)).1=true then (Cx.no,241) else (⟨sense,fqT (runC sense (cs.zip fs)).2.1,fq (runC sense (cs.zip fs)).2.2⟩,0)) else (Cx.no,2)
def SumIs (l:LPx) (us:List Ux) (sense:Int) (r:Cx × Int):Prop:=
 ((∃ u∈us,boundX l u.c u.u=none)/\r=(Cx.no,2))∨∃ cs,Zip2 (fun (u:Ux) c=>boundX l u.c u.u=some c) us cs/\r=combX cs (us.map Ux.f) sense
theorem sumIs_one {l:LPx} {us:List Ux} {sense:Int} {r r':Cx × Int} (h:SumIs l us sense r) (h':SumIs l us sense r'):r=r':=by
 have key:∀ {cs:List Cx},Zip2 (fun (u:Ux) c=>boundX l u.c u.u=some c) us cs->¬ ∃ u∈us,boundX l u.c u.u=none:=fun {cs} hz ⟨u,hu,hn⟩=>by
  obtain ⟨i,hi⟩:=List.getElem?_of_mem hu
  obtain ⟨c,-,hc⟩:=hz.right hi
  rw [hn] at hc;cases hc
 rcases h with ⟨h1,rfl⟩ | ⟨cs,h1,rfl⟩
 · rcases h' with ⟨h2,rfl⟩ | ⟨cs',h2,rfl⟩
   · rfl
   · exact absurd h1 (key h2)
 · rcases h' with ⟨h2,rfl⟩ | ⟨cs',h2,rfl⟩
   · exact absurd h2 (key h1)
   · have:cs=cs':=by
      refine List.ext_getElem? fun i=>?_
      by_cases hi:i<us.length
      · obtain ⟨c,hc,e⟩:=h1.right (List.getElem?_eq_getElem hi)
        obtain ⟨c',hc',e'⟩:=h2.right (List.getElem?_eq_getElem hi)
        rw [e] at e';injection e' with e';rw [hc,hc',e']
      · rw [List.getElem?_eq_none (by rw [<- h1.1];omega),List.getElem?_eq_none (by rw [<- h2.1];omega)]
     rw [this]
theorem sz_at {L:Nat} (h1:1<=L):∀ {l:Tms},(l.Pairwise fun a b=>a.1<b.1)->(∀ t∈l,Sz L t.2)->∀ c,Sz L (sumAt l c)
 | [],_,_,c=>sz_zero.mono h1
 | (k,q)::l,hp,hs,c=>by
  by_cases hk:k=c
  · subst hk
    rw [sumAt_head hp];exact hs (k,q) (by simp)
  · show Sz L ((if k=c then q else 0)+sumAt l c)
    rw [if_neg hk,Rat.zero_add]
    exact sz_at h1 hp.tail (fun t ht=>hs t (List.mem_cons_of_mem _ ht)) c
theorem rowT_up (l:LPx) (col:Int):(rowT l col).Pairwise fun a b=>a.1<b.1:=by
 unfold rowT
 split
 · exact List.pairwise_singleton _ _
 · rw [List.pairwise_map]
   exact List.pairwise_lt_range.imp fun {a b} h=>by show (a:Int)<(b:Int);omega
theorem rowT_len {l:LPx} {col:Int} {m:Nat} (h:l.n<=m) (h1:1<=m):(rowT l col).length<=m:=by
 unfold rowT
 split
 · exact h1
 · rw [List.length_map,List.length_range];omega
def Fit (l:LPx):Prop:=l.cols.length<=14/\(∀ c∈l.cols,c.length<=30/\∀ t∈c,t.2.xs.length<=6/\t.2.ds.length<=6)/\∀ f,f∈l.lo∨f∈l.hi∨f∈l.cost->f.xs.length<=6/\f.ds.length<=6
theorem up_mem {l:Tms} (hp:l.Pairwise fun a b=>a.1<b.1) {t:Int × Rat} (ht:t∈l):sumAt l t.1=t.2:=by
 induction l with
 | nil=>cases ht
 | cons a l ih=>
  obtain ⟨k,q⟩:=a
  rcases List.mem_cons.1 ht with rfl | ht
  · exact sumAt_head hp
  · have:=List.rel_of_pairwise_cons hp ht
    show (if k=t.1 then q else 0)+sumAt l t.1=t.2
    rw [if_neg (by have:k<t.1:=this;omega),Rat.zero_add];exact ih hp.tail ht
theorem sumAt_scale (q:Rat) (l:Tms) (c:Int):sumAt (scaleT q l) c=q*sumAt l c:=by
 induction l with
 | nil=>exact (Rat.mul_zero q).symm
 | cons t l ih=>
  obtain ⟨k,r⟩:=t
  show (if k=c then q*r else 0)+sumAt (scaleT q l) c=q*((if k=c then r else 0)+sumAt l c)
  rw [ih,Rat.mul_add]
  congr 1
  split
  · rfl
  · exact (Rat.mul_zero q).symm
theorem getV_app (a b:Tms) (c:Int):getV (a++b) c=getV a c+getV b c:=by
 unfold getV
 split
 · exact sumAt_app a b c
 · exact (Rat.add_zero 0).symm
theorem sz_getV {L:Nat} {l:Tms} (h1:1<=L) (hp:l.Pairwise fun a b=>a.1<b.1) (hs:∀ t∈l,Sz L t.2) (c:Int):Sz L (getV l c):=by
 unfold getV
 split
 · exact sz_at h1 hp hs c
 · exact sz_zero.mono h1
theorem sz_axpy {M L K:Nat} {q:Rat} {a b:Tms} (hM:1<=M) (hL:1<=L) (ha:Vec a) (hb:Vec b) (sa:∀ t∈a,Sz M t.2) (sb:∀ t∈b,Sz L t.2) (hq:Sz K q) (c:Int):Sz (M+(K+L)+1) (getV (a++scaleT q b) c):=by
 rw [getV_app]
 refine (sz_getV hM ha.up sa c).add ?_
 unfold getV
 split
 · rw [sumAt_scale];exact hq.mul (sz_at hL hb.up sb c)
 · exact sz_zero.mono Yo
theorem sz_axpy_mk {M L K:Nat} {q:Rat} {a b:Tms} (hM:1<=M) (hL:1<=L) (ha:Vec a) (hb:Vec b) (sa:∀ t∈a,Sz M t.2) (sb:∀ t∈b,Sz L t.2) (hq:Sz K q):∀ t∈mkV (a++scaleT q b),Sz (M+(K+L)+1) t.2:=fun t ht=>by
 have hv:=vec_mk (a++scaleT q b)
 have h0:=hv.pos t ht
 rw [<- up_mem hv.up ht,sumAt_mk _ _ h0]
 have:=sz_axpy hM hL ha hb sa sb hq t.1
 unfold getV at this
 rwa [if_pos h0] at this
structure SzC (L M:Nat) (c:Cx):Prop where
 sense:c.s=1∨c.s=2
 vec:Vec (qT c.ts)
 ts:∀ t∈qT c.ts,Sz L t.2
 r:Sz L c.r.q
 len:c.ts.length<=M
 words:∀ t∈c.ts,t.2.xs.length<=L/\t.2.ds.length<=L
 rw_:c.r.xs.length<=L/\c.r.ds.length<=L
structure SzA (K M:Nat) (a:Acc):Prop where
 vec:Vec a.2.1
 ts:∀ t∈a.2.1,Sz K t.2
 r:Sz K a.2.2
 len:a.2.1.length<=M
theorem SzA.mono {K K' M M':Nat} {a:Acc} (h:SzA K M a) (h1:K<=K') (h2:M<=M'):SzA K' M' a:=⟨h.vec,fun t ht=>(h.ts t ht).mono h1,h.r.mono h1,Nat.le_trans h.len h2⟩
theorem szA_start:SzA 1 0 (false,[],0):=⟨Vec.nil,fun t ht=>(by cases ht),sz_zero,Nat.le_refl _⟩
theorem szA_step {sense:Int} {K M L N La:Nat} {a:Acc} {p:Cx × Fx} (h:SzA K M a) (hK:1<=K) (hL:1<=L) (hc:SzC L N p.1) (hf:Sz La p.2.q):SzA (K+(La+L)+1) (M+N) (stepC sense a p):=by
 unfold stepC
 split
 · exact h.mono Yo Yo
 · refine ⟨vec_mk _,sz_axpy_mk hK hL h.vec hc.vec h.ts hc.ts hf,h.r.add (hf.mul hc.r),?_⟩
   refine Nat.le_trans (mkV_len _) ?_
   have h1:=h.len
   have h2:=hc.len
   rw [List.length_append]
   simp only [scaleT,qT,List.length_map]
   omega
theorem szA_run {sense:Int} {L N La:Nat} (hL:1<=L) {ps:List (Cx × Fx)} (hp:∀ p∈ps,SzC L N p.1/\Sz La p.2.q):∀ k,k<=ps.length->SzA (1+k*(La+L+1)) (k*N) (runC sense (ps.take k)):=fun k=>by
 induction k with
 | zero=>intro _;have:=szA_start;simpa [runC] using this
 | succ k ih=>
  intro hk
  have hx:ps[k]?=some ps[k]:=List.getElem?_eq_getElem Yo
  rw [runC_succ hx]
  obtain ⟨h1,h2⟩:=hp _ (List.mem_of_getElem? hx)
  have h3:=szA_step (sense:=sense) (ih Yo) Yo hL h1 h2
  exact h3.mono (by rw [Nat.succ_mul];omega) (by rw [Nat.succ_mul];omega)
theorem szT_fq {L:Nat} {l:Tms} (h:∀ t∈l,Sz L t.2):∀ t∈fqT l,t.2.xs.length<=L/\t.2.ds.length<=L:=fun t ht=>by
 obtain ⟨u,hu,rfl⟩:=List.mem_map.1 ht
 exact fq_len (h u hu)
theorem sz_vecs {L:Nat} {l:Tms} (h1:1<=L) (hp:l.Pairwise fun a b=>a.1<b.1) (hs:∀ t∈l,Sz L t.2):∀ t∈mkV l,Sz L t.2:=fun t ht=>by
 have hv:=vec_mk l
 have h0:=hv.pos t ht
 rw [<- up_mem hv.up ht,sumAt_mk _ _ h0]
 exact sz_at h1 hp hs _
theorem rowT_sz {l:LPx} {L M:Nat} {col:Int} (hc:∀ c∈l.cols,c.length<=M/\∀ t∈c,Sz L t.2.q):∀ t∈rowT l col,Sz (1+M*(L+1)) t.2:=fun t ht=>by
 unfold rowT at ht
 split at ht
 · rw [List.mem_singleton.1 ht];exact sz_one.mono Yo
 · obtain ⟨i,-,rfl⟩:=List.mem_map.1 ht
   show Sz _ (getV (qT (l.cols.getD i [])) _)
   have hm:l.cols.getD i []=[]∨l.cols.getD i []∈l.cols:=by
    rw [List.getD_eq_getElem?_getD]
    cases h:l.cols[i]? with
    | none=>exact .inl rfl
    | some c=>exact .inr (List.mem_of_getElem? h)
   rcases hm with e | hm
   · rw [e];unfold getV;split<;>exact sz_zero.mono Yo
   · obtain ⟨h1,h2⟩:=hc _ hm
     refine (sz_get (L:=L) (fun t ht=>?_) _).mono ?_
     · obtain ⟨u,hu,rfl⟩:=List.mem_map.1 ht;exact h2 u hu
     · have:(qT (l.cols.getD i [])).length<=M:=by unfold qT;rw [List.length_map];exact h1
       have:=Nat.mul_le_mul_right (L+1) this
       omega
def SzL (l:LPx):Prop:=(∀ c∈l.cols,∀ t∈c,Sz 6 t.2.q)/\∀ f,f∈l.lo∨f∈l.hi∨f∈l.cost->Sz 6 f.q
theorem fit_sz {w:World} {v:Value} {l:LPx} (h:LPv w v l) (hf:Fit l):SzL l:=by
 obtain ⟨x,h1,h2,h3,h4,h5,h6,h7,h8⟩:=h
 have rx:∀ {u:Value} {fs:List Fx},Rx w u fs->(∀ f∈fs,f.xs.length<=6/\f.ds.length<=6)->∀ f∈fs,Sz 6 f.q:=fun {u fs} hr hl f hm=>by
  obtain ⟨i,hi⟩:=List.getElem?_of_mem hm
  obtain ⟨g,o,cap,x,-,-,hv,-⟩:=hr.at_ hi
  exact (hv.qv (hl f hm).1 (hl f hm).2).sz Yd
 refine ⟨fun c hc t ht=>?_,fun f hm=>?_⟩
 · obtain ⟨i,hi⟩:=List.getElem?_of_mem hc
   obtain ⟨g,o,cap,x,-,-,hv,-⟩:=h3.at_ hi
   obtain ⟨j,hj⟩:=List.getElem?_of_mem ht
   obtain ⟨g,o,cap,y,-,-,-,-,hq,-⟩:=hv.at_ hj
   have:=(hf.2.1 c hc).2 t ht
   exact (hq.qv this.1 this.2).sz Yd
 · rcases hm with hm | hm | hm
   · exact rx h6 (fun f hm=>hf.2.2 f (.inl hm)) f hm
   · exact rx h7 (fun f hm=>hf.2.2 f (.inr (.inl hm))) f hm
   · exact rx h8 (fun f hm=>hf.2.2 f (.inr (.inr hm))) f hm
theorem rhs_sz {l:LPx} (hs:SzL l) (col:Int) (up:Bool):Sz 6 (rhsX l col up).q:=by
 have h0:Sz 6 (⟨false,[],[]⟩:Fx).q:=sz_zero.mono Yd
 have key:∀ fs:List Fx,(∀ f∈fs,Sz 6 f.q)->Sz 6 (fs.getD col.toNat ⟨false,[],[]⟩).q:=fun fs h=>by
  rw [List.getD_eq_getElem?_getD]
  cases e:fs[col.toNat]? with
  | none=>exact h0
  | some f=>exact h f (List.mem_of_getElem? e)
 cases up
 · exact key l.lo fun f h=>hs.2 f (.inl h)
 · exact key l.hi fun f h=>hs.2 f (.inr (.inl h))
theorem cB_sz {l:LPx} {col:Int} {up:Bool} (hf:Fit l) (hs:SzL l) (hb:okB l col):SzC 211 14 (cB l col up):=by
 have hn:l.n<=14:=by have:=hb.2.2.2.2.2.2.2;have:=hf.1;omega
 have hr:=rowT_sz (l:=l) (L:=6) (M:=30) (col:=col) fun c hc=>⟨(hf.2.1 c hc).1,fun t ht=>hs.1 c hc t ht⟩
 have hv:=sz_vecs (L:=211) Yd (rowT_up l col) hr
 refine ⟨by cases up<;>simp [cB],?_,?_,?_,?_,?_,?_⟩
 · show Vec (qT (fqT _));rw [qT_fq];exact vec_mk _
 · show ∀ t∈qT (fqT _),_;rw [qT_fq];exact hv
 · show Sz 211 (fq _).q;rw [fq_q];exact (rhs_sz hs col up).mono Yd
 · show (fqT _).length<=14
   unfold fqT;rw [List.length_map]
   exact Nat.le_trans (mkV_len _) (rowT_len Yo Yd)
 · exact szT_fq hv
 · exact fq_len ((rhs_sz hs col up).mono Yd)
end
end
end Go.Proofs.YtclaiidoomdklaaGreat
