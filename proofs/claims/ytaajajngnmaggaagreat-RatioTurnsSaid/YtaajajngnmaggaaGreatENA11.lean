import Derived.Test.YtaajajngnmaggaaGreatENA10
set_option maxRecDepth 100000
set_option maxHeartbeats 8000000
set_option linter.unusedVariables false
set_option linter.unusedSimpArgs false
namespace Go.Proofs.YtaajajngnmaggaaGreat
section
section
open Go Go.RowKit Go.Proofs Pl
def cmpQ (q r:Rat):Int:=if q<r then -1 else if q=r then 0 else 1
theorem cmpQ_z (q r:Rat):cmpZ (q.num*r.den) (r.num*q.den)=cmpQ q r:=by
 unfold cmpZ cmpQ
 by_cases h:q<r
 · rw [if_pos h,if_pos ((Rat.lt_iff q r).1 h)]
 · rw [if_neg h,if_neg (fun h2=>h ((Rat.lt_iff q r).2 h2))]
   by_cases h2:q=r
   · rw [if_pos h2,if_pos (Rat.eq_iff_mul_eq_mul.1 h2)]
   · rw [if_neg h2,if_neg (fun h3=>h2 (Rat.eq_iff_mul_eq_mul.2 h3))]
theorem q_whole (z:Int):qn z 1=z/\qd z 1=1:=by
 unfold qn qd
 rw [Nat.gcd_one_right,Nat.div_one,sg_form]
 exact ⟨rfl,rfl⟩
theorem mk_whole (z:Int):mkRat z 1=(z:Rat):=Rat.ext (by rw [mk_num z (by decide),(q_whole z).1];rfl) (by rw [mk_den z (by decide),(q_whole z).2];rfl)
theorem one_s (w:World):Calls Tryz.prog 161 #[] w fun e w'=>∃ v,e=.returned v/\Rs w w' v 1:=by
 go_enter Tryz.func161,Tryz.ntmps161
 go_wp2_with fail
 go_ret
 refine ⟨_,rfl,?_,Ya w _⟩
 have e1:dg WB 1=[1]:=dg_one Yd (by rw [WB_eq];decide)
 rw [e1]
 exact ⟨fun x hx=>by rw [List.mem_singleton.1 hx,WB_eq];decide,rfl,.inr ⟨w.heap.size,1,#[.int .u64 1],rfl,Nat.le_refl _,heap_alloc_new _ _,Nat.le_refl _,Yd,rfl,rfl⟩⟩
theorem ofInt_v {w:World} {L:Nat} {a:Value} {z:Int} (ha:Zn w L a z) (hL:L<=68719476736):
 Calls Tryz.prog 115 #[a] w fun e w'=>∃ v,e=.returned v/\Qr w w' v (z:Rat):=by
 obtain ⟨b,s,n,rfl,hs,rfl⟩:=ha
 have HL:=Lib.hid hL
 have S0:=Yh2 hs (Below.refl w.heap.size w)
 clear hs hL
 go_enter Tryz.func115,Tryz.ntmps115
 go_upto_region 1 with (fail)
 have S1:=Yh4 (S0.p0.keep ((Yb (Ya w (.cells #[.bool b,s] 34)) (Ya _ (.cells #[.bool false,.slice none 0 0,.slice none 0 0] 36))))) ((Bx.new 34 w (.bool b) s).alloc (.cells #[.bool false,.slice none 0 0,.slice none 0 0] 36)) (B3.new1 36 w (.cells #[.bool b,s] 34) (.bool false) (.slice none 0 0) (.slice none 0 0)) (Yb S0.q1 ((Yb (Ya w (.cells #[.bool b,s] 34)) (Ya _ (.cells #[.bool false,.slice none 0 0,.slice none 0 0] 36)))))
 clear S0
 generalize (w.alloc _).alloc _=W0 at S1 ⊢
 obtain ⟨xa,xb,-,-⟩:=S1.p1.facts
 go_wp2_with fail
 refine (make_z b S1.p0 (by have:=HL.out;omega)).mono ?_;rintro e w2 ⟨v,rfl,h⟩
 obtain ⟨pz,Az,lz,cz,rfl,-⟩:=h.parts
 have S2:=Yh5 (S1.p0.keep h.below) (S1.p1.keep h.below) (S1.p2.keep h.below) (h.from S1.q3) (Yb S1.q3 h.below)
 clear h xa xb S1
 go_wp2_with fail
 refine (one_s _).mono ?_;rintro e w3 ⟨v,rfl,h⟩
 obtain ⟨Ad,ld,cd,rfl⟩:=h.form
 have S3:=Yh6 (S2.p0.keep h.2) (S2.p1.keep h.2) (S2.p2.keep h.2) (S2.p3.keep h.2) (h.out S2.q4) (Yb S2.q4 h.2)
 clear h  S2
 obtain ⟨f0,f1,f2,f3,f4,f5⟩:=S3.p2.facts
 go_wp2_with fail
 refine ret_b3 S3.p2 (fun W d0 d1 d2=>by simp [results,Tryz.results115,go_sem,d0,d1,d2];try rfl) rfl ?_
 exact ⟨_,rfl,Qs.put3 rat_word S3.p2 Yo ((S3.p3).q S3.p4) _ _ _⟩
theorem whole_v {w:World} {z:Int} (h:Small64 z):
 Calls Tryz.prog 52 #[.int .i64 z] w fun e w'=>∃ v,e=.returned v/\Qr w w' v (z:Rat):=by
 have HL:=Lib.hid h
 have hz:z.natAbs<WB ^ 1:=by unfold Small64 at h;rw [WB_eq];omega
 have HZ:=Lib.hid hz
 clear h hz
 have S0:=Lib.hid (Below.refl w.heap.size w)
 go_enter Tryz.func52,Tryz.ntmps52
 go_upto_region 1 with (fail)
 have S1:=Yh2 (B3.new 36 w (.bool false) (.slice none 0 0) (.slice none 0 0)) (Yb S0.out ((Ya w (.cells #[.bool false,.slice none 0 0,.slice none 0 0] 36))))
 clear S0
 generalize w.alloc _=W0 at S1 ⊢
 go_wp2_with fail
 refine (of_z HL.out).mono ?_;rintro e w2 ⟨v,rfl,h⟩
 have S2:=Yh3 (S1.p0.keep h.below) (h.zn HZ.out) (Yb S1.q1 h.below)
 clear h  S1
 go_wp2_with fail
 refine (ofInt_v S2.p1 Yd).mono ?_;rintro e w3 ⟨v,rfl,h⟩
 obtain ⟨pq,Aq,lq,cq,Av,lv,cv,rfl⟩:=h.parts
 have S3:=Yh4 (S2.p0.keep h.below) (S2.p1.keep h.below) (h.from S2.q2) (Yb S2.q2 h.below)
 clear h  S2
 obtain ⟨f0,f1,f2,f3,f4,f5⟩:=S3.p0.facts
 go_wp2_with fail
 refine ret_b3 S3.p0 (fun W d0 d1 d2=>by simp [results,Tryz.results52,go_sem,d0,d1,d2];try rfl) rfl ?_
 exact ⟨_,rfl,Qs.put3 rat_word S3.p0 Yo S3.p2 _ _ _⟩
end
namespace I
section
open Go Go.RowKit Go.Proofs Pl
def Qe (w:World) (L:Nat) (v:Value) (q:Rat):Prop:=Qd w L v q.num q.den
section
variable {w w':World} {L M:Nat} {v:Value} {z:Int} {m:Nat} {q r:Rat}
theorem Qe.keep (h:Qe w L v q) (hb:Below w.heap.size w w'):Qe w' L v q:=Qd.keep h hb
theorem Qe.mono (h:Qe w L v q) (hL:L<=M):Qe w M v q:=by
 obtain ⟨s,d,e,h1,h2⟩:=h
 exact ⟨s,d,e,h1.mono hL,h2.mono hL⟩
theorem qd_of (h:Qd w L v (qn z m) (qd z m)) (h0:m≠0):Qe w L v (mkRat z m):=by
 unfold Qe;rw [mk_num z h0,mk_den z h0];exact h
theorem Qe.open (h:Qe w L v q):∃ p A l c B k d,v=.agg #[.bool p,.slice A l c,.slice B k d]/\Zd w L (.agg #[.bool p,.slice A l c]) q.num/\Dn w L (.slice B k d) q.den:=by
 obtain ⟨s,d,rfl,h1,h2⟩:=h
 obtain ⟨A,c,rfl,-⟩:=id h1.1
 obtain ⟨B,k,rfl,-⟩:=id h2.1
 exact ⟨_,A,_,c,B,_,k,rfl,⟨_,rfl,h1⟩,h2⟩
theorem Qe.parts (h:Qe w L v q):∃ p A l c B k d,v=.agg #[.bool p,.slice A l c,.slice B k d]:=by
 obtain ⟨p,A,l,c,B,k,d,e,-⟩:=h.open
 exact ⟨p,A,l,c,B,k,d,e⟩
end
theorem of_e {w:World} {L:Nat} {a:Value} {q:Rat} (ha:Qv w L a q) (h1:0<L) (hL:L<=1048576):
 Calls Tryz.prog 41 #[a] w fun e w'=>∃ v,e=.returned v/\Qe w' (5*L) v q/\Yg w w':=by
 obtain ⟨b,xs,ds,h,hx,hd,rfl⟩:=ha.ql
 refine (of_q h hx hd h1 hL).mono ?_
 rintro e w' ⟨v,he,hv,hb⟩
 exact ⟨v,he,qd_of hv (den_ne _),hb⟩
theorem small_e {w:World} {z:Int} (h:Small64 z):Calls Tryz.prog 65 #[.int .i64 z] w fun e w'=>∃ v,e=.returned v/\Qe w' 7 v (z:Rat)/\Below w.heap.size w w':=by
 rw [<- mk_whole z]
 have HL:=Lib.hid h
 clear h
 have S0:=Lib.hid (Below.refl w.heap.size w)
 go_enter Tryz.func65,Tryz.ntmps65
 go_upto_region 1 with (fail)
 have S1:=Yh2 (B3.new 96 w (.bool false) (.slice none 0 0) (.slice none 0 0)) (Yb S0.out ((Ya w (.cells #[.bool false,.slice none 0 0,.slice none 0 0] 96))))
 clear S0
 generalize w.alloc _=W0 at S1 ⊢
 go_wp2_with fail
 refine (small_d HL.out).mono ?_;rintro e w2 ⟨v,rfl,h,hb⟩
 have S2:=Yh3 (S1.p0.keep hb) h (Yb S1.q1 hb)
 clear h hb  S1
 go_wp2_with fail
 refine (lowest_d (S2.p1.keep (Ya _ _)) ((one_dn _).mono Yd) Yd Yd Yd).mono ?_;rintro e w3 ⟨v,rfl,h,hb⟩
 obtain ⟨pq,Aq,lq,cq,Av,lv,cv,rfl⟩:=h.parts
 have S3:=Yh4 (S2.p0.keep ((Yb (Ya _ _) hb))) (S2.p1.keep ((Yb (Ya _ _) hb))) (qd_of h Yd) (Yb S2.q2 ((Yb (Ya _ _) hb)))
 clear h hb  S2
 obtain ⟨f0,f1,f2,f3,f4,f5⟩:=S3.p0.facts
 go_wp2_with fail
 refine ret_b3 S3.p0 (fun W d0 d1 d2=>by simp [results,Tryz.results65,go_sem,d0,d1,d2];try rfl) rfl ?_
 exact ⟨_,rfl,Qd.put3 S3.p2 S3.p0 _ _ _,S3.p0.below S3.q3 Yo _ _ _⟩
theorem times_d {w:World} {L M:Nat} {a d:Value} {z:Int} {m:Nat} (ha:Zd w L a z) (hd:Dn w M d m) (h1:L<=1073741824) (h2:M<=1073741824):
 Calls Tryz.prog 105 #[a,d] w fun e w'=>∃ v,e=.returned v/\Zd w' (L+M) v (z*m)/\Yg w w':=by
 obtain ⟨p,A,l,c,rfl,ha2⟩:=ha.parts
 obtain ⟨B,k,e,rfl⟩:=hd.form
 have hz:Zd w M (.agg #[.bool false,.slice B k e]) (m:Int):=⟨_,by rw [decide_eq_false (by omega)],hd⟩
 have HL:=Yh2 h1 h2
 have S0:=Yh3 ha hz (Below.refl w.heap.size w)
 clear ha hd hz h1 h2 ha2
 go_enter Tryz.func105,Tryz.ntmps105
 go_upto_region 1 with (fail)
 have S1:=Yh5 (S0.p0.keep ((Yb (Ya w (.cells #[.bool p,.slice A l c] 94)) (Ya _ (.cells #[.bool false,.slice none 0 0] 94))))) (S0.p1.keep ((Yb (Ya w (.cells #[.bool p,.slice A l c] 94)) (Ya _ (.cells #[.bool false,.slice none 0 0] 94))))) ((Bx.new 94 w (.bool p) (.slice A l c)).alloc (.cells #[.bool false,.slice none 0 0] 94)) (Bx.new1 94 w (.cells #[.bool p,.slice A l c] 94) (.bool false) (.slice none 0 0)) (Yb S0.q2 ((Yb (Ya w (.cells #[.bool p,.slice A l c] 94)) (Ya _ (.cells #[.bool false,.slice none 0 0] 94)))))
 clear S0
 generalize (w.alloc _).alloc _=W0 at S1 ⊢
 obtain ⟨xa,xb,-,-⟩:=S1.p2.facts
 go_wp2_with fail
 refine (mul_d S1.p0 S1.p1 HL.p0 HL.q1).mono ?_;rintro e w2 ⟨v,rfl,h,hb⟩
 obtain ⟨pq,Aq,lq,cq,rfl,-⟩:=h.parts
 have S2:=Yh6 (S1.p0.keep hb) (S1.p1.keep hb) (S1.p2.keep hb) (S1.p3.keep hb) h (Yb S1.q4 hb)
 clear h hb xa xb S1
 obtain ⟨f0,f1,f2,f3⟩:=S2.p3.facts
 go_wp2_with fail
 refine ret_bx S2.p3 (fun W d0 d1=>by simp [results,Tryz.results105,go_sem,d0,d1]) rfl ?_
 exact ⟨_,rfl,S2.p4.put S2.p3 _ _,S2.p3.below S2.q5 Yo Yo _ _⟩
theorem add_e {w:World} {L M:Nat} {a u:Value} {q r:Rat} (ha:Qe w L a q) (hu:Qe w M u r) (h0:0<L) (h0':0<M) (h1:L<=268435456) (h2:M<=268435456):
 Calls Tryz.prog 68 #[a,u] w fun e w'=>∃ v,e=.returned v/\Qe w' (L+M+1) v (q+r)/\Yg w w':=by
 obtain ⟨p,A,l,c,B,k,d,rfl,hz,hd⟩:=ha.open
 obtain ⟨p2,A2,l2,c2,B2,k2,d2,rfl,hz2,hd2⟩:=hu.open
 rw [Rat.add_def']
 have e2:∀ {a b:Nat},a<TB ^ L->b<TB ^ M->a*b<TB ^ (L+M):=fun ha hb=>by rw [Nat.pow_add];exact Nat.mul_lt_mul'' ha hb
 have b1:(q.num*(r.den:Int)).natAbs<TB ^ (L+M):=by rw [Int.natAbs_mul];exact e2 hz.lt hd2.2
 have b2:(r.num*(q.den:Int)).natAbs<TB ^ (L+M):=by rw [Int.natAbs_mul,Nat.mul_comm];exact e2 hd.2 hz2.lt
 have hp:TB ^ (L+M)+TB ^ (L+M)<=TB ^ (L+M+1):=by rw [Nat.pow_succ,<- Nat.mul_two];exact Nat.mul_le_mul_left _ TB_one
 have b3:(q.num*(r.den:Int)+r.num*(q.den:Int)).natAbs<TB ^ (L+M+1):=Yo
 have HF:=Lib.hid b3
 clear e2 b1 b2 b3 hp
 have HL:=Yh4 h0 h0' h1 h2
 have S0:=Yh5 hz hd hz2 hd2 (Below.refl w.heap.size w)
 clear hz hd hz2 hd2 h0 h0' h1 h2 ha hu
 go_enter Tryz.func68,Tryz.ntmps68
 go_upto_region 1 with (fail)
 have S1:=Yh8 (S0.p0.keep ((Yb (Yb (Ya w (.cells #[.bool p,.slice A l c,.slice B k d] 96)) (Ya _ (.cells #[.bool p2,.slice A2 l2 c2,.slice B2 k2 d2] 96))) (Ya _ (.cells #[.bool false,.slice none 0 0,.slice none 0 0] 96))))) (S0.p1.keep ((Yb (Yb (Ya w (.cells #[.bool p,.slice A l c,.slice B k d] 96)) (Ya _ (.cells #[.bool p2,.slice A2 l2 c2,.slice B2 k2 d2] 96))) (Ya _ (.cells #[.bool false,.slice none 0 0,.slice none 0 0] 96))))) (S0.p2.keep ((Yb (Yb (Ya w (.cells #[.bool p,.slice A l c,.slice B k d] 96)) (Ya _ (.cells #[.bool p2,.slice A2 l2 c2,.slice B2 k2 d2] 96))) (Ya _ (.cells #[.bool false,.slice none 0 0,.slice none 0 0] 96))))) (S0.p3.keep ((Yb (Yb (Ya w (.cells #[.bool p,.slice A l c,.slice B k d] 96)) (Ya _ (.cells #[.bool p2,.slice A2 l2 c2,.slice B2 k2 d2] 96))) (Ya _ (.cells #[.bool false,.slice none 0 0,.slice none 0 0] 96))))) (((B3.new 96 w (.bool p) (.slice A l c) (.slice B k d)).alloc (.cells #[.bool p2,.slice A2 l2 c2,.slice B2 k2 d2] 96)).alloc (.cells #[.bool false,.slice none 0 0,.slice none 0 0] 96)) ((B3.new1 96 w (.cells #[.bool p,.slice A l c,.slice B k d] 96) (.bool p2) (.slice A2 l2 c2) (.slice B2 k2 d2)).alloc (.cells #[.bool false,.slice none 0 0,.slice none 0 0] 96)) (B3.new2 96 w (.cells #[.bool p,.slice A l c,.slice B k d] 96) (.cells #[.bool p2,.slice A2 l2 c2,.slice B2 k2 d2] 96) (.bool false) (.slice none 0 0) (.slice none 0 0)) (Yb S0.q4 ((Yb (Yb (Ya w (.cells #[.bool p,.slice A l c,.slice B k d] 96)) (Ya _ (.cells #[.bool p2,.slice A2 l2 c2,.slice B2 k2 d2] 96))) (Ya _ (.cells #[.bool false,.slice none 0 0,.slice none 0 0] 96)))))
 clear S0
 generalize ((w.alloc _).alloc _).alloc _=W0 at S1 ⊢
 go_upto_region 1 with (fail)
 have S2:=Yh8 (S1.p0.keep (below_dr _ 1)) (S1.p1.keep (below_dr _ 1)) (S1.p2.keep (below_dr _ 1)) (S1.p3.keep (below_dr _ 1)) (S1.p4.keep (below_dr _ 1)) (S1.p5.keep (below_dr _ 1)) (S1.p6.keep (below_dr _ 1)) (Yb S1.q7 (below_dr _ 1))
 refine wp_region_held_drew (S:=fun W=>Yc3 W w.heap.size (.bool p) (.slice A l c) (.slice B k d) (Ye3 W (w.heap.size+1) (.bool p2) (.slice A2 l2 c2) (.slice B2 k2 d2))) (by kernel_rfl) ⟨S2.p4.facts.1,S2.p4.facts.2.1,S2.p4.facts.2.2.1,S2.p5.facts.1,S2.p5.facts.2.1,S2.p5.facts.2.2.1⟩ (fun Hh=>?_)
 refine rgRun 12 [0,1,2,3,5,6,7,8,11,12,13,14] Hh fun K hK=>?_
 repeat refine rgA ?_
 refine hK _ _ ?_;clear hK K
 refine rgO 4 fun K hK=>?_
 go_simp
 go_at_call 105;refine (times_d S2.p0 S2.p3 (by have:=HL.out;omega) (by have:=HL.out;omega)).mono ?_;rintro e w3 ⟨v,rfl,h,hb⟩
 obtain ⟨pf,Af,lf,cf,rfl,-⟩:=h.parts
 have S3:=Yh9 (S2.p0.keep hb) (S2.p1.keep hb) (S2.p2.keep hb) (S2.p3.keep hb) (S2.p4.keep hb) (S2.p5.keep hb) (S2.p6.keep hb) h (Yb S2.q7 hb)
 clear h hb Hh
 go_wp2_with fail
 refine rgK hK ⟨S3.p4.facts.1,S3.p4.facts.2.1,S3.p4.facts.2.2.1,S3.p5.facts.1,S3.p5.facts.2.1,S3.p5.facts.2.2.1⟩ fun Hh=>?_;clear hK K
 refine rgO 9 fun K hK=>?_
 go_simp
 go_at_call 105;refine (times_d S3.p2 S3.p1 (by have:=HL.out;omega) (by have:=HL.out;omega)).mono ?_;rintro e w4 ⟨v,rfl,h,hb⟩
 obtain ⟨pg,Ag,lg,cg,rfl,-⟩:=h.parts
 have S4:=Yh10 (S3.p0.keep hb) (S3.p1.keep hb) (S3.p2.keep hb) (S3.p3.keep hb) (S3.p4.keep hb) (S3.p5.keep hb) (S3.p6.keep hb) (S3.p7.keep hb) h (Yb S3.q8 hb)
 clear h hb Hh
 go_wp2_with fail
 refine rgK hK ⟨S4.p4.facts.1,S4.p4.facts.2.1,S4.p4.facts.2.2.1,S4.p5.facts.1,S4.p5.facts.2.1,S4.p5.facts.2.2.1⟩ fun Hh=>?_;clear hK K
 refine rgO 10 fun K hK=>?_
 go_simp
 go_at_call 135;refine (add_d S4.p7 S4.p8 (by have:=HL.out;omega) (by have:=HL.out;omega)).mono ?_;rintro e w5 ⟨v,rfl,h,hb⟩
 obtain ⟨ps,As,ls,cs,rfl,-⟩:=h.parts
 have S5:=Yh11 (S4.p0.keep hb) (S4.p1.keep hb) (S4.p2.keep hb) (S4.p3.keep hb) (S4.p4.keep hb) (S4.p5.keep hb) (S4.p6.keep hb) (S4.p7.keep hb) (S4.p8.keep hb) (Zd.thin h HF.out) (Yb S4.q9 hb)
 clear h hb Hh
 go_wp2_with fail
 refine rgK hK ⟨S5.p4.facts.1,S5.p4.facts.2.1,S5.p4.facts.2.2.1,S5.p5.facts.1,S5.p5.facts.2.1,S5.p5.facts.2.2.1⟩ fun Hh=>?_;clear hK K
 refine rgO 15 fun K hK=>?_
 go_simp
 go_at_call 136;refine (mul_dn S5.p1 S5.p3 (by have:=HL.out;omega) (by have:=HL.out;omega)).mono ?_;rintro e w6 ⟨v,rfl,h,hb⟩
 obtain ⟨Am,lm,cm,rfl⟩:=h.form
 have S6:=Yh12 (S5.p0.keep hb) (S5.p1.keep hb) (S5.p2.keep hb) (S5.p3.keep hb) (S5.p4.keep hb) (S5.p5.keep hb) (S5.p6.keep hb) (S5.p7.keep hb) (S5.p8.keep hb) (S5.p9.keep hb) h (Yb S5.q10 hb)
 clear h hb Hh
 go_wp2_with fail
 refine rgK hK ⟨S6.p4.facts.1,S6.p4.facts.2.1,S6.p4.facts.2.2.1,S6.p5.facts.1,S6.p5.facts.2.1,S6.p5.facts.2.2.1⟩ fun Hh=>?_;clear hK K
 refine rgO 16 fun K hK=>?_
 go_simp
 go_at_call 107;refine (lowest_d S6.p9 (S6.p10.mono Yo) (Nat.mul_ne_zero q.den_nz r.den_nz) (by have:=HL.out;omega) (by have:=HL.out;omega)).mono ?_;rintro e w7 ⟨v,rfl,h,hb⟩
 obtain ⟨pq,Aq,lq,cq,Av,lv,cv,rfl⟩:=h.parts
 have S7:=Yh13 (S6.p0.keep hb) (S6.p1.keep hb) (S6.p2.keep hb) (S6.p3.keep hb) (S6.p4.keep hb) (S6.p5.keep hb) (S6.p6.keep hb) (S6.p7.keep hb) (S6.p8.keep hb) (S6.p9.keep hb) (S6.p10.keep hb) (qd_of h (Nat.mul_ne_zero q.den_nz r.den_nz)) (Yb S6.q11 hb)
 clear h hb Hh
 go_wp2_with fail
 refine rgK hK ⟨S7.p4.facts.1,S7.p4.facts.2.1,S7.p4.facts.2.2.1,S7.p5.facts.1,S7.p5.facts.2.1,S7.p5.facts.2.2.1⟩ fun Hh=>?_;clear hK K
 obtain ⟨f0,f1,f2,f3,f4,f5⟩:=S7.p6.facts
 refine rgO 17 fun K hK=>?_
 go_simp;clear f0 f1 f2 f3 f4 f5
 refine rgK hK ⟨cell_st3 _ S7.p4.facts.1 Yo,cell_st3 _ S7.p4.facts.2.1 Yo,cell_st3 _ S7.p4.facts.2.2.1 Yo,cell_st3 _ S7.p5.facts.1 Yo,cell_st3 _ S7.p5.facts.2.1 Yo,cell_st3 _ S7.p5.facts.2.2.1 Yo⟩ fun Hh=>?_;clear hK K
 refine Yw ?_
 clear Hh
 go_wp2_with fail
 refine ret_b3 S7.p6 (fun W d0 d1 d2=>by simp [results,Tryz.results68,go_sem,d0,d1,d2];try rfl) rfl ?_
 exact ⟨_,rfl,Qd.put3 S7.p11 S7.p6 _ _ _,S7.p6.below S7.q12 Yo _ _ _⟩
theorem mul_e {w:World} {L M:Nat} {a u:Value} {q r:Rat} (ha:Qe w L a q) (hu:Qe w M u r) (h0:0<L) (h0':0<M) (h1:L<=268435456) (h2:M<=268435456):
 Calls Tryz.prog 69 #[a,u] w fun e w'=>∃ v,e=.returned v/\Qe w' (L+M) v (q*r)/\Yg w w':=by
 obtain ⟨p,A,l,c,B,k,d,rfl,hz,hd⟩:=ha.open
 obtain ⟨p2,A2,l2,c2,B2,k2,d2,rfl,hz2,hd2⟩:=hu.open
 rw [Rat.mul_def']
 have HL:=Yh4 h0 h0' h1 h2
 have S0:=Yh5 hz hd hz2 hd2 (Below.refl w.heap.size w)
 clear hz hd hz2 hd2 h0 h0' h1 h2 ha hu
 go_enter Tryz.func69,Tryz.ntmps69
 go_upto_region 1 with (fail)
 have S1:=Yh8 (S0.p0.keep ((Yb (Yb (Ya w (.cells #[.bool p,.slice A l c,.slice B k d] 96)) (Ya _ (.cells #[.bool p2,.slice A2 l2 c2,.slice B2 k2 d2] 96))) (Ya _ (.cells #[.bool false,.slice none 0 0,.slice none 0 0] 96))))) (S0.p1.keep ((Yb (Yb (Ya w (.cells #[.bool p,.slice A l c,.slice B k d] 96)) (Ya _ (.cells #[.bool p2,.slice A2 l2 c2,.slice B2 k2 d2] 96))) (Ya _ (.cells #[.bool false,.slice none 0 0,.slice none 0 0] 96))))) (S0.p2.keep ((Yb (Yb (Ya w (.cells #[.bool p,.slice A l c,.slice B k d] 96)) (Ya _ (.cells #[.bool p2,.slice A2 l2 c2,.slice B2 k2 d2] 96))) (Ya _ (.cells #[.bool false,.slice none 0 0,.slice none 0 0] 96))))) (S0.p3.keep ((Yb (Yb (Ya w (.cells #[.bool p,.slice A l c,.slice B k d] 96)) (Ya _ (.cells #[.bool p2,.slice A2 l2 c2,.slice B2 k2 d2] 96))) (Ya _ (.cells #[.bool false,.slice none 0 0,.slice none 0 0] 96))))) (((B3.new 96 w (.bool p) (.slice A l c) (.slice B k d)).alloc (.cells #[.bool p2,.slice A2 l2 c2,.slice B2 k2 d2] 96)).alloc (.cells #[.bool false,.slice none 0 0,.slice none 0 0] 96)) ((B3.new1 96 w (.cells #[.bool p,.slice A l c,.slice B k d] 96) (.bool p2) (.slice A2 l2 c2) (.slice B2 k2 d2)).alloc (.cells #[.bool false,.slice none 0 0,.slice none 0 0] 96)) (B3.new2 96 w (.cells #[.bool p,.slice A l c,.slice B k d] 96) (.cells #[.bool p2,.slice A2 l2 c2,.slice B2 k2 d2] 96) (.bool false) (.slice none 0 0) (.slice none 0 0)) (Yb S0.q4 ((Yb (Yb (Ya w (.cells #[.bool p,.slice A l c,.slice B k d] 96)) (Ya _ (.cells #[.bool p2,.slice A2 l2 c2,.slice B2 k2 d2] 96))) (Ya _ (.cells #[.bool false,.slice none 0 0,.slice none 0 0] 96)))))
 clear S0
 generalize ((w.alloc _).alloc _).alloc _=W0 at S1 ⊢
 go_upto_region 1 with (fail)
 have S2:=Yh8 (S1.p0.keep (below_dr _ 1)) (S1.p1.keep (below_dr _ 1)) (S1.p2.keep (below_dr _ 1)) (S1.p3.keep (below_dr _ 1)) (S1.p4.keep (below_dr _ 1)) (S1.p5.keep (below_dr _ 1)) (S1.p6.keep (below_dr _ 1)) (Yb S1.q7 (below_dr _ 1))
 refine wp_region_held_drew (S:=fun W=>Yc3 W w.heap.size (.bool p) (.slice A l c) (.slice B k d) (Ye3 W (w.heap.size+1) (.bool p2) (.slice A2 l2 c2) (.slice B2 k2 d2))) (by kernel_rfl) ⟨S2.p4.facts.1,S2.p4.facts.2.1,S2.p4.facts.2.2.1,S2.p5.facts.1,S2.p5.facts.2.1,S2.p5.facts.2.2.1⟩ (fun Hh=>?_)
 refine rgRun 8 [0,1,2,3,5,6,7,8] Hh fun K hK=>?_
 repeat refine rgA ?_
 refine hK _ _ ?_;clear hK K
 refine rgO 4 fun K hK=>?_
 go_simp
 go_at_call 137;refine (mul_d S2.p0 S2.p2 (by have:=HL.out;omega) (by have:=HL.out;omega)).mono ?_;rintro e w3 ⟨v,rfl,h,hb⟩
 obtain ⟨ps,As,ls,cs,rfl,-⟩:=h.parts
 have S3:=Yh9 (S2.p0.keep hb) (S2.p1.keep hb) (S2.p2.keep hb) (S2.p3.keep hb) (S2.p4.keep hb) (S2.p5.keep hb) (S2.p6.keep hb) h (Yb S2.q7 hb)
 clear h hb Hh
 go_wp2_with fail
 refine rgK hK ⟨S3.p4.facts.1,S3.p4.facts.2.1,S3.p4.facts.2.2.1,S3.p5.facts.1,S3.p5.facts.2.1,S3.p5.facts.2.2.1⟩ fun Hh=>?_;clear hK K
 refine rgO 9 fun K hK=>?_
 go_simp
 go_at_call 136;refine (mul_dn S3.p1 S3.p3 (by have:=HL.out;omega) (by have:=HL.out;omega)).mono ?_;rintro e w4 ⟨v,rfl,h,hb⟩
 obtain ⟨Am,lm,cm,rfl⟩:=h.form
 have S4:=Yh10 (S3.p0.keep hb) (S3.p1.keep hb) (S3.p2.keep hb) (S3.p3.keep hb) (S3.p4.keep hb) (S3.p5.keep hb) (S3.p6.keep hb) (S3.p7.keep hb) h (Yb S3.q8 hb)
 clear h hb Hh
 go_wp2_with fail
 refine rgK hK ⟨S4.p4.facts.1,S4.p4.facts.2.1,S4.p4.facts.2.2.1,S4.p5.facts.1,S4.p5.facts.2.1,S4.p5.facts.2.2.1⟩ fun Hh=>?_;clear hK K
 refine rgO 10 fun K hK=>?_
 go_simp
 go_at_call 107;refine (lowest_d S4.p7 S4.p8 (Nat.mul_ne_zero q.den_nz r.den_nz) (by have:=HL.out;omega) (by have:=HL.out;omega)).mono ?_;rintro e w5 ⟨v,rfl,h,hb⟩
 obtain ⟨pq,Aq,lq,cq,Av,lv,cv,rfl⟩:=h.parts
 have S5:=Yh11 (S4.p0.keep hb) (S4.p1.keep hb) (S4.p2.keep hb) (S4.p3.keep hb) (S4.p4.keep hb) (S4.p5.keep hb) (S4.p6.keep hb) (S4.p7.keep hb) (S4.p8.keep hb) (qd_of h (Nat.mul_ne_zero q.den_nz r.den_nz)) (Yb S4.q9 hb)
 clear h hb Hh
 go_wp2_with fail
 refine rgK hK ⟨S5.p4.facts.1,S5.p4.facts.2.1,S5.p4.facts.2.2.1,S5.p5.facts.1,S5.p5.facts.2.1,S5.p5.facts.2.2.1⟩ fun Hh=>?_;clear hK K
 obtain ⟨f0,f1,f2,f3,f4,f5⟩:=S5.p6.facts
 refine rgO 11 fun K hK=>?_
 go_simp;clear f0 f1 f2 f3 f4 f5
 refine rgK hK ⟨cell_st3 _ S5.p4.facts.1 Yo,cell_st3 _ S5.p4.facts.2.1 Yo,cell_st3 _ S5.p4.facts.2.2.1 Yo,cell_st3 _ S5.p5.facts.1 Yo,cell_st3 _ S5.p5.facts.2.1 Yo,cell_st3 _ S5.p5.facts.2.2.1 Yo⟩ fun Hh=>?_;clear hK K
 refine Yw ?_
 clear Hh
 go_wp2_with fail
 refine ret_b3 S5.p6 (fun W d0 d1 d2=>by simp [results,Tryz.results69,go_sem,d0,d1,d2];try rfl) rfl ?_
 exact ⟨_,rfl,Qd.put3 S5.p9 S5.p6 _ _ _,S5.p6.below S5.q10 Yo _ _ _⟩
theorem cmp_e {w:World} {L M:Nat} {a u:Value} {q r:Rat} (ha:Qe w L a q) (hu:Qe w M u r) (h0:0<L) (h0':0<M) (h1:L<=268435456) (h2:M<=268435456):
 Calls Tryz.prog 40 #[a,u] w fun e w'=>e=.returned (.int .i64 (cmpQ q r))/\Yg w w':=by
 obtain ⟨p,A,l,c,B,k,d,rfl,hz,hd⟩:=ha.open
 obtain ⟨p2,A2,l2,c2,B2,k2,d2,rfl,hz2,hd2⟩:=hu.open
 rw [<- cmpQ_z q r]
 have HL:=Yh4 h0 h0' h1 h2
 have S0:=Yh5 hz hd hz2 hd2 (Below.refl w.heap.size w)
 clear hz hd hz2 hd2 h0 h0' h1 h2 ha hu
 go_enter Tryz.func40,Tryz.ntmps40
 go_upto_region 1 with (fail)
 have S1:=Yh7 (S0.p0.keep ((Yb (Ya w (.cells #[.bool p,.slice A l c,.slice B k d] 96)) (Ya _ (.cells #[.bool p2,.slice A2 l2 c2,.slice B2 k2 d2] 96))))) (S0.p1.keep ((Yb (Ya w (.cells #[.bool p,.slice A l c,.slice B k d] 96)) (Ya _ (.cells #[.bool p2,.slice A2 l2 c2,.slice B2 k2 d2] 96))))) (S0.p2.keep ((Yb (Ya w (.cells #[.bool p,.slice A l c,.slice B k d] 96)) (Ya _ (.cells #[.bool p2,.slice A2 l2 c2,.slice B2 k2 d2] 96))))) (S0.p3.keep ((Yb (Ya w (.cells #[.bool p,.slice A l c,.slice B k d] 96)) (Ya _ (.cells #[.bool p2,.slice A2 l2 c2,.slice B2 k2 d2] 96))))) ((B3.new 96 w (.bool p) (.slice A l c) (.slice B k d)).alloc (.cells #[.bool p2,.slice A2 l2 c2,.slice B2 k2 d2] 96)) (B3.new1 96 w (.cells #[.bool p,.slice A l c,.slice B k d] 96) (.bool p2) (.slice A2 l2 c2) (.slice B2 k2 d2)) (Yb S0.q4 ((Yb (Ya w (.cells #[.bool p,.slice A l c,.slice B k d] 96)) (Ya _ (.cells #[.bool p2,.slice A2 l2 c2,.slice B2 k2 d2] 96)))))
 clear S0
 generalize (w.alloc _).alloc _=W0 at S1 ⊢
 go_upto_region 1 with (fail)
 have S2:=Yh7 (S1.p0.keep (below_dr _ 1)) (S1.p1.keep (below_dr _ 1)) (S1.p2.keep (below_dr _ 1)) (S1.p3.keep (below_dr _ 1)) (S1.p4.keep (below_dr _ 1)) (S1.p5.keep (below_dr _ 1)) (Yb S1.q6 (below_dr _ 1))
 refine wp_region_held_drew (S:=fun W=>Yc3 W w.heap.size (.bool p) (.slice A l c) (.slice B k d) (Ye3 W (w.heap.size+1) (.bool p2) (.slice A2 l2 c2) (.slice B2 k2 d2))) (by kernel_rfl) ⟨S2.p4.facts.1,S2.p4.facts.2.1,S2.p4.facts.2.2.1,S2.p5.facts.1,S2.p5.facts.2.1,S2.p5.facts.2.2.1⟩ (fun Hh=>?_)
 refine rgRun 8 [0,1,2,3,5,6,7,8] Hh fun K hK=>?_
 repeat refine rgA ?_
 refine hK _ _ ?_;clear hK K
 refine rgO 4 fun K hK=>?_
 go_simp
 go_at_call 105;refine (times_d S2.p0 S2.p3 (by have:=HL.out;omega) (by have:=HL.out;omega)).mono ?_;rintro e w3 ⟨v,rfl,h,hb⟩
 obtain ⟨pf,Af,lf,cf,rfl,-⟩:=h.parts
 have S3:=Yh8 (S2.p0.keep hb) (S2.p1.keep hb) (S2.p2.keep hb) (S2.p3.keep hb) (S2.p4.keep hb) (S2.p5.keep hb) h (Yb S2.q6 hb)
 clear h hb Hh
 go_wp2_with fail
 refine rgK hK ⟨S3.p4.facts.1,S3.p4.facts.2.1,S3.p4.facts.2.2.1,S3.p5.facts.1,S3.p5.facts.2.1,S3.p5.facts.2.2.1⟩ fun Hh=>?_;clear hK K
 refine rgO 9 fun K hK=>?_
 go_simp
 go_at_call 105;refine (times_d S3.p2 S3.p1 (by have:=HL.out;omega) (by have:=HL.out;omega)).mono ?_;rintro e w4 ⟨v,rfl,h,hb⟩
 obtain ⟨pg,Ag,lg,cg,rfl,-⟩:=h.parts
 have S4:=Yh9 (S3.p0.keep hb) (S3.p1.keep hb) (S3.p2.keep hb) (S3.p3.keep hb) (S3.p4.keep hb) (S3.p5.keep hb) (S3.p6.keep hb) h (Yb S3.q7 hb)
 clear h hb Hh
 go_wp2_with fail
 refine rgK hK ⟨S4.p4.facts.1,S4.p4.facts.2.1,S4.p4.facts.2.2.1,S4.p5.facts.1,S4.p5.facts.2.1,S4.p5.facts.2.2.1⟩ fun Hh=>?_;clear hK K
 refine rgO 10 fun K hK=>?_
 go_simp
 go_at_call 104;refine (cmp_d S4.p6 S4.p7 (by have:=HL.out;omega) (by have:=HL.out;omega)).mono ?_;rintro e w5 ⟨rfl,hb⟩
 have S5:=Yh9 (S4.p0.keep hb) (S4.p1.keep hb) (S4.p2.keep hb) (S4.p3.keep hb) (S4.p4.keep hb) (S4.p5.keep hb) (S4.p6.keep hb) (S4.p7.keep hb) (Yb S4.q8 hb)
 clear hb Hh
 go_wp2_with fail
 refine rgK hK ⟨S5.p4.facts.1,S5.p4.facts.2.1,S5.p4.facts.2.2.1,S5.p5.facts.1,S5.p5.facts.2.1,S5.p5.facts.2.2.1⟩ fun Hh=>?_;clear hK K
 refine rgT 11 Hh ?_
 refine Yw ?_
 clear Hh
 go_wp2_with fail
 go_ret
 exact ⟨rfl,S5.q8⟩
theorem sign_e {w:World} {L:Nat} {a:Value} {q:Rat} (ha:Qe w L a q):
 Calls Tryz.prog 63 #[a] w fun e w'=>e=.returned (.int .i64 (sgnQ q))/\Yg w w':=by
 obtain ⟨p,A,l,c,B,k,d,rfl,hz,hd⟩:=ha.open
 have S0:=Yh2 hz (Below.refl w.heap.size w)
 clear hz hd ha
 go_enter Tryz.func63,Tryz.ntmps63
 go_upto_region 1 with (fail)
 have S1:=Yh3 (S0.p0.keep ((Ya w (.cells #[.bool p,.slice A l c,.slice B k d] 96)))) (B3.new 96 w (.bool p) (.slice A l c) (.slice B k d)) (Yb S0.q1 ((Ya w (.cells #[.bool p,.slice A l c,.slice B k d] 96))))
 clear S0
 generalize w.alloc _=W0 at S1 ⊢
 obtain ⟨xa,xb,xc,-,-,-⟩:=S1.p1.facts
 go_wp2_with fail
 refine (sign_d S1.p0).mono ?_;rintro e w2 ⟨rfl,hb⟩
 have S2:=Yh3 (S1.p0.keep hb) (S1.p1.keep hb) (Yb S1.q2 hb)
 clear hb xa xb xc S1
 go_wp2_with fail
 go_ret
 exact ⟨rfl,S2.q2⟩
theorem qe_of {w:World} {L:Nat} {p:Bool} {s d:Value} {z:Int} {n:Nat} (h:Zd w L (.agg #[.bool p,s]) z) (hd:Dn w L d n):Qd w L (.agg #[.bool p,s,d]) z n:=by
 obtain ⟨s',e,h1⟩:=h
 injection e with e;injection e with e
 simp only [List.cons.injEq,Value.bool.injEq,and_true] at e
 obtain ⟨rfl,rfl⟩:=e
 exact ⟨_,_,rfl,h1,hd⟩
theorem neg_e {w:World} {L:Nat} {a:Value} {q:Rat} (ha:Qe w L a q) (hL:L<=1073741824):
 Calls Tryz.prog 66 #[a] w fun e w'=>∃ v,e=.returned v/\Qe w' L v (-q)/\Yg w w':=by
 obtain ⟨p,A,l,c,B,k,d,rfl,hz,hd⟩:=ha.open
 have HL:=Lib.hid hL
 have S0:=Yh3 hz hd (Below.refl w.heap.size w)
 clear hz hd ha hL
 go_enter Tryz.func66,Tryz.ntmps66
 go_upto_region 1 with (fail)
 have S1:=Yh5 (S0.p0.keep ((Yb (Ya w (.cells #[.bool p,.slice A l c,.slice B k d] 96)) (Ya _ (.cells #[.bool false,.slice none 0 0,.slice none 0 0] 96))))) (S0.p1.keep ((Yb (Ya w (.cells #[.bool p,.slice A l c,.slice B k d] 96)) (Ya _ (.cells #[.bool false,.slice none 0 0,.slice none 0 0] 96))))) ((B3.new 96 w (.bool p) (.slice A l c) (.slice B k d)).alloc (.cells #[.bool false,.slice none 0 0,.slice none 0 0] 96)) (B3.new1 96 w (.cells #[.bool p,.slice A l c,.slice B k d] 96) (.bool false) (.slice none 0 0) (.slice none 0 0)) (Yb S0.q2 ((Yb (Ya w (.cells #[.bool p,.slice A l c,.slice B k d] 96)) (Ya _ (.cells #[.bool false,.slice none 0 0,.slice none 0 0] 96)))))
 clear S0
 generalize (w.alloc _).alloc _=W0 at S1 ⊢
 go_upto_region 1 with (fail)
 have S2:=Yh5 (S1.p0.keep (below_dr _ 1)) (S1.p1.keep (below_dr _ 1)) (S1.p2.keep (below_dr _ 1)) (S1.p3.keep (below_dr _ 1)) (Yb S1.q4 (below_dr _ 1))
 refine wp_region_held_drew (S:=fun W=>Ye3 W w.heap.size (.bool p) (.slice A l c) (.slice B k d)) (by kernel_rfl) ⟨S2.p2.facts.1,S2.p2.facts.2.1,S2.p2.facts.2.2.1⟩ (fun Hh=>?_)
 refine rgT 0 Hh ?_
 refine rgT 1 Hh ?_
 refine rgT 3 Hh ?_
 refine rgT 4 Hh ?_
 refine rgO 2 fun K hK=>?_
 go_simp
 go_at_call 132;refine (neg_d S2.p0 (by have:=HL.out;omega)).mono ?_;rintro e w3 ⟨v,rfl,h,hb⟩
 obtain ⟨pn,An,ln,cn,rfl,-⟩:=h.parts
 have S3:=Yh6 (S2.p0.keep hb) (S2.p1.keep hb) (S2.p2.keep hb) (S2.p3.keep hb) h (Yb S2.q4 hb)
 clear h hb Hh
 go_wp2_with fail
 refine rgK hK ⟨S3.p2.facts.1,S3.p2.facts.2.1,S3.p2.facts.2.2.1⟩ fun Hh=>?_;clear hK K
 refine rgT 5 Hh ?_
 obtain ⟨f0,f1,f2,f3,f4,f5⟩:=S3.p3.facts
 refine rgO 6 fun K hK=>?_
 go_simp;clear f0 f1 f2 f3 f4 f5
 refine rgK hK ⟨cell_st3 _ S3.p2.facts.1 Yo,cell_st3 _ S3.p2.facts.2.1 Yo,cell_st3 _ S3.p2.facts.2.2.1 Yo⟩ fun Hh=>?_;clear hK K
 refine Yw ?_
 clear Hh
 go_wp2_with fail
 refine ret_b3 S3.p3 (fun W d0 d1 d2=>by simp [results,Tryz.results66,go_sem,d0,d1,d2];try rfl) rfl ?_
 exact ⟨_,rfl,Qd.put3 (qe_of S3.p4 S3.p1) S3.p3 _ _ _,S3.p3.below S3.q5 Yo _ _ _⟩
theorem sub_e {w:World} {L M:Nat} {a u:Value} {q r:Rat} (ha:Qe w L a q) (hu:Qe w M u r) (h0:0<L) (h0':0<M) (h1:L<=268435456) (h2:M<=268435456):
 Calls Tryz.prog 102 #[a,u] w fun e w'=>∃ v,e=.returned v/\Qe w' (L+M+1) v (q - r)/\Yg w w':=by
 obtain ⟨p,A,l,c,B,k,d,rfl,hz,hd⟩:=ha.open
 obtain ⟨p2,A2,l2,c2,B2,k2,d2,rfl,hz2,hd2⟩:=hu.open
 rw [Rat.sub_eq_add_neg]
 have HL:=Yh4 h0 h0' h1 h2
 have S0:=Yh5 hz hd hz2 hd2 (Below.refl w.heap.size w)
 clear hz hd hz2 hd2 h0 h0' h1 h2 ha hu
 go_enter Tryz.func102,Tryz.ntmps102
 go_upto_region 1 with (fail)
 have S1:=Yh8 (S0.p0.keep ((Yb (Yb (Ya w (.cells #[.bool p,.slice A l c,.slice B k d] 96)) (Ya _ (.cells #[.bool p2,.slice A2 l2 c2,.slice B2 k2 d2] 96))) (Ya _ (.cells #[.bool false,.slice none 0 0,.slice none 0 0] 96))))) (S0.p1.keep ((Yb (Yb (Ya w (.cells #[.bool p,.slice A l c,.slice B k d] 96)) (Ya _ (.cells #[.bool p2,.slice A2 l2 c2,.slice B2 k2 d2] 96))) (Ya _ (.cells #[.bool false,.slice none 0 0,.slice none 0 0] 96))))) (S0.p2.keep ((Yb (Yb (Ya w (.cells #[.bool p,.slice A l c,.slice B k d] 96)) (Ya _ (.cells #[.bool p2,.slice A2 l2 c2,.slice B2 k2 d2] 96))) (Ya _ (.cells #[.bool false,.slice none 0 0,.slice none 0 0] 96))))) (S0.p3.keep ((Yb (Yb (Ya w (.cells #[.bool p,.slice A l c,.slice B k d] 96)) (Ya _ (.cells #[.bool p2,.slice A2 l2 c2,.slice B2 k2 d2] 96))) (Ya _ (.cells #[.bool false,.slice none 0 0,.slice none 0 0] 96))))) (((B3.new 96 w (.bool p) (.slice A l c) (.slice B k d)).alloc (.cells #[.bool p2,.slice A2 l2 c2,.slice B2 k2 d2] 96)).alloc (.cells #[.bool false,.slice none 0 0,.slice none 0 0] 96)) ((B3.new1 96 w (.cells #[.bool p,.slice A l c,.slice B k d] 96) (.bool p2) (.slice A2 l2 c2) (.slice B2 k2 d2)).alloc (.cells #[.bool false,.slice none 0 0,.slice none 0 0] 96)) (B3.new2 96 w (.cells #[.bool p,.slice A l c,.slice B k d] 96) (.cells #[.bool p2,.slice A2 l2 c2,.slice B2 k2 d2] 96) (.bool false) (.slice none 0 0) (.slice none 0 0)) (Yb S0.q4 ((Yb (Yb (Ya w (.cells #[.bool p,.slice A l c,.slice B k d] 96)) (Ya _ (.cells #[.bool p2,.slice A2 l2 c2,.slice B2 k2 d2] 96))) (Ya _ (.cells #[.bool false,.slice none 0 0,.slice none 0 0] 96)))))
 clear S0
 generalize ((w.alloc _).alloc _).alloc _=W0 at S1 ⊢
 go_upto_region 1 with (fail)
 have S2:=Yh8 (S1.p0.keep (below_dr _ 1)) (S1.p1.keep (below_dr _ 1)) (S1.p2.keep (below_dr _ 1)) (S1.p3.keep (below_dr _ 1)) (S1.p4.keep (below_dr _ 1)) (S1.p5.keep (below_dr _ 1)) (S1.p6.keep (below_dr _ 1)) (Yb S1.q7 (below_dr _ 1))
 refine wp_region_held_drew (S:=fun W=>Yc3 W w.heap.size (.bool p) (.slice A l c) (.slice B k d) (Ye3 W (w.heap.size+1) (.bool p2) (.slice A2 l2 c2) (.slice B2 k2 d2))) (by kernel_rfl) ⟨S2.p4.facts.1,S2.p4.facts.2.1,S2.p4.facts.2.2.1,S2.p5.facts.1,S2.p5.facts.2.1,S2.p5.facts.2.2.1⟩ (fun Hh=>?_)
 refine rgT 0 Hh ?_
 refine rgT 1 Hh ?_
 refine rgO 2 fun K hK=>?_
 go_simp
 go_at_call 66;refine (neg_e (show Qe _ M _ r from qe_of S2.p2 S2.p3) (by have:=HL.out;omega)).mono ?_;rintro e w3 ⟨v,rfl,h,hb⟩
 obtain ⟨pn,An,ln,cn,Bn,kn,dn,rfl⟩:=h.parts
 have S3:=Yh9 (S2.p0.keep hb) (S2.p1.keep hb) (S2.p2.keep hb) (S2.p3.keep hb) (S2.p4.keep hb) (S2.p5.keep hb) (S2.p6.keep hb) h (Yb S2.q7 hb)
 clear h hb Hh
 go_wp2_with fail
 refine rgK hK ⟨S3.p4.facts.1,S3.p4.facts.2.1,S3.p4.facts.2.2.1,S3.p5.facts.1,S3.p5.facts.2.1,S3.p5.facts.2.2.1⟩ fun Hh=>?_;clear hK K
 refine rgO 3 fun K hK=>?_
 go_simp
 go_at_call 68;refine (add_e (show Qe _ L _ q from qe_of S3.p0 S3.p1) S3.p7 HL.p0 HL.p1 HL.p2 HL.q3).mono ?_;rintro e w4 ⟨v,rfl,h,hb⟩
 obtain ⟨pq,Aq,lq,cq,Av,lv,cv,rfl⟩:=h.parts
 have S4:=Yh10 (S3.p0.keep hb) (S3.p1.keep hb) (S3.p2.keep hb) (S3.p3.keep hb) (S3.p4.keep hb) (S3.p5.keep hb) (S3.p6.keep hb) (S3.p7.keep hb) h (Yb S3.q8 hb)
 clear h hb Hh
 go_wp2_with fail
 refine rgK hK ⟨S4.p4.facts.1,S4.p4.facts.2.1,S4.p4.facts.2.2.1,S4.p5.facts.1,S4.p5.facts.2.1,S4.p5.facts.2.2.1⟩ fun Hh=>?_;clear hK K
 obtain ⟨f0,f1,f2,f3,f4,f5⟩:=S4.p6.facts
 refine rgO 4 fun K hK=>?_
 go_simp;clear f0 f1 f2 f3 f4 f5
 refine rgK hK ⟨cell_st3 _ S4.p4.facts.1 Yo,cell_st3 _ S4.p4.facts.2.1 Yo,cell_st3 _ S4.p4.facts.2.2.1 Yo,cell_st3 _ S4.p5.facts.1 Yo,cell_st3 _ S4.p5.facts.2.1 Yo,cell_st3 _ S4.p5.facts.2.2.1 Yo⟩ fun Hh=>?_;clear hK K
 refine Yw ?_
 clear Hh
 go_wp2_with fail
 refine ret_b3 S4.p6 (fun W d0 d1 d2=>by simp [results,Tryz.results102,go_sem,d0,d1,d2];try rfl) rfl ?_
 exact ⟨_,rfl,Qd.put3 S4.p8 S4.p6 _ _ _,S4.p6.below S4.q9 Yo _ _ _⟩
end
end I
end
section
section
open Go Go.RowKit Go.Proofs Pl
structure Tm where
 c:Int
 b:Bool
 A:Option Addr
 l:Nat
 k:Nat
 B:Option Addr
 m:Nat
 d:Nat
 q:Rat
def Tm.num (x:Tm):Value:=.agg #[.bool x.b,.slice x.A x.l x.k,.slice x.B x.m x.d]
def Tm.t (x:Tm):Int × Rat:=(x.c,x.q)
def flatT:List Tm->List Value
 | []=>[]
 | x::xs=>.int .i64 x.c::.bool x.b::.slice x.A x.l x.k::.slice x.B x.m x.d::flatT xs
theorem flatT_at {xs:List Tm} {i:Nat} {x:Tm} (h:xs[i]?=some x):
 (flatT xs)[i*4]?=some (.int .i64 x.c)/\(flatT xs)[i*4+1]?=some (.bool x.b)/\(flatT xs)[i*4+2]?=some (.slice x.A x.l x.k)/\(flatT xs)[i*4+3]?=some (.slice x.B x.m x.d):=by
 induction xs generalizing i with
 | nil=>simp at h
 | cons y xs ih=>
  cases i with
  | zero=>
   obtain rfl:y=x:=by simpa using h
   exact ⟨rfl,rfl,rfl,rfl⟩
  | succ i=>
   obtain ⟨a,b,c,d⟩:=ih (i:=i) (by simpa using h)
   rw [show (i+1)*4=i*4+4 from by omega]
   exact ⟨a,b,c,d⟩
def TRd (w:World) (A:Option Addr) (us:List Value):Prop:=us=[]∨∃ g o,A=some ⟨g,o,none⟩/\g<w.heap.size/\∀ (i:Nat) (u:Value),us[i]?=some u->w.cell? ⟨g,o+i,none⟩=some u
theorem TRd.keep {w w':World} {A:Option Addr} {us:List Value} (h:TRd w A us) (hb:Below w.heap.size w w'):TRd w' A us:=by
 rcases h with h | ⟨g,o,e,hg,hc⟩
 · exact .inl h
 · exact .inr ⟨g,o,e,Nat.lt_of_lt_of_le hg hb.size,fun i u hi=>(hb.cell (p:=⟨g,o+i,none⟩) hg).trans (hc i u hi)⟩
def Tl (w:World) (L:Nat) (v:Value) (xs:List Tm):Prop:=
 ∃ A cap,v=.slice A xs.length cap/\xs.length<=cap/\cap<=maxLen/\(A=none->cap=0)/\TRd w A (flatT xs)/\∀ x∈xs,Qv w L x.num x.q
def Vt (w:World) (L:Nat) (v:Value) (l:Tms):Prop:=∃ xs,Tl w L v xs/\xs.map Tm.t=l
section
variable {w w' W:World} {L M:Nat} {v:Value} {xs:List Tm} {l:Tms}
theorem Tl.keep (h:Tl w L v xs) (hb:Below w.heap.size w w'):Tl w' L v xs:=by
 obtain ⟨A,cap,e,h1,h2,h3,h4,h5⟩:=h
 exact ⟨A,cap,e,h1,h2,h3,h4.keep hb,fun x hx=>(h5 x hx).keep hb⟩
theorem Vt.keep (h:Vt w L v l) (hb:Below w.heap.size w w'):Vt w' L v l:=by
 obtain ⟨xs,h1,h2⟩:=h
 exact ⟨xs,h1.keep hb,h2⟩
theorem TRd.at_ {A:Option Addr} {i:Nat} {x:Tm} (h:TRd w A (flatT xs)) (hi:xs[i]?=some x):
 ∃ g o,A=some ⟨g,o,none⟩/\g<w.heap.size/\w.cell? ⟨g,o+i*4,none⟩=some (.int .i64 x.c)/\w.cell? ⟨g,o+i*4+1,none⟩=some (.bool x.b)/\
  w.cell? ⟨g,o+i*4+2,none⟩=some (.slice x.A x.l x.k)/\w.cell? ⟨g,o+i*4+3,none⟩=some (.slice x.B x.m x.d):=by
 obtain ⟨a,b,c,d⟩:=flatT_at hi
 rcases h with h | ⟨g,o,e,hg,hc⟩
 · rw [h] at a;simp at a
 · exact ⟨g,o,e,hg,hc _ _ a,hc _ _ b,hc _ _ c,hc _ _ d⟩
end
def B4 (t:TypeId) (w:World) (g:Nat) (a b c d:Value):Prop:=w.heap[g]?=some (.cells #[a,b,c,d] t (0,0))
theorem sm_zero:Small64 0:=by unfold Small64;omega
def getV (l:Tms) (c:Int):Rat:=if 0<=c then sumAt l c else 0
theorem sz_sum {L:Nat} {l:Tms} (h:∀ t∈l,Sz L t.2) (c:Int):Sz (1+l.length*(L+1)) (sumAt l c):=by
 induction l with
 | nil=>exact sz_zero.mono Yo
 | cons t l ih=>
  obtain ⟨k,q⟩:=t
  have h1:=ih fun t ht=>h t (by simp [ht])
  have h2:=h (k,q) (by simp)
  have e:1+((k,q)::l).length*(L+1)=L+(1+l.length*(L+1))+1:=by
   rw [List.length_cons,Nat.succ_mul];omega
  rw [e]
  simp only [sumAt]
  split
  · exact h2.add h1
  · rw [Rat.zero_add];exact h1.mono Yo
theorem sz_get {L:Nat} {l:Tms} (h:∀ t∈l,Sz L t.2) (c:Int):Sz (1+l.length*(L+1)) (getV l c):=by
 unfold getV
 split
 · exact sz_sum h c
 · exact sz_zero.mono Yo
theorem get_succ {l:Tms} {i:Nat} {t:Int × Rat} (h:l[i]?=some t) (c:Int):getV (l.take (i+1)) c=if t.1=c/\0<=c then getV (l.take i) c+t.2 else getV (l.take i) c:=by
 obtain ⟨hi,rfl⟩:=List.getElem?_eq_some_iff.1 h
 rw [List.take_succ_eq_append_getElem hi]
 unfold getV
 by_cases h0:0<=c
 · rw [if_pos h0,if_pos h0,sumAt_app]
   by_cases hc:l[i].1=c
   · rw [if_pos ⟨hc,h0⟩];simp [sumAt,hc,Rat.add_zero]
   · rw [if_neg (fun h=>hc h.1)];simp [sumAt,hc,Rat.add_zero]
 · rw [if_neg h0,if_neg h0,if_neg (fun h=>h0 h.2)]
end
end
section
section
open Go Go.RowKit Go.Proofs Pl
def Up (l:List Tm):Prop:=l.Pairwise fun a b=>a.c<=b.c
theorem isNaN_i (a:Int) (w:World):Calls Tryz.prog 152 #[.int .i64 a] w fun e w'=>e=.returned (.bool false)/\w'=w:=by
 go_enter Tryz.func152,Tryz.ntmps152
 have e1:(a !=a)=false:=by simp
 go_wp2_with fail
 go_ret
 exact ⟨rfl,rfl⟩
theorem compare_i (a b:Int) (w:World):Calls Tryz.prog 97 #[.int .i64 a,.int .i64 b] w fun e w'=>e=.returned (.int .i64 (cmpZ a b))/\Below w.heap.size w w':=by
 by_cases h:a<b
 · rw [show cmpZ a b=-1 from if_pos h]
   go_enter Tryz.func97,Tryz.ntmps97
   go_wp2_with fail
   refine (isNaN_i a _).mono ?_;rintro e w1 ⟨rfl,rfl⟩
   go_wp2_with fail
   refine (isNaN_i b _).mono ?_;rintro e w1 ⟨rfl,rfl⟩
   go_wp2_with fail
   go_ret
   exact ⟨rfl,Below.refl _ _⟩
 · by_cases h2:a=b
   · rw [show cmpZ a b=0 from by unfold cmpZ;rw [if_neg h,if_pos h2]]
     subst h2
     go_enter Tryz.func97,Tryz.ntmps97
     go_wp2_with fail
     refine (isNaN_i a _).mono ?_;rintro e w1 ⟨rfl,rfl⟩
     go_wp2_with fail
     refine (isNaN_i a _).mono ?_;rintro e w1 ⟨rfl,rfl⟩
     go_wp2_with fail
     go_ret
     exact ⟨rfl,Below.refl _ _⟩
   · rw [show cmpZ a b=1 from by unfold cmpZ;rw [if_neg h,if_neg h2]]
     have h3:b<a:=Yo
     go_enter Tryz.func97,Tryz.ntmps97
     go_wp2_with fail
     refine (isNaN_i a _).mono ?_;rintro e w1 ⟨rfl,rfl⟩
     go_wp2_with fail
     refine (isNaN_i b _).mono ?_;rintro e w1 ⟨rfl,rfl⟩
     go_wp2_with fail
     go_ret
     exact ⟨rfl,Below.refl _ _⟩
end
end
end Go.Proofs.YtaajajngnmaggaaGreat
