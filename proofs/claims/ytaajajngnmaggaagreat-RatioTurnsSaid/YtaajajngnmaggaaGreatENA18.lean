import Derived.Test.YtaajajngnmaggaaGreatENA17
import Derived.Test.YtaajajngnmaggaaGreatENA16
set_option maxRecDepth 100000
set_option maxHeartbeats 8000000
set_option linter.unusedVariables false
set_option linter.unusedSimpArgs false
namespace Go.Proofs.YtaajajngnmaggaaGreat
section
section
open Go Go.RowKit Go.Proofs Pl
theorem box1 (w:World) (T:TypeId) (us:List Value):Bl (w.alloc (.cells us.toArray T)) T w.heap.size us/\Below w.heap.size w (w.alloc (.cells us.toArray T)):=⟨Bl.new w T us,Ya w _⟩
theorem box2 (w:World) (T U:TypeId) (us vs:List Value):Bl ((w.alloc (.cells us.toArray T)).alloc (.cells vs.toArray U)) T w.heap.size us/\Bl ((w.alloc (.cells us.toArray T)).alloc (.cells vs.toArray U)) U (w.heap.size+1) vs/\Below w.heap.size w ((w.alloc (.cells us.toArray T)).alloc (.cells vs.toArray U)):=
 ⟨(Bl.new w T us).alloc _,Bl.new1 w _ U vs,Yb (Ya w _) (Ya _ _)⟩
theorem box3 (w:World) (T U V:TypeId) (us vs xs:List Value):Bl (((w.alloc (.cells us.toArray T)).alloc (.cells vs.toArray U)).alloc (.cells xs.toArray V)) T w.heap.size us/\Bl (((w.alloc (.cells us.toArray T)).alloc (.cells vs.toArray U)).alloc (.cells xs.toArray V)) U (w.heap.size+1) vs/\Bl (((w.alloc (.cells us.toArray T)).alloc (.cells vs.toArray U)).alloc (.cells xs.toArray V)) V (w.heap.size+2) xs/\Below w.heap.size w (((w.alloc (.cells us.toArray T)).alloc (.cells vs.toArray U)).alloc (.cells xs.toArray V)):=by
 obtain ⟨h1,h2,h3⟩:=box2 w T U us vs
 have h4:=Bl.new ((w.alloc (.cells us.toArray T)).alloc (.cells vs.toArray U)) V xs
 exact ⟨h1.alloc _,h2.alloc _,by simpa using h4,Yb h3 (Ya _ _)⟩
theorem cmpZ_mul {x y k:Int} (hk:0<k):cmpZ (x*k) (y*k)=cmpZ x y:=by
 unfold cmpZ
 by_cases h:x<y
 · rw [if_pos h,if_pos (Int.mul_lt_mul_of_pos_right h hk)]
 · have h2:¬ x*k<y*k:=fun h3=>h (Int.lt_of_mul_lt_mul_right h3 (Int.le_of_lt hk))
   rw [if_neg h,if_neg h2]
   by_cases e:x=y
   · rw [if_pos e,if_pos (by rw [e])]
   · rw [if_neg e,if_neg (fun h3=>e (Int.eq_of_mul_eq_mul_right (Int.ne_of_gt hk) h3))]
theorem mk_parts (z:Int) {N:Nat} (h:N≠0):∃ g:Nat,g≠0/\z=(mkRat z N).num*g/\N=(mkRat z N).den*g:=by
 have e:mkRat z N=⟨(mkRat z N).num,(mkRat z N).den,(mkRat z N).den_nz,(mkRat z N).reduced⟩:=rfl
 exact Rat.mkRat_num_den h e
theorem cmp_mk {z z2:Int} {N N2:Nat} (h:N≠0) (h2:N2≠0):cmpZ (z*(N2:Int)) (z2*(N:Int))=cmpQ (mkRat z N) (mkRat z2 N2):=by
 rw [<- cmpQ_z]
 obtain ⟨g,hg,e1,e2⟩:=mk_parts z h
 obtain ⟨k,hk,e3,e4⟩:=mk_parts z2 h2
 generalize (mkRat z N).num=a at*
 generalize (mkRat z N).den=b at*
 generalize (mkRat z2 N2).num=c at*
 generalize (mkRat z2 N2).den=d at*
 subst e1 e2 e3 e4
 have e:(0:Int)<(g:Int)*(k:Int):=Int.mul_pos Yo Yo
 rw [<- cmpZ_mul (x:=a*(d:Int)) (y:=c*(b:Int)) e]
 congr 1
 · rw [Int.natCast_mul];ac_rfl
 · rw [Int.natCast_mul];ac_rfl
theorem cmp_v {w:World} {L M:Nat} {a u:Value} {q r:Rat} (ha:Qv w L a q) (hu:Qv w M u r) (h0:0<L) (h0':0<M) (h1:L<=17179869184) (h2:M<=17179869184):
 Calls Tryz.prog 89 #[a,u] w fun e w'=>e=.returned (.int .i64 (cmpQ q r))/\Yg w w':=by
 obtain ⟨z,m,⟨b,A,l,c,B,k,d,rfl,hz,hm⟩,rfl⟩:=ha
 obtain ⟨z2,m2,⟨b2,A2,l2,c2,B2,k2,d2,rfl,hz2,hm2⟩,rfl⟩:=hu
 have HQ:=Lib.hid (cmp_mk (z:=z) (z2:=z2) (den_ne m) (den_ne m2))
 have e2:∀ {a b:Nat},a<WB ^ L->b<WB ^ M->a*b<WB ^ (L+M):=fun ha hb=>by rw [Nat.pow_add];exact Nat.mul_lt_mul'' ha hb
 have b1:(z*(den m2:Int)).natAbs<WB ^ (L+M):=by rw [Int.natAbs_mul];exact e2 hz.lt (den_lt hm2.lt h0')
 have b2:(z2*(den m:Int)).natAbs<WB ^ (L+M):=by rw [Int.natAbs_mul,Nat.mul_comm];exact e2 (den_lt hm.lt h0) hz2.lt
 have HB:=Yh2 b1 b2
 have HE:=Yh4 h0 h0' h1 h2
 have HZ:=Yh4 hz hm hz2 hm2
 clear hz hm hz2 hm2 h0 h0' h1 h2 e2 b1 b2
 go_enter Tryz.func89,Tryz.ntmps89
 go_upto_region 1 with (fail)
 obtain ⟨hX,hY,hB⟩:=box2 w 36 36 [.bool b,.slice A l c,.slice B k d] [.bool b2,.slice A2 l2 c2,.slice B2 k2 d2]
 have HX:=Yh3 hX hY hB
 clear hX hY hB
 generalize (w.alloc _).alloc _=W0 at HX ⊢
 go_upto_region 1 with (fail)
 have HC:Hid (∀ W,Yg W0 W->W.cell? ⟨w.heap.size,0,none⟩=some (.bool b)/\W.cell? ⟨w.heap.size,1,none⟩=some (.slice A l c)/\W.cell? ⟨w.heap.size,2,none⟩=some (.slice B k d)/\W.cell? ⟨(w.heap.size+1),0,none⟩=some (.bool b2)/\W.cell? ⟨(w.heap.size+1),1,none⟩=some (.slice A2 l2 c2)/\W.cell? ⟨(w.heap.size+1),2,none⟩=some (.slice B2 k2 d2)):=fun W hb=>⟨Bl.ld (HX.p0.keep hb) 0 rfl,Bl.ld (HX.p0.keep hb) 1 rfl,Bl.ld (HX.p0.keep hb) 2 rfl,Bl.ld (HX.p1.keep hb) 0 rfl,Bl.ld (HX.p1.keep hb) 1 rfl,Bl.ld (HX.p1.keep hb) 2 rfl⟩
 refine flow (fun W=>Yg W0 W/\W.cell? ⟨w.heap.size,0,none⟩=some (.bool b)/\W.cell? ⟨w.heap.size,1,none⟩=some (.slice A l c)/\W.cell? ⟨w.heap.size,2,none⟩=some (.slice B k d)/\W.cell? ⟨(w.heap.size+1),0,none⟩=some (.bool b2)/\W.cell? ⟨(w.heap.size+1),1,none⟩=some (.slice A2 l2 c2)/\W.cell? ⟨(w.heap.size+1),2,none⟩=some (.slice B2 k2 d2)) (fun _ _=>True) (fun _ _=>False) 0 [⟨[],[(0,5),(1,6),(4,9),(5,10)],[],[(2,7,fun v W=>∃ A l c,v=.slice A l c/\Nm W M (.slice A l c) (den m2)),(6,11,fun v W=>∃ A l c,v=.slice A l c/\Nm W L (.slice A l c) (den m))]⟩,⟨[(2,7)],[(0,5)],[],[(3,8,fun v W=>∃ p A l c,v=.agg #[.bool p,.slice A l c]/\Zn W (L+M) (.agg #[.bool p,.slice A l c]) (z*(den m2:Int)))]⟩,⟨[(6,11)],[(4,9)],[],[(7,12,fun v W=>∃ p A l c,v=.agg #[.bool p,.slice A l c]/\Zn W (L+M) (.agg #[.bool p,.slice A l c]) (z2*(den m:Int)))]⟩,⟨[(8,13)],[(9,4)],[],[]⟩,⟨[(3,8),(7,12)],[],[],[(8,13,fun v W=>v=.int .i64 (cmpZ (z*(den m2:Int)) (z2*(den m:Int))))]⟩] [] [] ⟨[(2,7),(3,8),(6,11),(7,12),(8,13)],[(0,5),(1,6),(4,9),(5,10),(9,4)],[],[]⟩ ⟨below_nil,HC.out _ below_nil⟩ (trivial) (fun _ _ h b=>⟨Yb h.1 b,HC.out _ (Yb h.1 b)⟩) (fun _ _ _ h _=>h) ⟨fun _ _ _ ⟨A,l,c,e,h⟩ b=>⟨A,l,c,e,h.keep b⟩,fun _ _ _ _ h=>h.elim,⟨fun _ _ _ ⟨A,l,c,e,h⟩ b=>⟨A,l,c,e,h.keep b⟩,fun _ _ _ _ h=>h.elim,⟨fun _ _ _ ⟨p,A,l,c,e,h⟩ b=>⟨p,A,l,c,e,h.keep b⟩,fun _ _ _ _ h=>h.elim,⟨fun _ _ _ ⟨p,A,l,c,e,h⟩ b=>⟨p,A,l,c,e,h.keep b⟩,fun _ _ _ _ h=>h.elim,⟨fun _ _ _ h _=>h,fun _ _ _ _ h=>h.elim,trivial⟩⟩⟩⟩⟩ ⟨?_,?_,?_,?_,?_,trivial⟩ trivial trivial ?_
 · rintro W hS
   refine gvN ?_;(repeat refine flA ?_);refine flN (flN ?_)
   refine flK (fun K hK=>?_) (flK (fun K hK=>?_) flL)
   · go_simp
     go_at_call 114;refine (under_q (HZ.q3.keep (Yb HX.q2 hS.1)) HE.p1 (by have:=HE.out;omega)).mono ?_;rintro e W2 ⟨v,rfl,h,hb⟩
     obtain ⟨A,l,c,rfl⟩:=h.form
     go_wp2_with fail
     exact hK.out _ _ ⟨⟨_,_,_,rfl,h⟩,hb⟩
   · go_simp
     go_at_call 114;refine (under_q (HZ.p1.keep (Yb HX.q2 hS.1)) HE.p0 (by have:=HE.out;omega)).mono ?_;rintro e W2 ⟨v,rfl,h,hb⟩
     obtain ⟨A,l,c,rfl⟩:=h.form
     go_wp2_with fail
     exact hK.out _ _ ⟨⟨_,_,_,rfl,h⟩,hb⟩
 · rintro W hS v2 ⟨E2,n2,k2,rfl,h2⟩
   refine gvN ?_;(repeat refine flA ?_);refine flN (flN ?_)
   refine flK (fun K hK=>?_) flL
   go_simp
   go_at_call 113;refine (over_q (Qz.mk (HZ.p0.keep (Yb HX.q2 hS.1)) (HZ.p1.keep (Yb HX.q2 hS.1))) h2 (by have:=HE.out;omega) (by have:=HE.out;omega)).mono ?_;rintro e W2 ⟨v,rfl,h⟩
   obtain ⟨p,A,l,c,rfl,-⟩:=h.parts
   go_wp2_with fail
   exact hK.out _ _ ⟨⟨_,_,_,_,rfl,h.zn HB.p0⟩,h.below⟩
 · rintro W hS v6 ⟨E6,n6,k6,rfl,h6⟩
   refine gvN ?_;(repeat refine flA ?_);refine flN (flN ?_)
   refine flK (fun K hK=>?_) flL
   go_simp
   go_at_call 113;refine (over_q (Qz.mk (HZ.p2.keep (Yb HX.q2 hS.1)) (HZ.q3.keep (Yb HX.q2 hS.1))) h6 (by have:=HE.out;omega) (by have:=HE.out;omega)).mono ?_;rintro e W2 ⟨v,rfl,h⟩
   obtain ⟨p,A,l,c,rfl,-⟩:=h.parts
   go_wp2_with fail
   exact hK.out _ _ ⟨⟨_,_,_,_,rfl,h.zn HB.q1⟩,h.below⟩
 · rintro W hS v8 rfl
   refine gvN ?_;(repeat refine flA ?_);refine flN (flN ?_)
   exact flL
 · rintro W hS v3 ⟨p3,E3,n3,k3,rfl,h3⟩ v7 ⟨p7,E7,n7,k7,rfl,h7⟩
   refine gvN ?_;refine flN (flN ?_)
   refine flK (fun K hK=>?_) flL
   go_simp
   go_at_call 146;refine (cmp_z h3 h7 (by have:=HE.out;omega) (by have:=HE.out;omega)).mono ?_;rintro e W2 ⟨rfl,hb⟩
   go_wp2_with fail
   exact hK.out _ _ ⟨rfl,hb⟩
 rintro W hS - v2 ⟨E2,n2,k2,rfl,h2⟩ v3 ⟨p3,E3,n3,k3,rfl,h3⟩ v6 ⟨E6,n6,k6,rfl,h6⟩ v7 ⟨p7,E7,n7,k7,rfl,h7⟩ v8 rfl
 have hS:=hS flY
 refine gvN ?_;(repeat refine flA ?_);refine flN (flN ?_)
 go_wp2_with fail
 go_ret
 exact ⟨congrArg (fun x=>Ending.returned (.int .i64 x)) HQ.out,Yb HX.q2 hS.1⟩
theorem neg_v {w:World} {L:Nat} {a:Value} {q:Rat} (ha:Qv w L a q) (h0:0<L) (h1:L<=17179869184):
 Calls Tryz.prog 58 #[a] w fun e w'=>∃ v,e=.returned v/\Qr w w' v (-q):=by
 obtain ⟨z,m,⟨b,A,l,c,B,k,d,rfl,hz,hm⟩,rfl⟩:=ha
 have HZ:=Yh2 hz hm
 have HE:=Yh2 h0 h1
 clear hz hm h0 h1
 go_enter Tryz.func58,Tryz.ntmps58
 go_upto_region 1 with (fail)
 obtain ⟨hX,hR,hB⟩:=box2 w 36 36 [.bool b,.slice A l c,.slice B k d] [.bool false,.slice none 0 0,.slice none 0 0]
 have HX:=Yh3 hX hR hB
 clear hX hR hB
 generalize (w.alloc _).alloc _=W0 at HX ⊢
 go_upto_region 1 with (fail)
 have HC:Hid (∀ W,Yg W0 W->W.cell? ⟨w.heap.size,0,none⟩=some (.bool b)/\W.cell? ⟨w.heap.size,1,none⟩=some (.slice A l c)/\W.cell? ⟨w.heap.size,2,none⟩=some (.slice B k d)):=fun W hb=>⟨Bl.ld (HX.p0.keep hb) 0 rfl,Bl.ld (HX.p0.keep hb) 1 rfl,Bl.ld (HX.p0.keep hb) 2 rfl⟩
 refine flow (fun W=>Yg W0 W/\W.cell? ⟨w.heap.size,0,none⟩=some (.bool b)/\W.cell? ⟨w.heap.size,1,none⟩=some (.slice A l c)/\W.cell? ⟨w.heap.size,2,none⟩=some (.slice B k d)) (fun vs W=>match vs with|[]=>True|_=>∃ p A l c B k d,Bl W 36 (w.heap.size+1) [.bool p,.slice A l c,.slice B k d]/\Qr w W (.agg #[.bool p,.slice A l c,.slice B k d]) (-mkRat z (den m))) (fun _ _=>False) 0 [⟨[],[(0,3),(1,4),(3,6)],[],[(2,5,fun v W=>∃ p A l c,v=.agg #[.bool p,.slice A l c]/\Zn W L (.agg #[.bool p,.slice A l c]) (-z)),(4,7,fun v W=>∃ A l c,v=.slice A l c/\Nm W L (.slice A l c) (den m))]⟩,⟨[(2,5),(4,7)],[],[],[(5,8,fun v W=>∃ p A l c B k d,v=.agg #[.bool p,.slice A l c,.slice B k d]/\Qr W0 W (.agg #[.bool p,.slice A l c,.slice B k d]) (-mkRat z (den m)))]⟩] [] [⟨6,none,[(5,8)],[],[]⟩] ⟨[(2,5),(4,7),(5,8)],[(0,3),(1,4),(3,6)],[],[]⟩ ⟨below_nil,HC.out _ below_nil⟩ (trivial) (fun _ _ h b=>⟨Yb h.1 b,HC.out _ (Yb h.1 b)⟩) (fun vs _ _ h b=>match vs,h with|[],_=>trivial|_::_,⟨p,A,l,c,B,k,d,h1,h2⟩=>⟨p,A,l,c,B,k,d,h1.keep b,h2.keep b⟩) ⟨fun _ _ _ ⟨p,A,l,c,e,h⟩ b=>⟨p,A,l,c,e,h.keep b⟩,fun _ _ _ _ h=>h.elim,⟨fun _ _ _ ⟨A,l,c,e,h⟩ b=>⟨A,l,c,e,h.keep b⟩,fun _ _ _ _ h=>h.elim,⟨fun _ _ _ ⟨p,A,l,c,B,k,d,e,h⟩ b=>⟨p,A,l,c,B,k,d,e,h.keep b⟩,fun _ _ _ _ h=>h.elim,trivial⟩⟩⟩ ⟨?_,?_,trivial⟩ trivial ⟨?_,trivial⟩ ?_
 · rintro W hS
   refine gvN ?_;(repeat refine flA ?_);refine flN (flN ?_)
   refine flK (fun K hK=>?_) (flK (fun K hK=>?_) flL)
   · go_simp
     go_at_call 122;refine (neg_z (HZ.p0.keep (Yb HX.q2 hS.1)) (by have:=HE.out;omega)).mono ?_;rintro e W2 ⟨v,rfl,h⟩
     obtain ⟨p,A,l,c,rfl,-⟩:=h.parts
     go_wp2_with fail
     exact hK.out _ _ ⟨⟨_,_,_,_,rfl,h.zn (by rw [Int.natAbs_neg];exact HZ.p0.lt)⟩,h.below⟩
   · go_simp
     go_at_call 114;refine (under_q (HZ.q1.keep (Yb HX.q2 hS.1)) HE.p0 (by have:=HE.out;omega)).mono ?_;rintro e W2 ⟨v,rfl,h,hb⟩
     obtain ⟨A,l,c,rfl⟩:=h.form
     go_wp2_with fail
     exact hK.out _ _ ⟨⟨_,_,_,rfl,h⟩,hb⟩
 · rintro W hS v2 ⟨p2,E2,n2,k2,rfl,h2⟩ v4 ⟨E4,n4,k4,rfl,h4⟩
   refine gvN ?_;refine flN (flN ?_)
   refine flK (fun K hK=>?_) flL
   go_simp
   go_at_call 118;refine (lowest_q h2 h4 (den_ne m) (by have:=HE.out;omega) (by have:=HE.out;omega)).mono ?_;rintro e W2 ⟨v,rfl,h⟩
   have h:Qr W W2 v (-mkRat z (den m)):=by rw [Rat.neg_mkRat];exact qs_of h (den_ne m)
   obtain ⟨p,A,l,c,B,k,d,rfl⟩:=h.qo.parts
   go_wp2_with fail
   exact hK.out _ _ ⟨⟨_,_,_,_,_,_,_,rfl,h.from hS.1⟩,h.below⟩
 · rintro W hS - v5 ⟨p5,E5,n5,k5,F5,m5,d5,rfl,h5⟩
   have hS:=hS flY
   refine gvN ?_;refine flN (flN ?_)
   refine flC fun K hK=>?_
   have X:=HX.p1.keep hS.1
   have f0:=Bl.fr X 0
   have f1:=Bl.fr X 1
   have f2:=Bl.fr X 2
   have r0:=Bl.ld X 0 rfl
   have r1:=Bl.ld X 1 rfl
   have r2:=Bl.ld X 2 rfl
   go_simp
   clear f0 f1 f2 r0 r1 r2
   exact hK.out undef _ ⟨⟨_,_,_,_,_,_,_,X.set3 rfl (.bool p5) (.slice E5 n5 k5) (.slice F5 m5 d5),(h5.from HX.q2).keepT (X.keep3 Yd (.bool p5) (.slice E5 n5 k5) (.slice F5 m5 d5)) (below3 (Yb HX.q2 hS.1) Yo (.bool p5) (.slice E5 n5 k5) (.slice F5 m5 d5))⟩,fun h=>flX h⟩
 rintro W hS c6 ⟨p,A,l,c,B,k,d,X,hq⟩ v2 - v4 - v5 ⟨_,p5,E5,n5,k5,F5,m5,d5,rfl,-⟩
 clear hS
 refine gvN ?_;(repeat refine flA ?_);refine flN (flN ?_)
 go_wp2_with fail
 refine ret_bl X (fun W2 hW=>by have d0:=hW 0 _ rfl;have d1:=hW 1 _ rfl;have d2:=hW 2 _ rfl;simp [results,Tryz.results58,go_sem,d0,d1,d2];try rfl) rfl ?_
 exact ⟨_,rfl,hq⟩
theorem sz_neg {L:Nat} {q:Rat} (h:Sz L q):Sz L (-q):=by
 unfold Sz at h ⊢
 rw [Rat.neg_num,Rat.neg_den,Int.natAbs_neg];exact h
theorem div_mk {z z2:Int} {N N2:Nat} (h:N≠0) (h2:N2≠0) (h3:z2≠0):mkRat (upz (z*(N2:Int)) (z2*(N:Int))) (z2*(N:Int)).natAbs=mkRat z N / mkRat z2 N2:=by
 have hN:(0:Int)<(N:Int):=Yo
 rw [Rat.div_def,<- Rat.divInt_ofNat,<- Rat.divInt_ofNat,<- Rat.divInt_ofNat,Rat.inv_divInt,Rat.divInt_mul_divInt _ _]
 unfold upz
 by_cases hz:z2<0
 · have hl:z2*(N:Int)<0:=Int.mul_neg_of_neg_of_pos hz hN
   rw [if_pos hl,show (((z2*(N:Int)).natAbs:Nat):Int)=-(z2*(N:Int)) from by omega,Rat.neg_divInt_neg,Int.mul_comm z2]
 · have hl:0<=z2*(N:Int):=Int.mul_nonneg Yo Yo
   rw [if_neg (by omega),show (((z2*(N:Int)).natAbs:Nat):Int)=z2*(N:Int) from by omega,Int.mul_comm z2]
theorem sub_v {w:World} {L M:Nat} {a u:Value} {q r:Rat} (ha:Qv w L a q) (hu:Qv w M u r) (h0:0<L) (h0':0<M) (h1:L<=17179869184) (h2:M<=17179869184):
 Calls Tryz.prog 98 #[a,u] w fun e w'=>∃ v,e=.returned v/\Qr w w' v (q - r):=by
 have HA:=Lib.hid ha
 have HU:=Lib.hid hu
 obtain ⟨z,m,⟨b,A,l,c,B,k,d,rfl,hz,hm⟩,rfl⟩:=ha
 obtain ⟨z2,m2,⟨b2,A2,l2,c2,B2,k2,d2,rfl,hz2,hm2⟩,rfl⟩:=hu
 have HE:=Yh4 h0 h0' h1 h2
 clear hz hm hz2 hm2 h0 h0' h1 h2
 go_enter Tryz.func98,Tryz.ntmps98
 go_upto_region 1 with (fail)
 obtain ⟨hX,hY,hR,hB⟩:=box3 w 36 36 36 [.bool b,.slice A l c,.slice B k d] [.bool b2,.slice A2 l2 c2,.slice B2 k2 d2] [.bool false,.slice none 0 0,.slice none 0 0]
 have HX:=Yh4 hX hY hR hB
 clear hX hY hR hB
 generalize ((w.alloc _).alloc _).alloc _=W0 at HX ⊢
 go_upto_region 1 with (fail)
 have HC:Hid (∀ W,Yg W0 W->W.cell? ⟨w.heap.size,0,none⟩=some (.bool b)/\W.cell? ⟨w.heap.size,1,none⟩=some (.slice A l c)/\W.cell? ⟨w.heap.size,2,none⟩=some (.slice B k d)/\W.cell? ⟨(w.heap.size+1),0,none⟩=some (.bool b2)/\W.cell? ⟨(w.heap.size+1),1,none⟩=some (.slice A2 l2 c2)/\W.cell? ⟨(w.heap.size+1),2,none⟩=some (.slice B2 k2 d2)):=fun W hb=>⟨Bl.ld (HX.p0.keep hb) 0 rfl,Bl.ld (HX.p0.keep hb) 1 rfl,Bl.ld (HX.p0.keep hb) 2 rfl,Bl.ld (HX.p1.keep hb) 0 rfl,Bl.ld (HX.p1.keep hb) 1 rfl,Bl.ld (HX.p1.keep hb) 2 rfl⟩
 refine flow (fun W=>Yg W0 W/\W.cell? ⟨w.heap.size,0,none⟩=some (.bool b)/\W.cell? ⟨w.heap.size,1,none⟩=some (.slice A l c)/\W.cell? ⟨w.heap.size,2,none⟩=some (.slice B k d)/\W.cell? ⟨(w.heap.size+1),0,none⟩=some (.bool b2)/\W.cell? ⟨(w.heap.size+1),1,none⟩=some (.slice A2 l2 c2)/\W.cell? ⟨(w.heap.size+1),2,none⟩=some (.slice B2 k2 d2)) (fun vs W=>match vs with|[]=>True|_=>∃ p A l c B k d,Bl W 36 (w.heap.size+2) [.bool p,.slice A l c,.slice B k d]/\Qr w W (.agg #[.bool p,.slice A l c,.slice B k d]) (mkRat z (den m)-mkRat z2 (den m2))) (fun _ _=>False) 0 [⟨[],[(0,5),(1,6)],[],[(2,7,fun v W=>∃ p A l c B k d,v=.agg #[.bool p,.slice A l c,.slice B k d]/\Qr W0 W (.agg #[.bool p,.slice A l c,.slice B k d]) (-mkRat z2 (den m2)))]⟩,⟨[(2,7)],[(0,5)],[],[(3,8,fun v W=>∃ p A l c B k d,v=.agg #[.bool p,.slice A l c,.slice B k d]/\Qr W0 W (.agg #[.bool p,.slice A l c,.slice B k d]) (mkRat z (den m)-mkRat z2 (den m2)))]⟩] [] [⟨4,none,[(3,8)],[],[]⟩] ⟨[(2,7),(3,8)],[(0,5),(1,6)],[],[]⟩ ⟨below_nil,HC.out _ below_nil⟩ (trivial) (fun _ _ h b=>⟨Yb h.1 b,HC.out _ (Yb h.1 b)⟩) (fun vs _ _ h b=>match vs,h with|[],_=>trivial|_::_,⟨p,A,l,c,B,k,d,h1,h2⟩=>⟨p,A,l,c,B,k,d,h1.keep b,h2.keep b⟩) ⟨fun _ _ _ ⟨p,A,l,c,B,k,d,e,h⟩ b=>⟨p,A,l,c,B,k,d,e,h.keep b⟩,fun _ _ _ _ h=>h.elim,⟨fun _ _ _ ⟨p,A,l,c,B,k,d,e,h⟩ b=>⟨p,A,l,c,B,k,d,e,h.keep b⟩,fun _ _ _ _ h=>h.elim,trivial⟩⟩ ⟨?_,?_,trivial⟩ trivial ⟨?_,trivial⟩ ?_
 · rintro W hS
   refine gvN ?_;(repeat refine flA ?_);refine flN (flN ?_)
   refine flK (fun K hK=>?_) flL
   go_simp
   go_at_call 58;refine (neg_v (HU.out.keep (Yb HX.q3 hS.1)) HE.p1 HE.q3).mono ?_;rintro e W2 ⟨v,rfl,h⟩
   obtain ⟨p,A,l,c,B,k,d,rfl⟩:=h.qo.parts
   go_wp2_with fail
   exact hK.out _ _ ⟨⟨_,_,_,_,_,_,_,rfl,h.from hS.1⟩,h.below⟩
 · rintro W hS v2 ⟨p2,E2,n2,k2,F2,m2,d2,rfl,h2⟩
   refine gvN ?_;(repeat refine flA ?_);refine flN (flN ?_)
   refine flK (fun K hK=>?_) flL
   go_simp
   go_at_call 56;refine (add_v (HA.out.keep (Yb HX.q3 hS.1)) (h2.qv (sz_neg (HU.out.sz HE.p1))) HE.p0 HE.p1 HE.p2 HE.q3).mono ?_;rintro e W2 ⟨v,rfl,h⟩
   rw [<- Rat.sub_eq_add_neg] at h
   obtain ⟨p,A,l,c,B,k,d,rfl⟩:=h.qo.parts
   go_wp2_with fail
   exact hK.out _ _ ⟨⟨_,_,_,_,_,_,_,rfl,h.from hS.1⟩,h.below⟩
 · rintro W hS - v3 ⟨p3,E3,n3,k3,F3,m3,d3,rfl,h3⟩
   have hS:=hS flY
   refine gvN ?_;refine flN (flN ?_)
   refine flC fun K hK=>?_
   have X:=HX.p2.keep hS.1
   have f0:=Bl.fr X 0
   have f1:=Bl.fr X 1
   have f2:=Bl.fr X 2
   have r0:=Bl.ld X 0 rfl
   have r1:=Bl.ld X 1 rfl
   have r2:=Bl.ld X 2 rfl
   go_simp
   clear f0 f1 f2 r0 r1 r2
   exact hK.out undef _ ⟨⟨_,_,_,_,_,_,_,X.set3 rfl (.bool p3) (.slice E3 n3 k3) (.slice F3 m3 d3),(h3.from HX.q3).keepT (X.keep3 Yd (.bool p3) (.slice E3 n3 k3) (.slice F3 m3 d3)) (below3 (Yb HX.q3 hS.1) Yo (.bool p3) (.slice E3 n3 k3) (.slice F3 m3 d3))⟩,fun h=>flX h⟩
 rintro W hS c4 ⟨p,A,l,c,B,k,d,X,hq⟩ v2 ⟨_,p2,E2,n2,k2,F2,m2,d2,rfl,-⟩ v3 ⟨_,p3,E3,n3,k3,F3,m3,d3,rfl,-⟩
 clear hS
 refine gvN ?_;(repeat refine flA ?_);refine flN (flN ?_)
 go_wp2_with fail
 refine ret_bl X (fun W2 hW=>by have d0:=hW 0 _ rfl;have d1:=hW 1 _ rfl;have d2:=hW 2 _ rfl;simp [results,Tryz.results98,go_sem,d0,d1,d2];try rfl) rfl ?_
 exact ⟨_,rfl,hq⟩
theorem div_v {w:World} {L M:Nat} {a u:Value} {q r:Rat} (ha:Qv w L a q) (hu:Qv w M u r) (h0:0<L) (h0':0<M) (h1:L<=17179869184) (h2:M<=17179869184) (hr:r≠0):
 Calls Tryz.prog 51 #[a,u] w fun e w'=>∃ v,e=.returned (.tuple #[v,.int .i64 0])/\Qr w w' v (q / r):=by
 obtain ⟨z,m,⟨b,A,l,c,B,k,d,rfl,hz,hm⟩,rfl⟩:=ha
 obtain ⟨z2,m2,⟨b2,A2,l2,c2,B2,k2,d2,rfl,hz2,hm2⟩,rfl⟩:=hu
 have h3:z2≠0:=fun h=>hr (by rw [h,Rat.zero_mkRat])
 have h4:z2*(den m:Int)≠0:=Int.mul_ne_zero h3 (by have:=den_ne m;omega)
 have HN:=Yh3 h4 (Int.natAbs_ne_zero.2 h4) (div_mk (z:=z) (z2:=z2) (den_ne m) (den_ne m2) h3)
 clear hr h3 h4
 have e2:∀ {a b:Nat},a<WB ^ L->b<WB ^ M->a*b<WB ^ (L+M):=fun ha hb=>by rw [Nat.pow_add];exact Nat.mul_lt_mul'' ha hb
 have b1:(z*(den m2:Int)).natAbs<WB ^ (L+M):=by rw [Int.natAbs_mul];exact e2 hz.lt (den_lt hm2.lt h0')
 have b2:(z2*(den m:Int)).natAbs<WB ^ (L+M):=by rw [Int.natAbs_mul,Nat.mul_comm];exact e2 (den_lt hm.lt h0) hz2.lt
 have HB:=Yh2 b1 b2
 have HE:=Yh4 h0 h0' h1 h2
 have HZ:=Yh4 hz hm hz2 hm2
 clear hz hm hz2 hm2 h0 h0' h1 h2 e2 b1 b2
 go_enter Tryz.func51,Tryz.ntmps51
 go_upto_region 1 with (fail)
 obtain ⟨hX,hY,hR,hB⟩:=box3 w 36 36 36 [.bool b,.slice A l c,.slice B k d] [.bool b2,.slice A2 l2 c2,.slice B2 k2 d2] [.bool false,.slice none 0 0,.slice none 0 0]
 have HX:=Yh4 hX hY hR hB
 clear hX hY hR hB
 generalize ((w.alloc _).alloc _).alloc _=W0 at HX ⊢
 go_upto_region 1 with (fail)
 have HC:Hid (∀ W,Yg W0 W->W.cell? ⟨w.heap.size,0,none⟩=some (.bool b)/\W.cell? ⟨w.heap.size,1,none⟩=some (.slice A l c)/\W.cell? ⟨w.heap.size,2,none⟩=some (.slice B k d)/\W.cell? ⟨(w.heap.size+1),0,none⟩=some (.bool b2)/\W.cell? ⟨(w.heap.size+1),1,none⟩=some (.slice A2 l2 c2)/\W.cell? ⟨(w.heap.size+1),2,none⟩=some (.slice B2 k2 d2)):=fun W hb=>⟨Bl.ld (HX.p0.keep hb) 0 rfl,Bl.ld (HX.p0.keep hb) 1 rfl,Bl.ld (HX.p0.keep hb) 2 rfl,Bl.ld (HX.p1.keep hb) 0 rfl,Bl.ld (HX.p1.keep hb) 1 rfl,Bl.ld (HX.p1.keep hb) 2 rfl⟩
 refine flow (fun W=>Yg W0 W/\W.cell? ⟨w.heap.size,0,none⟩=some (.bool b)/\W.cell? ⟨w.heap.size,1,none⟩=some (.slice A l c)/\W.cell? ⟨w.heap.size,2,none⟩=some (.slice B k d)/\W.cell? ⟨(w.heap.size+1),0,none⟩=some (.bool b2)/\W.cell? ⟨(w.heap.size+1),1,none⟩=some (.slice A2 l2 c2)/\W.cell? ⟨(w.heap.size+1),2,none⟩=some (.slice B2 k2 d2)) (fun vs W=>match vs with|[]=>True|_=>∃ p A l c B k d,Bl W 36 (w.heap.size+2) [.bool p,.slice A l c,.slice B k d]/\Qr w W (.agg #[.bool p,.slice A l c,.slice B k d]) (mkRat z (den m)/mkRat z2 (den m2))) (fun _ _=>False) 0 [⟨[],[(0,6),(1,7),(4,10),(5,11)],[],[(2,8,fun v W=>∃ A l c,v=.slice A l c/\Nm W M (.slice A l c) (den m2)),(6,12,fun v W=>∃ A l c,v=.slice A l c/\Nm W L (.slice A l c) (den m))]⟩,⟨[(2,8)],[(0,6)],[],[(3,9,fun v W=>∃ p A l c,v=.agg #[.bool p,.slice A l c]/\Zn W (L+M) (.agg #[.bool p,.slice A l c]) (z*(den m2:Int)))]⟩,⟨[(6,12)],[(4,10)],[],[(7,13,fun v W=>∃ p A l c,v=.agg #[.bool p,.slice A l c]/\Zn W (L+M) (.agg #[.bool p,.slice A l c]) (z2*(den m:Int)))]⟩,⟨[(8,14)],[(9,15)],[],[]⟩,⟨[(3,9),(7,13)],[],[],[(8,14,fun v W=>∃ p A l c B k d,v=.tuple #[.agg #[.bool p,.slice A l c,.slice B k d],.int .i64 0]/\Qr W0 W (.agg #[.bool p,.slice A l c,.slice B k d]) (mkRat z (den m)/mkRat z2 (den m2)))]⟩] [⟨[(8,14)],[],[(10,16),(12,5)],[]⟩] [⟨11,none,[(8,14)],[(9,15)],[]⟩] ⟨[(2,8),(3,9),(6,12),(7,13),(8,14)],[(0,6),(1,7),(4,10),(5,11),(9,15)],[(10,16),(12,5)],[]⟩ ⟨below_nil,HC.out _ below_nil⟩ (trivial) (fun _ _ h b=>⟨Yb h.1 b,HC.out _ (Yb h.1 b)⟩) (fun vs _ _ h b=>match vs,h with|[],_=>trivial|_::_,⟨p,A,l,c,B,k,d,h1,h2⟩=>⟨p,A,l,c,B,k,d,h1.keep b,h2.keep b⟩) ⟨fun _ _ _ ⟨A,l,c,e,h⟩ b=>⟨A,l,c,e,h.keep b⟩,fun _ _ _ _ h=>h.elim,⟨fun _ _ _ ⟨A,l,c,e,h⟩ b=>⟨A,l,c,e,h.keep b⟩,fun _ _ _ _ h=>h.elim,⟨fun _ _ _ ⟨p,A,l,c,e,h⟩ b=>⟨p,A,l,c,e,h.keep b⟩,fun _ _ _ _ h=>h.elim,⟨fun _ _ _ ⟨p,A,l,c,e,h⟩ b=>⟨p,A,l,c,e,h.keep b⟩,fun _ _ _ _ h=>h.elim,⟨fun _ _ _ ⟨p,A,l,c,B,k,d,e,h⟩ b=>⟨p,A,l,c,B,k,d,e,h.keep b⟩,fun _ _ _ _ h=>h.elim,trivial⟩⟩⟩⟩⟩ ⟨?_,?_,?_,?_,?_,trivial⟩ ⟨?_,trivial⟩ ⟨?_,trivial⟩ ?_
 · rintro W hS
   refine gvN ?_;(repeat refine flA ?_);refine flN (flN ?_)
   refine flK (fun K hK=>?_) (flK (fun K hK=>?_) flL)
   · go_simp
     go_at_call 114;refine (under_q (HZ.q3.keep (Yb HX.q3 hS.1)) HE.p1 (by have:=HE.out;omega)).mono ?_;rintro e W2 ⟨v,rfl,h,hb⟩
     obtain ⟨A,l,c,rfl⟩:=h.form
     go_wp2_with fail
     exact hK.out _ _ ⟨⟨_,_,_,rfl,h⟩,hb⟩
   · go_simp
     go_at_call 114;refine (under_q (HZ.p1.keep (Yb HX.q3 hS.1)) HE.p0 (by have:=HE.out;omega)).mono ?_;rintro e W2 ⟨v,rfl,h,hb⟩
     obtain ⟨A,l,c,rfl⟩:=h.form
     go_wp2_with fail
     exact hK.out _ _ ⟨⟨_,_,_,rfl,h⟩,hb⟩
 · rintro W hS v2 ⟨E2,n2,k2,rfl,h2⟩
   refine gvN ?_;(repeat refine flA ?_);refine flN (flN ?_)
   refine flK (fun K hK=>?_) flL
   go_simp
   go_at_call 113;refine (over_q (Qz.mk (HZ.p0.keep (Yb HX.q3 hS.1)) (HZ.p1.keep (Yb HX.q3 hS.1))) h2 (by have:=HE.out;omega) (by have:=HE.out;omega)).mono ?_;rintro e W2 ⟨v,rfl,h⟩
   obtain ⟨p,A,l,c,rfl,-⟩:=h.parts
   go_wp2_with fail
   exact hK.out _ _ ⟨⟨_,_,_,_,rfl,h.zn HB.p0⟩,h.below⟩
 · rintro W hS v6 ⟨E6,n6,k6,rfl,h6⟩
   refine gvN ?_;(repeat refine flA ?_);refine flN (flN ?_)
   refine flK (fun K hK=>?_) flL
   go_simp
   go_at_call 113;refine (over_q (Qz.mk (HZ.p2.keep (Yb HX.q3 hS.1)) (HZ.q3.keep (Yb HX.q3 hS.1))) h6 (by have:=HE.out;omega) (by have:=HE.out;omega)).mono ?_;rintro e W2 ⟨v,rfl,h⟩
   obtain ⟨p,A,l,c,rfl,-⟩:=h.parts
   go_wp2_with fail
   exact hK.out _ _ ⟨⟨_,_,_,_,rfl,h.zn HB.q1⟩,h.below⟩
 · rintro W hS v8 ⟨p8,E8,n8,k8,F8,m8,d8,rfl,h8⟩
   refine gvN ?_;(repeat refine flA ?_);refine flN (flN ?_)
   exact flL
 · rintro W hS v3 ⟨p3,E3,n3,k3,rfl,h3⟩ v7 ⟨p7,E7,n7,k7,rfl,h7⟩
   refine gvN ?_;refine flN (flN ?_)
   refine flK (fun K hK=>?_) flL
   go_simp
   go_at_call 112;refine (make_q h3 h7 (by have:=HE.out;omega) HN.p0).mono ?_;rintro e W2 ⟨v,rfl,h⟩
   have h:Qr W W2 v (mkRat z (den m)/mkRat z2 (den m2)):=by rw [<- HN.q2];exact qs_of h HN.p1
   obtain ⟨p,A,l,c,B,k,d,rfl⟩:=h.qo.parts
   go_wp2_with fail
   exact hK.out _ _ ⟨⟨_,_,_,_,_,_,_,rfl,h.from hS.1⟩,h.below⟩
 · rintro v8 ⟨_,p8,E8,n8,k8,F8,m8,d8,rfl,-⟩
   refine gvN ?_;(repeat refine flA ?_);exact trivial
 · rintro W hS - v8 ⟨p8,E8,n8,k8,F8,m8,d8,rfl,h8⟩
   have hS:=hS flY
   refine gvN ?_;(repeat refine flA ?_);refine flN (flN ?_)
   refine flC fun K hK=>?_
   have X:=HX.p2.keep hS.1
   have f0:=Bl.fr X 0
   have f1:=Bl.fr X 1
   have f2:=Bl.fr X 2
   have r0:=Bl.ld X 0 rfl
   have r1:=Bl.ld X 1 rfl
   have r2:=Bl.ld X 2 rfl
   go_simp
   clear f0 f1 f2 r0 r1 r2
   exact hK.out undef _ ⟨⟨_,_,_,_,_,_,_,X.set3 rfl (.bool p8) (.slice E8 n8 k8) (.slice F8 m8 d8),(h8.from HX.q3).keepT (X.keep3 Yd (.bool p8) (.slice E8 n8 k8) (.slice F8 m8 d8)) (below3 (Yb HX.q3 hS.1) Yo (.bool p8) (.slice E8 n8 k8) (.slice F8 m8 d8))⟩,fun h=>flX h⟩
 rintro W hS c11 ⟨p,A,l,c,B,k,d,X,hq⟩ v2 - v3 - v6 - v7 - v8 ⟨_,p8,E8,n8,k8,F8,m8,d8,rfl,-⟩
 clear hS
 refine gvN ?_;(repeat refine flA ?_);refine flN ?_
 go_wp2_with fail
 refine ret_bl X (fun W2 hW=>by have d0:=hW 0 _ rfl;have d1:=hW 1 _ rfl;have d2:=hW 2 _ rfl;simp [results,Tryz.results51,go_sem,d0,d1,d2];try rfl) rfl ?_
 exact ⟨_,rfl,hq⟩
end
end
section
section
open Go Go.RowKit Go.Proofs Pl
def Sane (l:LPx):Prop:=(∀ c∈l.cols,∀ t∈c,t.2.xs.length<=2305843009213693951/\t.2.ds.length<=2305843009213693951)/\∀ f,f∈l.lo∨f∈l.hi∨f∈l.cost->f.xs.length<=2305843009213693951/\f.ds.length<=2305843009213693951
def Fit30 (l:LPx):Prop:=Fit l/\l.lo.length<=30/\l.hi.length<=30/\l.cost.length<=30
namespace I
theorem great_l {w:World} {v:Value} {l:LPx} (h:LPv w v l) (hs:Sane l):
 Calls Tryz.prog 10 #[v] w fun e w'=>Saysb (fun r=>r=false->Fit30 l) e/\Yg w w':=by
 obtain ⟨aA,an,ac,bA,bn,bc,cA,cn,cc,dA,dn,dc,eA,en,ec,fA,fn,fc,rfl,hP,hla,hlb,hlc,hld,hle,hlf,hma,hmb,hmc,hmd,hme,hmf⟩:=h.open
 have HS:=Lib.hid hP
 have HL:=Yh6 hla hlb hlc hld hle hlf
 have HSN:=Lib.hid hs
 have hma2:an<=9223372036854775807:=by unfold maxLen at hma;omega
 clear hP hs hla hlb hlc hld hle hlf hma hmb hmc hmd hme hmf h
 change Calls Tryz.prog 10 #[.agg #[.int .i64 l.n,.slice aA an ac,.slice bA bn bc,.slice cA cn cc,.slice dA dn dc,.slice eA en ec,.slice fA fn fc]] w _
 go_enter Tryz.func10,Tryz.ntmps10
 go_upto_region 1 with (fail)
 have S0:=Yh2 (Bl.new w 26 [.int .i64 l.n,.slice aA an ac,.slice bA bn bc,.slice cA cn cc,.slice dA dn dc,.slice eA en ec,.slice fA fn fc]) (Ya w (.cells #[.int .i64 l.n,.slice aA an ac,.slice bA bn bc,.slice cA cn cc,.slice dA dn dc,.slice eA en ec,.slice fA fn fc] 26))
 have HA:=Yh6 (HS.p0.keep S0.q1) (HS.p1.keep S0.q1) (HS.p2.keep S0.q1) (HS.p3.keep S0.q1) (HS.p4.keep S0.q1) (HS.q5.keep S0.q1)
 clear HS
 have HBW:=Lib.hid S0.q1
 have HBL:=Lib.hid S0.p0
 clear S0
 generalize w.alloc _=W0 at HA HBW HBL ⊢
 have HC:Hid (∀ W,Yg W0 W->Ye7 W w.heap.size (.int .i64 l.n) (.slice aA an ac) (.slice bA bn bc) (.slice cA cn cc) (.slice dA dn dc) (.slice eA en ec) (.slice fA fn fc)):=fun W hb=>⟨Bl.ld (HBL.out.keep hb) 0 rfl,Bl.ld (HBL.out.keep hb) 1 rfl,Bl.ld (HBL.out.keep hb) 2 rfl,Bl.ld (HBL.out.keep hb) 3 rfl,Bl.ld (HBL.out.keep hb) 4 rfl,Bl.ld (HBL.out.keep hb) 5 rfl,Bl.ld (HBL.out.keep hb) 6 rfl⟩
 have B1:=Lib.hid (below_d W0)
 refine wp_region_held_drew (S:=fun W=>Ye7 W w.heap.size (.int .i64 l.n) (.slice aA an ac) (.slice bA bn bc) (.slice cA cn cc) (.slice dA dn dc) (.slice eA en ec) (.slice fA fn fc)) (by kernel_rfl) (HC.out _ B1.out) (fun Hh=>?_)
 generalize W0.drew=Wd at B1 Hh ⊢
 refine rgFree [0,1,3,4,6,7,8,10] (Yl 12 0) (fun HFR=>?_)
 refine rgRun 6 [0,1,3,4,7,8] Hh fun K hK=>?_
 repeat refine rgA ?_
 refine hK _ _ ?_;clear hK K
 refine rgO 2 fun K hK=>?_
 go_simp
 go_at_call 45;refine (weight_r (HA.p3.keep B1.out) (fun f hf=>HSN.q1 f (.inl hf))).mono ?_;rintro e wB2 ⟨⟨mB2,rfl⟩,hb⟩
 have B2:=Lib.hid (Yb B1.out hb)
 clear hb B1 Hh
 go_wp2_with fail
 refine rgK hK (HC.out _ B2.out) fun Hh=>?_;clear hK K
 refine rgO 5 fun K hK=>?_
 go_simp
 go_at_call 45;refine (weight_r (HA.p4.keep B2.out) (fun f hf=>HSN.q1 f (.inr (.inl hf)))).mono ?_;rintro e wB3 ⟨⟨mB3,rfl⟩,hb⟩
 have B3:=Lib.hid (Yb B2.out hb)
 clear hb B2 Hh
 go_wp2_with fail
 refine rgK hK (HC.out _ B3.out) fun Hh=>?_;clear hK K
 refine rgU 6 11 HFR Hh ?_
 refine rgO 9 fun K hK=>?_
 go_simp
 go_at_call 45;refine (weight_r (HA.q5.keep B3.out) (fun f hf=>HSN.q1 f (.inr (.inr hf)))).mono ?_;rintro e wB4 ⟨⟨mB4,rfl⟩,hb⟩
 have B4:=Lib.hid (Yb B3.out hb)
 clear hb B3 Hh
 go_wp2_with fail
 refine rgK hK (HC.out _ B4.out) fun Hh=>?_;clear hK K
 refine rgU 10 15 HFR Hh ?_
 refine rgT 11 Hh ?_
 refine Yw ?_
 clear Hh
 generalize IntKind.i64.wrap _=n0
 go_wp2_with fail
 go_loopw [3,4] (fun z3 z4 wr=>∃ (k:Nat) (n:Int),z3=.int .i64 n/\z4=.int .i64 (k:Int)/\k<=an/\Hid (Yg W0 wr/\∀ c∈l.cols.take k,c.length<=30/\∀ t∈c,t.2.xs.length+t.2.ds.length<=6)) (fun _ z _=>an - (intOf z).toNat)
 case atStart=>exact ⟨0,_,rfl,rfl,Nat.zero_le _,B4.out,by simp⟩
 case round=>
  obtain ⟨k,n,rfl,rfl,hk,H⟩:=hrel
  by_cases hlt:k<an
  · skip
    obtain ⟨ta,hta⟩:∃ t,l.cols[k]?=some t:=⟨_,List.getElem?_eq_getElem (by rw [HL.p0];exact hlt)⟩
    obtain ⟨ga,oa,qa,xa,e,hga,hva,za0⟩:=HA.p0.at_ hta
    rw [HL.p0] at e
    injection e with e1 e2 e3
    subst e1
    clear e2 e3 qa
    have HV:=Yh3 hva (List.mem_of_getElem? hta) (take_f hta)
    have HCa:Hid (∀ W,Yg W0 W->W.cell? ⟨ga,oa+k,none⟩=some (.slice xa.A xa.l xa.k)/\Ye7 W w.heap.size (.int .i64 l.n) (.slice (some ⟨ga,oa,none⟩) an ac) (.slice bA bn bc) (.slice cA cn cc) (.slice dA dn dc) (.slice eA en ec) (.slice fA fn fc)):=fun W hb=>⟨(hb.cell (p:=⟨ga,_,none⟩) hga).trans za0,Bl.ld (HBL.out.keep hb) 0 rfl,Bl.ld (HBL.out.keep hb) 1 rfl,Bl.ld (HBL.out.keep hb) 2 rfl,Bl.ld (HBL.out.keep hb) 3 rfl,Bl.ld (HBL.out.keep hb) 4 rfl,Bl.ld (HBL.out.keep hb) 5 rfl,Bl.ld (HBL.out.keep hb) 6 rfl⟩
    clear hga hta za0 hva
    have dk:(k:Int)<(an:Int):=Yo
    obtain ⟨za0,l0,l1,l2,l3,l4,l5,l6⟩:=HCa.out _ H.p0
    go_wp2_with fail
    refine (great_t (HV.p0.keep H.p0) (fun t ht=>HSN.p0 _ HV.p1 t ht)).mono ?_;rintro e w5 ⟨⟨r,rfl,hr⟩,hb⟩
    have H5:=Yh2 (Yb H.p0 hb) H.q1
    have HR:=Lib.hid hr
    clear hb hr H za0 l0 l1 l2 l3 l4 l5 l6
    cases r with
    | true=>
     go_wp2_with fail
     go_ret
     exact ⟨⟨true,rfl,by simp⟩,Yb HBW.out H5.p0⟩
    | false=>
     obtain ⟨za0,l0,l1,l2,l3,l4,l5,l6⟩:=HCa.out _ H5.p0
     go_wp2_with fail
     refine (weights_t (HV.p0.keep H5.p0) (Nat.le_trans (HR.out (by trivial)).1 Yd) (fun t ht=>HSN.p0 _ HV.p1 t ht)).mono ?_;rintro e w7 ⟨⟨m,rfl⟩,hb⟩
     have H7:=Yh2 (Yb H5.p0 hb) H5.q1
     clear hb H5 za0 l0 l1 l2 l3 l4 l5 l6
     go_wp2_with fail
     case roundEnd=>exact ⟨⟨k+1,_,rfl,by go_num,Yo,H7.p0,fun c hc=>by rw [HV.q2] at hc;rcases List.mem_append.1 hc with hc | hc;exact H7.q1 c hc;rw [List.mem_singleton.1 hc];exact HR.out (by trivial)⟩,by simp [intOf];omega⟩
  obtain rfl:k=an:=by omega
  have dk:¬ (k:Int)<(k:Int):=Yo
  have HALL:Hid (∀ c∈l.cols,c.length<=30/\∀ t∈c,t.2.xs.length+t.2.ds.length<=6):=by have h:=H.q1;rw [List.take_of_length_le (by rw [HL.p0];exact Nat.le_refl _)] at h;exact h
  obtain ⟨l0,l1,l2,l3,l4,l5,l6⟩:=HC.out _ H.p0
  by_cases d1:(18:Int)<n
  · skip
    go_wp2_with fail
    go_ret
    exact ⟨⟨true,rfl,by simp⟩,Yb HBW.out H.p0⟩
  by_cases d2:(14:Int)<(k:Int)
  · skip
    go_wp2_with fail
    go_ret
    exact ⟨⟨true,rfl,by simp⟩,Yb HBW.out H.p0⟩
  have H14:=Lib.hid (show k<=14 by omega)
  have B10:=Lib.hid H.p0
  clear H
  go_wp2_with fail
  refine (greatAll_r (HA.p3.keep B10.out) (fun f hf=>HSN.q1 f (.inl hf))).mono ?_;rintro e w11 ⟨⟨r1,rfl,hr⟩,hb⟩
  have B11:=Lib.hid (Yb B10.out hb)
  have HR1:=Lib.hid hr
  clear hr hb l0 l1 l2 l3 l4 l5 l6 B10
  obtain ⟨l0,l1,l2,l3,l4,l5,l6⟩:=HC.out _ B11.out
  cases r1 with
  | true=>
   go_wp2_with fail
   go_ret
   exact ⟨⟨true,rfl,by simp⟩,Yb HBW.out B11.out⟩
  | false=>
   go_wp2_with fail
   refine (greatAll_r (HA.p4.keep B11.out) (fun f hf=>HSN.q1 f (.inr (.inl hf)))).mono ?_;rintro e w12 ⟨⟨r2,rfl,hr⟩,hb⟩
   have B12:=Lib.hid (Yb B11.out hb)
   have HR2:=Lib.hid hr
   clear hr hb l0 l1 l2 l3 l4 l5 l6 B11
   obtain ⟨l0,l1,l2,l3,l4,l5,l6⟩:=HC.out _ B12.out
   cases r2 with
   | true=>
    go_wp2_with fail
    go_ret
    exact ⟨⟨true,rfl,by simp⟩,Yb HBW.out B12.out⟩
   | false=>
    go_wp2_with fail
    refine (greatAll_r (HA.q5.keep B12.out) (fun f hf=>HSN.q1 f (.inr (.inr hf)))).mono ?_;rintro e w13 ⟨⟨r3,rfl,hr⟩,hb⟩
    have B13:=Lib.hid (Yb B12.out hb)
    have HR3:=Lib.hid hr
    clear hr hb l0 l1 l2 l3 l4 l5 l6 B12
    obtain ⟨l0,l1,l2,l3,l4,l5,l6⟩:=HC.out _ B13.out
    go_wp2_with fail
    go_ret
    exact ⟨⟨_,rfl,fun hr3=>by subst hr3;exact ⟨⟨by rw [HL.p0];exact H14.out,fun c hc=>⟨(HALL.out c hc).1,fun t ht=>by have:=(HALL.out c hc).2 t ht;omega⟩,fun f hf=>by rcases hf with hf | hf | hf;have:=(HR1.out (by trivial)).2 f hf;omega;have:=(HR2.out (by trivial)).2 f hf;omega;have:=(HR3.out (by trivial)).2 f hf;omega⟩,(HR1.out (by trivial)).1,(HR2.out (by trivial)).1,(HR3.out (by trivial)).1⟩⟩,Yb HBW.out B13.out⟩
end I
end
end
section
section
open Go Go.RowKit Go.Proofs Pl
section
variable {α:Type} {f:α->List Value} {ys:List α} {s:Nat} {w:World} {T:TypeId} {u:Value}
theorem run_append_lit {S:TypeId} {bytes:Nat} {z:Value} (hS:Tryz.prog.underlying S=some (.slice T)) (hI:(Tryz.prog.info? T).map (fun i=>(i.zero,i.size,i.bytes))=some (some z,s,bytes))
 (hby:0<s/\z.cells.size=s) (hf:∀ x,(f x).length=s) (hf1:∀ x,∀ u∈f x,u.oneCell'=true) (ty:TypeId) {g B:Nat} (X:Bl w T g []) (hB:B<=g) (hn:Rv w f u ys) (hl:ys.length*bytes<=140737488355328) (hl2:ys.length<=maxLen):
 ∃ A c w',(Builtin.append_ #[S,S] ty #[.slice (some ⟨g,0,none⟩) 0 0,u]).run Tryz.prog w=.ok (.slice A ys.length c) w'/\Rr w' B T s f (.slice A ys.length c) ys/\Yg w w':=by
 obtain ⟨i,hi,hz0,hz1,hz2⟩:=info_parts hI
 obtain ⟨A,cap,rfl,h1,h2,h3,h4⟩:=hn
 subst hz1;subst hz2
 have hown:w.ownsRow B T i.size (.slice (some ⟨g,0,none⟩) 0 0) 0 []:=⟨by simp,.inr ⟨g,0,#[],rfl,hB,X,Nat.le_refl _,Nat.zero_le _,by simp,by simp⟩⟩
 cases ys with
 | nil=>
  refine ⟨some ⟨g,0,none⟩,0,w,?_,hown,Below.refl _ _⟩
  cases A<;>simp [Builtin.append_,run_underlying hS,sizeOf,typeInfo,hi,Builtin.lenOf,Builtin.firstCells,storeCells,loadCells,loadCellsFrom]
 | cons y ys=>
  rcases h4 with h4 | ⟨b,off,rfl,hb,hc⟩
  · have:=flat_len hf (y::ys)
    rw [h4,List.length_cons] at this
    have h:=Nat.mul_pos (show 0<ys.length+1 by omega) hby.1
    simp only [List.length_nil] at this
    omega
  · have hnews:∀ (j:Nat) (u:Value),(flat f (y::ys))[j]?=some u->w.cell? ((⟨b,off,none⟩:Addr).add j)=some u:=fun j u hj=>by
     have e:(⟨b,off,none⟩:Addr).add j=⟨b,off+j,none⟩:=by unfold Addr.add;split<;>simp_all
     rw [e];exact hc j u hj
    have hr:=run_append_grow (P:=Tryz.prog) w S ty T i z hS hi hz0 ⟨g,0,none⟩ 0 0 [] (by simp) (fun j v h=>by simp at h) ⟨b,off,none⟩ (y::ys).length cap (flat f (y::ys)) (flat_len hf _) hnews (by simp) (by unfold maxLen at hl2;omega) (growslice_fits (by simp) (by rw [Nat.zero_add];exact hl))
    obtain ⟨v',w',hr',hown',-,-⟩:=run_append_own (P:=Tryz.prog) (w:=w) B S ty T i z i.size i.bytes hS hi hz0 rfl rfl hby.2 hby.1 _ 0 [] hown ⟨b,off,none⟩ (y::ys).length cap (flat f (y::ys)) (flat_len hf _) hnews (flat_cell hf1) (by rw [Nat.zero_add];exact hl2) (by rw [Nat.zero_add];exact hl) (Nat.le_trans hB (Nat.le_of_lt X.lt))
    rw [hr] at hr'
    injection hr' with e1 e2
    subst e1;subst e2
    rw [Nat.zero_add] at hr hown'
    rw [List.nil_append] at hown'
    refine ⟨_,_,_,hr,hown',⟨rfl,rfl,rfl,by show w.heap.size<=(w.heap.push _).size;simp,fun k hk=>?_⟩⟩
    exact Go.heap_alloc_old w.drew _ hk
theorem app_lit {S:TypeId} {bytes:Nat} {z:Value} (hS:Tryz.prog.underlying S=some (.slice T)) (hI:(Tryz.prog.info? T).map (fun i=>(i.zero,i.size,i.bytes))=some (some z,s,bytes))
 (hby:0<s/\z.cells.size=s) (hf:∀ x,(f x).length=s) (hf1:∀ x,∀ u∈f x,u.oneCell'=true) {o:Oper} {a:Act} {K:Act->World->Prop} {Q:Exit->Act->World->Prop} (sO xO:Operand)
 (ho:o.op=.call { callee:=.builtin .append,args:=#[sO,xO],argTypes:=#[S,S] }) {g B:Nat} (hs:a.eval sO=.slice (some ⟨g,0,none⟩) 0 0) (hx:a.eval xO=u)
 (X:Bl w T g []) (hB:B<=g) (hn:Rv w f u ys) (hl:ys.length*bytes<=140737488355328)
 (h:∀ A c w',Rr w' B T s f (.slice A ys.length c) ys->Yg w w'->K (a.put o.dst (.slice A ys.length c)) w'):o.wp Tryz.prog a w K Q:=by
 have hl2:ys.length<=maxLen:=by obtain ⟨_,_,-,h1,h2,-⟩:=hn;omega
 obtain ⟨A,c,w',hr,h2,h3⟩:=run_append_lit hS hI hby hf hf1 o.type X hB hn hl hl2
 unfold Oper.wp execOp
 simp only [ho,resolve,invoke,builtin,Sem.run_bind,Sem.run_pure,Result.andThen_ok,List.map_toArray,List.map_cons,List.map_nil,hs,hx,hr]
 exact h A c w' h2 h3
end
theorem bool_info:(Tryz.prog.info? 4).map (fun i=>(i.zero,i.size,i.bytes))=some (some (.bool false),1,1):=by kernel_rfl
theorem terms_info:(Tryz.prog.info? 54).map (fun i=>(i.zero,i.size,i.bytes))=some (some (.slice none 0 0),1,24):=by kernel_rfl
end
end
section
section
open Go Go.RowKit Go.Proofs Pl
def ics (z:Int):List Value:=[.int .i64 z]
theorem ics_len (z:Int):(ics z).length=1:=rfl
theorem ics_one (z:Int):∀ u∈ics z,u.oneCell'=true:=fun u hu=>by
 simp only [ics,List.mem_cons,List.not_mem_nil,or_false] at hu
 rw [hu];rfl
def Iv (w:World) (v:Value) (ks:List Int):Prop:=Rv w ics v ks
theorem Iv.keep {w w':World} {v:Value} {ks:List Int} (h:Iv w v ks) (hb:Below w.heap.size w w'):Iv w' v ks:=Rv.keep h hb
theorem Iv.shape {w:World} {v:Value} {ks:List Int} (h:Iv w v ks):∃ A cap,v=.slice A ks.length cap/\ks.length<=cap/\cap<=maxLen:=by
 obtain ⟨A,cap,e,h1,h2,-⟩:=h
 exact ⟨A,cap,e,h1,h2⟩
theorem Iv.at_ {w:World} {v:Value} {ks:List Int} {i:Nat} {z:Int} (h:Iv w v ks) (hi:ks[i]?=some z):∃ g o cap,v=.slice (some ⟨g,o,none⟩) ks.length cap/\g<w.heap.size/\w.cell? ⟨g,o+i,none⟩=some (.int .i64 z):=by
 obtain ⟨g,o,cap,e,h3,h4,h5⟩:=Rv.at_ Yd ics_len h hi
 exact ⟨g,o,cap,e,h4,by have:=h5 0 _ rfl;simpa using this⟩
theorem int_info:(Tryz.prog.info? 3).map (fun i=>(i.zero,i.size,i.bytes))=some (some (.int .i64 0),1,8):=by kernel_rfl
theorem Bl.iv {w:World} {g n:Nat} {ks:List Int} (X:Bl w 3 g (flat ics ks)) (hn:ks.length=n) (hs:n<=maxLen):Iv w (.slice (some ⟨g,0,none⟩) n n) ks:=
 ⟨some ⟨g,0,none⟩,n,by rw [hn],Yo,hs,by simp,.inr ⟨g,0,rfl,X.lt,fun i u hi=>by rw [Nat.zero_add];exact X.ld i hi⟩⟩
section
variable {α:Type} {f:α->List Value} {xs ys:List α} {s:Nat} {w:World} {T:TypeId} {u:Value}
theorem app_full {S:TypeId} {bytes:Nat} {z:Value} (hS:Tryz.prog.underlying S=some (.slice T)) (hI:(Tryz.prog.info? T).map (fun i=>(i.zero,i.size,i.bytes))=some (some z,s,bytes))
 (hby:0<s/\z.cells.size=s) (hf:∀ x,(f x).length=s) (hf1:∀ x,∀ u∈f x,u.oneCell'=true) {o:Oper} {a:Act} {K:Act->World->Prop} {Q:Exit->Act->World->Prop} (sO xO:Operand)
 (ho:o.op=.call { callee:=.builtin .append,args:=#[sO,xO],argTypes:=#[S,S] }) {g n:Nat} (hs:a.eval sO=.slice (some ⟨g,0,none⟩) n n) (hx:a.eval xO=u)
 (X:Bl w T g (flat f xs)) (hn:xs.length=n) (hu:Rv w f u ys) (hy:0<ys.length) (hl:(n+ys.length)*bytes<=140737488355328) (hl2:n+ys.length<=maxLen)
 (h:∀ A c w',Rv w' f (.slice A (n+ys.length) c) (xs++ys)->Yg w w'->K (a.put o.dst (.slice A (n+ys.length) c)) w'):o.wp Tryz.prog a w K Q:=by
 obtain ⟨i,hi,hz0,hz1,hz2⟩:=info_parts hI
 obtain ⟨A,cap,rfl,h1,h2,h3,h4⟩:=hu
 subst hz1;subst hz2
 subst hn
 have hown:w.ownsRow 0 T i.size (.slice (some ⟨g,0,none⟩) xs.length xs.length) xs.length (flat f xs):=⟨flat_len hf _,.inr ⟨g,xs.length,(flat f xs).toArray,rfl,Nat.zero_le _,X,Nat.le_refl _,Yo,by rw [List.size_toArray,flat_len hf],by rw [<- flat_len hf xs,List.take_length]⟩⟩
 rcases h4 with h4 | ⟨b,off,rfl,hb,hc⟩
 · have:=flat_len hf ys
   rw [h4] at this
   have h:=Nat.mul_pos hy hby.1
   simp only [List.length_nil] at this
   omega
 · have hnews:∀ (j:Nat) (u:Value),(flat f ys)[j]?=some u->w.cell? ((⟨b,off,none⟩:Addr).add j)=some u:=fun j u hj=>by
    have e:(⟨b,off,none⟩:Addr).add j=⟨b,off+j,none⟩:=by unfold Addr.add;split<;>simp_all
    rw [e];exact hc j u hj
   have hr:=run_append_grow (P:=Tryz.prog) w S o.type T i z hS hi hz0 ⟨g,0,none⟩ xs.length xs.length (flat f xs) (flat_len hf _) (fun j v h=>by
    have e:(⟨g,0,none⟩:Addr).add j=⟨g,j,none⟩:=by unfold Addr.add;split<;>simp_all
    rw [e];exact X.ld j h) ⟨b,off,none⟩ ys.length cap (flat f ys) (flat_len hf _) hnews Yo (by unfold maxLen at hl2;omega) (growslice_fits Yo hl)
   obtain ⟨v',w',hr',hown',-,-⟩:=run_append_own (P:=Tryz.prog) (w:=w) 0 S o.type T i z i.size i.bytes hS hi hz0 rfl rfl hby.2 hby.1 _ xs.length (flat f xs) hown ⟨b,off,none⟩ ys.length cap (flat f ys) (flat_len hf _) hnews (flat_cell hf1) hl2 hl (Nat.zero_le _)
   rw [hr] at hr'
   injection hr' with e1 e2
   subst e1;subst e2
   rw [<- flat_app] at hown'
   unfold Oper.wp execOp
   simp only [ho,resolve,invoke,builtin,Sem.run_bind,Sem.run_pure,Result.andThen_ok,List.map_toArray,List.map_cons,List.map_nil,hs,hx,hr]
   have hrv:=Rr.rv (α:=α) (f:=f) (xs:=xs++ys) (T:=T) (B:=0) (s:=i.size) (by rw [Rr,List.length_append];exact hown')
   exact h _ _ _ hrv ⟨rfl,rfl,rfl,by show w.heap.size<=(w.heap.push _).size;simp,fun k hk=>Go.heap_alloc_old w.drew _ hk⟩
theorem app_fulls {S:TypeId} {bytes:Nat} {z:Value} (hS:Tryz.prog.underlying S=some (.slice T)) (hI:(Tryz.prog.info? T).map (fun i=>(i.zero,i.size,i.bytes))=some (some z,s,bytes))
 (hby:0<s/\z.cells.size=s) (hf:∀ x,(f x).length=s) (hf1:∀ x,∀ u∈f x,u.oneCell'=true) {ops:Array Oper} {rest:List Oper} {o:Oper} {a:Act} {Q:Exit->Act->World->Prop} (hgd:o.guard=none) (sO xO:Operand)
 (ho:o.op=.call { callee:=.builtin .append,args:=#[sO,xO],argTypes:=#[S,S] }) {g n:Nat} (hs:a.eval sO=.slice (some ⟨g,0,none⟩) n n) (hx:a.eval xO=u)
 (X:Bl w T g (flat f xs)) (hn:xs.length=n) (hu:Rv w f u ys) (hy:0<ys.length) (hl:(n+ys.length)*bytes<=140737488355328) (hl2:n+ys.length<=maxLen)
 (h:∀ A c w',Rv w' f (.slice A (n+ys.length) c) (xs++ys)->Yg w w'->wpList Tryz.prog ops Q rest (a.put o.dst (.slice A (n+ys.length) c)) w'):wpList Tryz.prog ops Q (o::rest) a w:=
 wpList_plain hgd fun _ hK=>app_full hS hI hby hf hf1 sO xO ho hs hx X hn hu hy hl hl2 fun A c w' h1 h2=>hK _ _ (h A c w' h1 h2)
end
def allIs (n:Int) (ks:List Int):Bool:=ks.all (·==n)
theorem allIs_take {n:Int} {ks:List Int} {i:Nat} (h:allIs n (ks.take i)=true) {z:Int} (hz:ks[i]?=some z) (he:z=n):allIs n (ks.take (i+1))=true:=by
 rw [List.take_add_one,hz]
 simp only [allIs,List.all_append,Option.toList,List.all_cons,List.all_nil,Bool.and_true,Bool.and_eq_true,beq_iff_eq] at h ⊢
 exact ⟨h,he⟩
theorem allIs_no {n:Int} {ks:List Int} {i:Nat} {z:Int} (hz:ks[i]?=some z) (he:z≠n):allIs n ks=false:=by
 cases h:allIs n ks with
 | false=>rfl
 | true=>
  simp only [allIs,List.all_eq_true,beq_iff_eq] at h
  exact absurd (h z (List.mem_of_getElem? hz)) he
theorem fits1_r {w:World} {gn:Nat} {k n:Int} (h:w.cell? ⟨gn,0,none⟩=some (.int .i64 n)):
 Calls Tryz.prog 145 #[.int .i64 k,.pointer (some ⟨gn,0,none⟩)] w fun e w'=>e=.returned (.bool (k !=n))/\Yg w w':=by
 go_enter Tryz.func145,Tryz.ntmps145
 go_wp2_with fail
 go_ret
 exact ⟨rfl,Below.refl _ _⟩
theorem idx_i {w:World} {v:Value} {ks:List Int} {gn:Nat} {m:Int} (h:Iv w v ks) (hc:w.cell? ⟨gn,0,none⟩=some (.int .i64 m)) (hg:gn<w.heap.size) (h40:ks.length<=1000):
 Calls Tryz.prog 178 #[v,.func (.func 145) #[] #[.pointer (some ⟨gn,0,none⟩)]] w fun e w'=>∃ r:Int,e=.returned (.int .i64 r)/\decide (0<=r)=(!(allIs m ks))/\Yg w w':=by
 obtain ⟨A,cap,rfl,-,-⟩:=h.shape
 obtain ⟨n,hn⟩:∃ n,ks.length=n:=⟨_,rfl⟩
 rw [hn] at h40 ⊢
 have HSV:=Lib.hid h
 rw [hn] at HSV
 have HN:=Lib.hid hn
 have HC:=Yh2 hc hg
 clear h hn hc hg
 go_enter Tryz.func178,Tryz.ntmps178
 go_wp2_with fail
 go_loopw [8] (fun z wr=>∃ i:Nat,z=.int .i64 (i:Int)/\i<=n/\Hid (allIs m (ks.take i)=true/\Yg w wr)) (fun z _=>n - (intOf z).toNat)
 case atStart=>exact ⟨0,rfl,Nat.zero_le _,rfl,Below.refl _ _⟩
 case round=>
  obtain ⟨i,rfl,hi,H⟩:=hrel
  by_cases hlt:i<n
  · skip
    have hix:i<ks.length:=by rw [HN.out];exact hlt
    obtain ⟨x,hx⟩:∃ x,ks[i]?=some x:=⟨_,List.getElem?_eq_getElem hix⟩
    obtain ⟨g,off,_,e,hgl,c0⟩:=(HSV.out.keep H.q1).at_ hx
    injection e with e1 e2 e3
    subst e1
    clear e2 e3 hgl hix
    have HX:=Lib.hid hx
    have HCW:=Lib.hid ((H.q1.cell (p:=⟨gn,0,none⟩) HC.q1).trans HC.p0)
    clear hx
    go_wp2_with fail
    refine (fits1_r HCW.out).mono ?_;rintro e w2 ⟨rfl,hb⟩
    have R:=Lib.hid (Yb H.q1 hb)
    clear hb c0 HCW
    obtain ⟨b,hbb⟩:∃ b,(x !=m)=b:=⟨_,rfl⟩
    rw [hbb]
    have HB:=Lib.hid hbb
    clear hbb
    cases b with
    | true=>
     go_wp2_with fail
     go_ret
     refine ⟨_,rfl,?_,R.out⟩
     rw [allIs_no HX.out (by have:=HB.out;simpa using this)]
     simp
    | false=>
     go_wp2_with fail
     go_roundw
     case rel=>exact ⟨i+1,by go_num,Yo,allIs_take H.p0 HX.out (by have:=HB.out;simpa using this),R.out⟩
     case measure=>simp [intOf];omega
  obtain rfl:i=n:=by omega
  have HA:Hid (allIs m ks=true):=by have:=H.p0;rw [<- HN.out,List.take_length] at this;exact this
  go_wp2_with fail
  go_ret
  exact ⟨_,rfl,by rw [HA.out];rfl,H.q1⟩
theorem con_i {w:World} {v:Value} {ks:List Int} {gn:Nat} {m:Int} (h:Iv w v ks) (hc:w.cell? ⟨gn,0,none⟩=some (.int .i64 m)) (hg:gn<w.heap.size) (h40:ks.length<=1000):
 Calls Tryz.prog 144 #[v,.func (.func 145) #[] #[.pointer (some ⟨gn,0,none⟩)]] w fun e w'=>e=.returned (.bool (!(allIs m ks)))/\Yg w w':=by
 have HS:=Yh4 h hc hg h40
 clear h hc hg h40
 go_enter Tryz.func144,Tryz.ntmps144
 go_wp2_with fail
 refine (idx_i HS.p0 HS.p1 HS.p2 HS.q3).mono ?_;rintro e w2 ⟨r,rfl,hr,hb⟩
 have HR:=Yh2 hr hb
 clear hr hb
 go_wp2_with fail
 go_ret
 exact ⟨congrArg (fun b=>Ending.returned (.bool b)) HR.p0,HR.q1⟩
def fitsX (l:LPx) (ks:List Int):Bool:=allIs (l.cols.length:Int) (ks++[(l.lo.length:Int),(l.hi.length:Int),(l.hasLo.length:Int),(l.hasHi.length:Int)])
theorem fits_r {w:World} {v:Value} {l:LPx} {ks:List Int} {g n:Nat} (h:LPv w v l) (hX:Bl w 3 g (flat ics ks)) (hn:ks.length=n) (hn3:n<=3):
 Calls Tryz.prog 87 #[v,.slice (some ⟨g,0,none⟩) n n] w fun e w'=>e=.returned (.bool (fitsX l ks))/\Yg w w':=by
 obtain ⟨aA,an,ac,bA,bn,bc,cA,cn,cc,dA,dn,dc,eA,en,ec,fA,fn,fc,rfl,hP,hla,hlb,hlc,hld,hle,hlf,hma,hmb,hmc,hmd,hme,hmf⟩:=h.open
 have HK:=Yh3 hX hn hn3
 have HL:=Yh5 hla hlb hlc hld hle
 clear hP hX hla hlb hlc hld hle hlf hma hmb hmc hmd hme hmf h
 change Calls Tryz.prog 87 #[.agg #[.int .i64 l.n,.slice aA an ac,.slice bA bn bc,.slice cA cn cc,.slice dA dn dc,.slice eA en ec,.slice fA fn fc],.slice (some ⟨g,0,none⟩) n n] w _
 go_enter Tryz.func87,Tryz.ntmps87
 go_upto_region 1 with (fail)
 obtain ⟨hX,hB⟩:=box1 w 26 [.int .i64 l.n,.slice aA an ac,.slice bA bn bc,.slice cA cn cc,.slice dA dn dc,.slice eA en ec,.slice fA fn fc]
 have HX:=Yh2 hX hB
 clear hX hB
 generalize w.alloc _=W0 at HX ⊢
 have l0:=Bl.ld HX.p0 0 rfl
 have l1:=Bl.ld HX.p0 1 rfl
 have l2:=Bl.ld HX.p0 2 rfl
 have l3:=Bl.ld HX.p0 3 rfl
 have l4:=Bl.ld HX.p0 4 rfl
 have l5:=Bl.ld HX.p0 5 rfl
 have l6:=Bl.ld HX.p0 6 rfl
 go_upto_region 2 with (fail)
 have hal:=Ya W0 (.cells #[.int .i64 (an:Int)] 3)
 have H1:=Yh4 (HX.p0.keep hal) (Yb HX.q1 hal) (Bl.new W0 3 [.int .i64 (an:Int)]) ((HK.p0.keep HX.q1).keep hal)
 obtain ⟨gn,hgn⟩:∃ g,g=W0.heap.size:=⟨_,rfl⟩
 rw [<- hgn] at H1 ⊢
 clear HX hal hgn l0 l1 l2 l3 l4 l5 l6
 generalize W0.alloc _=W1 at H1 ⊢
 have l0:=Bl.ld H1.p0 0 rfl
 have l1:=Bl.ld H1.p0 1 rfl
 have l2:=Bl.ld H1.p0 2 rfl
 have l3:=Bl.ld H1.p0 3 rfl
 have l4:=Bl.ld H1.p0 4 rfl
 have l5:=Bl.ld H1.p0 5 rfl
 have l6:=Bl.ld H1.p0 6 rfl
 have hal:=Ya W1 (.cells #[.int .i64 (dn:Int),.int .i64 (en:Int),.int .i64 (bn:Int),.int .i64 (cn:Int)] 3)
 go_wp2_with (at_builtin;refine app_fulls (f:=ics) (xs:=ks) (ys:=[(dn:Int),(en:Int),(bn:Int),(cn:Int)]) Tryz.underlying73 int_info ⟨Yd,rfl⟩ ics_len ics_one rfl (.tmp 9) (.tmp 22) rfl rfl rfl (H1.q3.keep hal) HK.p1 (Bl.iv (ks:=[(dn:Int),(en:Int),(bn:Int),(cn:Int)]) (Bl.new W1 3 [.int .i64 (dn:Int),.int .i64 (en:Int),.int .i64 (bn:Int),.int .i64 (cn:Int)]) rfl Yd) (Nat.succ_pos _) (by have:=HK.q2;simp only [List.length_cons,List.length_nil];omega) (by have:=HK.q2;unfold maxLen;simp only [List.length_cons,List.length_nil];omega) ?_;intro A9 c9 w2 h9 hb9)
 have H2:=Yh4 (Yb H1.p1 (Yb hal hb9)) h9 ((H1.p2.keep hal).keep hb9) HK.q1
 clear hal h9 hb9 H1 l0 l1 l2 l3 l4 l5 l6
 go_wp2_with fail
 refine (con_i (ks:=ks++[(dn:Int),(en:Int),(bn:Int),(cn:Int)]) (m:=(an:Int)) H2.p1 (Bl.ld H2.p2 0 rfl) H2.p2.lt (by have:=H2.q3;rw [List.length_append];simp only [List.length_cons,List.length_nil];omega)).mono ?_;rintro e w3 ⟨rfl,hb⟩
 have H3:=Lib.hid (Yb H2.p0 hb)
 clear hb
 go_wp2_with fail
 go_ret
 obtain ⟨e1,e2,e3,e4,e5⟩:=HL.out
 have HE:fitsX l ks=allIs (an:Int) (ks++[(dn:Int),(en:Int),(bn:Int),(cn:Int)]):=by unfold fitsX;rw [e1,e2,e3,e4,e5]
 rw [HE]
 exact ⟨rfl,H3.out⟩
end
end
end Go.Proofs.YtaajajngnmaggaaGreat
