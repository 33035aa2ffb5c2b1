import Derived.Test.YtaajajngnmaggaaGreatLNA17
import Derived.Test.YtaajajngnmaggaaGreatLNA16
set_option maxRecDepth 100000
set_option maxHeartbeats 8000000
set_option linter.unusedVariables false
set_option linter.unusedSimpArgs false
namespace Go.Proofs.YtaajajngnmaggaaGreat
section
section
open Go Go.RowKit Go.Proofs Pl
theorem box1 (w:World) (T:TypeId) (us:List Value):Bl (w.alloc (.cells us.toArray T)) T w.heap.size us/\Below w.heap.size w (w.alloc (.cells us.toArray T)):=⟨Bl.new w T us,Ya w _⟩
theorem box2 (w:World) (T U:TypeId) (us vs:List Value):Bl ((w.alloc (.cells us.toArray T)).alloc (.cells vs.toArray U)) T w.heap.size us/\Bl ((w.alloc (.cells us.toArray T)).alloc (.cells vs.toArray U)) U (w.heap.size+1) vs/\Below w.heap.size w ((w.alloc (.cells us.toArray T)).alloc (.cells vs.toArray U)):=
 ⟨(Bl.new w T us).alloc _,Bl.new1 w _ U vs,Yb (Ya w _) (Ya _ _)⟩
theorem box3 (w:World) (T U V:TypeId) (us vs xs:List Value):Bl (((w.alloc (.cells us.toArray T)).alloc (.cells vs.toArray U)).alloc (.cells xs.toArray V)) T w.heap.size us/\Bl (((w.alloc (.cells us.toArray T)).alloc (.cells vs.toArray U)).alloc (.cells xs.toArray V)) U (w.heap.size+1) vs/\Bl (((w.alloc (.cells us.toArray T)).alloc (.cells vs.toArray U)).alloc (.cells xs.toArray V)) V (w.heap.size+2) xs/\Below w.heap.size w (((w.alloc (.cells us.toArray T)).alloc (.cells vs.toArray U)).alloc (.cells xs.toArray V)):=by
 obtain ⟨h1,h2,h3⟩:=box2 w T U us vs
 have h4:=Bl.new ((w.alloc (.cells us.toArray T)).alloc (.cells vs.toArray U)) V xs
 exact ⟨h1.alloc _,h2.alloc _,by simpa using h4,Yb h3 (Ya _ _)⟩
theorem cmpZ_mul {x y k:Int} (hk:0<k):cmpZ (x*k) (y*k)=cmpZ x y:=by
 unfold cmpZ
 by_cases h:x<y
 · rw [if_pos h,if_pos (Int.mul_lt_mul_of_pos_right h hk)]
 · have h2:¬ x*k<y*k:=fun h3=>h (Int.lt_of_mul_lt_mul_right h3 (Int.le_of_lt hk))
   rw [if_neg h,if_neg h2]
   by_cases e:x=y
   · rw [if_pos e,if_pos (by rw [e])]
   · rw [if_neg e,if_neg (fun h3=>e (Int.eq_of_mul_eq_mul_right (Int.ne_of_gt hk) h3))]
theorem mk_parts (z:Int) {N:Nat} (h:N≠0):∃ g:Nat,g≠0/\z=(mkRat z N).num*g/\N=(mkRat z N).den*g:=by
 have e:mkRat z N=⟨(mkRat z N).num,(mkRat z N).den,(mkRat z N).den_nz,(mkRat z N).reduced⟩:=rfl
 exact Rat.mkRat_num_den h e
theorem cmp_mk {z z2:Int} {N N2:Nat} (h:N≠0) (h2:N2≠0):cmpZ (z*(N2:Int)) (z2*(N:Int))=cmpQ (mkRat z N) (mkRat z2 N2):=by
 rw [<- cmpQ_z]
 obtain ⟨g,hg,e1,e2⟩:=mk_parts z h
 obtain ⟨k,hk,e3,e4⟩:=mk_parts z2 h2
 generalize (mkRat z N).num=a at*
 generalize (mkRat z N).den=b at*
 generalize (mkRat z2 N2).num=c at*
 generalize (mkRat z2 N2).den=d at*
 subst e1 e2 e3 e4
 have e:(0:Int)<(g:Int)*(k:Int):=Int.mul_pos Yo Yo
 rw [<- cmpZ_mul (x:=a*(d:Int)) (y:=c*(b:Int)) e]
 congr 1
 · rw [Int.natCast_mul];ac_rfl
 · rw [Int.natCast_mul];ac_rfl
theorem cmp_v {w:World} {L M:Nat} {a u:Value} {q r:Rat} (ha:Qv w L a q) (hu:Qv w M u r) (h0:0<L) (h0':0<M) (h1:L<=17179869184) (h2:M<=17179869184):
 Calls Tryz.prog 89 #[a,u] w fun e w'=>e=.returned (.int .i64 (cmpQ q r))/\Yg w w':=by
 obtain ⟨z,m,⟨b,A,l,c,B,k,d,rfl,hz,hm⟩,rfl⟩:=ha
 obtain ⟨z2,m2,⟨b2,A2,l2,c2,B2,k2,d2,rfl,hz2,hm2⟩,rfl⟩:=hu
 have HQ:=Lib.hid (cmp_mk (z:=z) (z2:=z2) (den_ne m) (den_ne m2))
 have e2:∀ {a b:Nat},a<WB ^ L->b<WB ^ M->a*b<WB ^ (L+M):=fun ha hb=>by rw [Nat.pow_add];exact Nat.mul_lt_mul'' ha hb
 have b1:(z*(den m2:Int)).natAbs<WB ^ (L+M):=by rw [Int.natAbs_mul];exact e2 hz.lt (den_lt hm2.lt h0')
 have b2:(z2*(den m:Int)).natAbs<WB ^ (L+M):=by rw [Int.natAbs_mul,Nat.mul_comm];exact e2 (den_lt hm.lt h0) hz2.lt
 have HB:=Yh2 b1 b2
 have HE:=Yh4 h0 h0' h1 h2
 have HZ:=Yh4 hz hm hz2 hm2
 clear hz hm hz2 hm2 h0 h0' h1 h2 e2 b1 b2
 go_enter Tryz.func89,Tryz.ntmps89
 go_upto_region 1 with (fail)
 obtain ⟨hX,hY,hB⟩:=box2 w 36 36 [.bool b,.slice A l c,.slice B k d] [.bool b2,.slice A2 l2 c2,.slice B2 k2 d2]
 have HX:=Yh3 hX hY hB
 clear hX hY hB
 generalize (w.alloc _).alloc _=W0 at HX ⊢
 go_upto_region 1 with (fail)
 have HC:Hid (∀ W,Yg W0 W->W.cell? ⟨w.heap.size,0,none⟩=some (.bool b)/\W.cell? ⟨w.heap.size,1,none⟩=some (.slice A l c)/\W.cell? ⟨w.heap.size,2,none⟩=some (.slice B k d)/\W.cell? ⟨(w.heap.size+1),0,none⟩=some (.bool b2)/\W.cell? ⟨(w.heap.size+1),1,none⟩=some (.slice A2 l2 c2)/\W.cell? ⟨(w.heap.size+1),2,none⟩=some (.slice B2 k2 d2)):=fun W hb=>⟨Bl.ld (HX.p0.keep hb) 0 rfl,Bl.ld (HX.p0.keep hb) 1 rfl,Bl.ld (HX.p0.keep hb) 2 rfl,Bl.ld (HX.p1.keep hb) 0 rfl,Bl.ld (HX.p1.keep hb) 1 rfl,Bl.ld (HX.p1.keep hb) 2 rfl⟩
 refine flow (fun W=>Yg W0 W/\W.cell? ⟨w.heap.size,0,none⟩=some (.bool b)/\W.cell? ⟨w.heap.size,1,none⟩=some (.slice A l c)/\W.cell? ⟨w.heap.size,2,none⟩=some (.slice B k d)/\W.cell? ⟨(w.heap.size+1),0,none⟩=some (.bool b2)/\W.cell? ⟨(w.heap.size+1),1,none⟩=some (.slice A2 l2 c2)/\W.cell? ⟨(w.heap.size+1),2,none⟩=some (.slice B2 k2 d2)) (fun _ _=>True) (fun _ _=>False) 0 [⟨[],[(0,5),(1,6),(4,9),(5,10)],[],[(2,7,fun v W=>∃ A l c,v=.slice A l c/\Nm W M (.slice A l c) (den m2)),(6,11,fun v W=>∃ A l c,v=.slice A l c/\Nm W L (.slice A l c) (den m))]⟩,⟨[(2,7)],[(0,5)],[],[(3,8,fun v W=>∃ p A l c,v=.agg #[.bool p,.slice A l c]/\Zn W (L+M) (.agg #[.bool p,.slice A l c]) (z*(den m2:Int)))]⟩,⟨[(6,11)],[(4,9)],[],[(7,12,fun v W=>∃ p A l c,v=.agg #[.bool p,.slice A l c]/\Zn W (L+M) (.agg #[.bool p,.slice A l c]) (z2*(den m:Int)))]⟩,⟨[(8,13)],[(9,4)],[],[]⟩,⟨[(3,8),(7,12)],[],[],[(8,13,fun v W=>v=.int .i64 (cmpZ (z*(den m2:Int)) (z2*(den m:Int))))]⟩] [] [] ⟨[(2,7),(3,8),(6,11),(7,12),(8,13)],[(0,5),(1,6),(4,9),(5,10),(9,4)],[],[]⟩ ⟨below_nil,HC.out _ below_nil⟩ (trivial) (fun _ _ h b=>⟨Yb h.1 b,HC.out _ (Yb h.1 b)⟩) (fun _ _ _ h _=>h) ⟨fun _ _ _ ⟨A,l,c,e,h⟩ b=>⟨A,l,c,e,h.keep b⟩,fun _ _ _ _ h=>h.elim,⟨fun _ _ _ ⟨A,l,c,e,h⟩ b=>⟨A,l,c,e,h.keep b⟩,fun _ _ _ _ h=>h.elim,⟨fun _ _ _ ⟨p,A,l,c,e,h⟩ b=>⟨p,A,l,c,e,h.keep b⟩,fun _ _ _ _ h=>h.elim,⟨fun _ _ _ ⟨p,A,l,c,e,h⟩ b=>⟨p,A,l,c,e,h.keep b⟩,fun _ _ _ _ h=>h.elim,⟨fun _ _ _ h _=>h,fun _ _ _ _ h=>h.elim,trivial⟩⟩⟩⟩⟩ ⟨?_,?_,?_,?_,?_,trivial⟩ trivial trivial ?_
 · rintro W hS
   refine gvN ?_;(repeat refine flA ?_);refine flN (flN ?_)
   refine flK (fun K hK=>?_) (flK (fun K hK=>?_) flL)
   · go_simp
     go_at_call 114;refine (under_q (HZ.q3.keep (Yb HX.q2 hS.1)) HE.p1 (by have:=HE.out;omega)).mono ?_;rintro e W2 ⟨v,rfl,h,hb⟩
     obtain ⟨A,l,c,rfl⟩:=h.form
     go_wp2_with fail
     exact hK.out _ _ ⟨⟨_,_,_,rfl,h⟩,hb⟩
   · go_simp
     go_at_call 114;refine (under_q (HZ.p1.keep (Yb HX.q2 hS.1)) HE.p0 (by have:=HE.out;omega)).mono ?_;rintro e W2 ⟨v,rfl,h,hb⟩
     obtain ⟨A,l,c,rfl⟩:=h.form
     go_wp2_with fail
     exact hK.out _ _ ⟨⟨_,_,_,rfl,h⟩,hb⟩
 · rintro W hS v2 ⟨E2,n2,k2,rfl,h2⟩
   refine gvN ?_;(repeat refine flA ?_);refine flN (flN ?_)
   refine flK (fun K hK=>?_) flL
   go_simp
   go_at_call 113;refine (over_q (Qz.mk (HZ.p0.keep (Yb HX.q2 hS.1)) (HZ.p1.keep (Yb HX.q2 hS.1))) h2 (by have:=HE.out;omega) (by have:=HE.out;omega)).mono ?_;rintro e W2 ⟨v,rfl,h⟩
   obtain ⟨p,A,l,c,rfl,-⟩:=h.parts
   go_wp2_with fail
   exact hK.out _ _ ⟨⟨_,_,_,_,rfl,h.zn HB.p0⟩,h.below⟩
 · rintro W hS v6 ⟨E6,n6,k6,rfl,h6⟩
   refine gvN ?_;(repeat refine flA ?_);refine flN (flN ?_)
   refine flK (fun K hK=>?_) flL
   go_simp
   go_at_call 113;refine (over_q (Qz.mk (HZ.p2.keep (Yb HX.q2 hS.1)) (HZ.q3.keep (Yb HX.q2 hS.1))) h6 (by have:=HE.out;omega) (by have:=HE.out;omega)).mono ?_;rintro e W2 ⟨v,rfl,h⟩
   obtain ⟨p,A,l,c,rfl,-⟩:=h.parts
   go_wp2_with fail
   exact hK.out _ _ ⟨⟨_,_,_,_,rfl,h.zn HB.q1⟩,h.below⟩
 · rintro W hS v8 rfl
   refine gvN ?_;(repeat refine flA ?_);refine flN (flN ?_)
   exact flL
 · rintro W hS v3 ⟨p3,E3,n3,k3,rfl,h3⟩ v7 ⟨p7,E7,n7,k7,rfl,h7⟩
   refine gvN ?_;refine flN (flN ?_)
   refine flK (fun K hK=>?_) flL
   go_simp
   go_at_call 146;refine (cmp_z h3 h7 (by have:=HE.out;omega) (by have:=HE.out;omega)).mono ?_;rintro e W2 ⟨rfl,hb⟩
   go_wp2_with fail
   exact hK.out _ _ ⟨rfl,hb⟩
 rintro W hS - v2 ⟨E2,n2,k2,rfl,h2⟩ v3 ⟨p3,E3,n3,k3,rfl,h3⟩ v6 ⟨E6,n6,k6,rfl,h6⟩ v7 ⟨p7,E7,n7,k7,rfl,h7⟩ v8 rfl
 have hS:=hS flY
 refine gvN ?_;(repeat refine flA ?_);refine flN (flN ?_)
 go_wp2_with fail
 go_ret
 exact ⟨congrArg (fun x=>Ending.returned (.int .i64 x)) HQ.out,Yb HX.q2 hS.1⟩
theorem neg_v {w:World} {L:Nat} {a:Value} {q:Rat} (ha:Qv w L a q) (h0:0<L) (h1:L<=17179869184):
 Calls Tryz.prog 58 #[a] w fun e w'=>∃ v,e=.returned v/\Qr w w' v (-q):=by
 obtain ⟨z,m,⟨b,A,l,c,B,k,d,rfl,hz,hm⟩,rfl⟩:=ha
 have HZ:=Yh2 hz hm
 have HE:=Yh2 h0 h1
 clear hz hm h0 h1
 go_enter Tryz.func58,Tryz.ntmps58
 go_upto_region 1 with (fail)
 obtain ⟨hX,hR,hB⟩:=box2 w 36 36 [.bool b,.slice A l c,.slice B k d] [.bool false,.slice none 0 0,.slice none 0 0]
 have HX:=Yh3 hX hR hB
 clear hX hR hB
 generalize (w.alloc _).alloc _=W0 at HX ⊢
 go_upto_region 1 with (fail)
 have HC:Hid (∀ W,Yg W0 W->W.cell? ⟨w.heap.size,0,none⟩=some (.bool b)/\W.cell? ⟨w.heap.size,1,none⟩=some (.slice A l c)/\W.cell? ⟨w.heap.size,2,none⟩=some (.slice B k d)):=fun W hb=>⟨Bl.ld (HX.p0.keep hb) 0 rfl,Bl.ld (HX.p0.keep hb) 1 rfl,Bl.ld (HX.p0.keep hb) 2 rfl⟩
 refine flow (fun W=>Yg W0 W/\W.cell? ⟨w.heap.size,0,none⟩=some (.bool b)/\W.cell? ⟨w.heap.size,1,none⟩=some (.slice A l c)/\W.cell? ⟨w.heap.size,2,none⟩=some (.slice B k d)) (fun vs W=>match vs with|[]=>True|_=>∃ p A l c B k d,Bl W 36 (w.heap.size+1) [.bool p,.slice A l c,.slice B k d]/\Qr w W (.agg #[.bool p,.slice A l c,.slice B k d]) (-mkRat z (den m))) (fun _ _=>False) 0 [⟨[],[(0,3),(1,4),(3,6)],[],[(2,5,fun v W=>∃ p A l c,v=.agg #[.bool p,.slice A l c]/\Zn W L (.agg #[.bool p,.slice A l c]) (-z)),(4,7,fun v W=>∃ A l c,v=.slice A l c/\Nm W L (.slice A l c) (den m))]⟩,⟨[(2,5),(4,7)],[],[],[(5,8,fun v W=>∃ p A l c B k d,v=.agg #[.bool p,.slice A l c,.slice B k d]/\Qr W0 W (.agg #[.bool p,.slice A l c,.slice B k d]) (-mkRat z (den m)))]⟩] [] [⟨6,none,[(5,8)],[],[]⟩] ⟨[(2,5),(4,7),(5,8)],[(0,3),(1,4),(3,6)],[],[]⟩ ⟨below_nil,HC.out _ below_nil⟩ (trivial) (fun _ _ h b=>⟨Yb h.1 b,HC.out _ (Yb h.1 b)⟩) (fun vs _ _ h b=>match vs,h with|[],_=>trivial|_::_,⟨p,A,l,c,B,k,d,h1,h2⟩=>⟨p,A,l,c,B,k,d,h1.keep b,h2.keep b⟩) ⟨fun _ _ _ ⟨p,A,l,c,e,h⟩ b=>⟨p,A,l,c,e,h.keep b⟩,fun _ _ _ _ h=>h.elim,⟨fun _ _ _ ⟨A,l,c,e,h⟩ b=>⟨A,l,c,e,h.keep b⟩,fun _ _ _ _ h=>h.elim,⟨fun _ _ _ ⟨p,A,l,c,B,k,d,e,h⟩ b=>⟨p,A,l,c,B,k,d,e,h.keep b⟩,fun _ _ _ _ h=>h.elim,trivial⟩⟩⟩ ⟨?_,?_,trivial⟩ trivial ⟨?_,trivial⟩ ?_
 · rintro W hS
   refine gvN ?_;(repeat refine flA ?_);refine flN (flN ?_)
   refine flK (fun K hK=>?_) (flK (fun K hK=>?_) flL)
   · go_simp
     go_at_call 122;refine (neg_z (HZ.p0.keep (Yb HX.q2 hS.1)) (by have:=HE.out;omega)).mono ?_;rintro e W2 ⟨v,rfl,h⟩
     obtain ⟨p,A,l,c,rfl,-⟩:=h.parts
     go_wp2_with fail
     exact hK.out _ _ ⟨⟨_,_,_,_,rfl,h.zn (by rw [Int.natAbs_neg];exact HZ.p0.lt)⟩,h.below⟩
   · go_simp
     go_at_call 114;refine (under_q (HZ.q1.keep (Yb HX.q2 hS.1)) HE.p0 (by have:=HE.out;omega)).mono ?_;rintro e W2 ⟨v,rfl,h,hb⟩
     obtain ⟨A,l,c,rfl⟩:=h.form
     go_wp2_with fail
     exact hK.out _ _ ⟨⟨_,_,_,rfl,h⟩,hb⟩
 · rintro W hS v2 ⟨p2,E2,n2,k2,rfl,h2⟩ v4 ⟨E4,n4,k4,rfl,h4⟩
   refine gvN ?_;refine flN (flN ?_)
   refine flK (fun K hK=>?_) flL
   go_simp
   go_at_call 118;refine (lowest_q h2 h4 (den_ne m) (by have:=HE.out;omega) (by have:=HE.out;omega)).mono ?_;rintro e W2 ⟨v,rfl,h⟩
   have h:Qr W W2 v (-mkRat z (den m)):=by rw [Rat.neg_mkRat];exact qs_of h (den_ne m)
   obtain ⟨p,A,l,c,B,k,d,rfl⟩:=h.qo.parts
   go_wp2_with fail
   exact hK.out _ _ ⟨⟨_,_,_,_,_,_,_,rfl,h.from hS.1⟩,h.below⟩
 · rintro W hS - v5 ⟨p5,E5,n5,k5,F5,m5,d5,rfl,h5⟩
   have hS:=hS flY
   refine gvN ?_;refine flN (flN ?_)
   refine flC fun K hK=>?_
   have X:=HX.p1.keep hS.1
   have f0:=Bl.fr X 0
   have f1:=Bl.fr X 1
   have f2:=Bl.fr X 2
   have r0:=Bl.ld X 0 rfl
   have r1:=Bl.ld X 1 rfl
   have r2:=Bl.ld X 2 rfl
   go_simp
   clear f0 f1 f2 r0 r1 r2
   exact hK.out undef _ ⟨⟨_,_,_,_,_,_,_,X.set3 rfl (.bool p5) (.slice E5 n5 k5) (.slice F5 m5 d5),(h5.from HX.q2).keepT (X.keep3 Yd (.bool p5) (.slice E5 n5 k5) (.slice F5 m5 d5)) (below3 (Yb HX.q2 hS.1) Yo (.bool p5) (.slice E5 n5 k5) (.slice F5 m5 d5))⟩,fun h=>flX h⟩
 rintro W hS c6 ⟨p,A,l,c,B,k,d,X,hq⟩ v2 - v4 - v5 ⟨_,p5,E5,n5,k5,F5,m5,d5,rfl,-⟩
 clear hS
 refine gvN ?_;(repeat refine flA ?_);refine flN (flN ?_)
 go_wp2_with fail
 refine ret_bl X (fun W2 hW=>by have d0:=hW 0 _ rfl;have d1:=hW 1 _ rfl;have d2:=hW 2 _ rfl;simp [results,Tryz.results58,go_sem,d0,d1,d2];try rfl) rfl ?_
 exact ⟨_,rfl,hq⟩
theorem sz_neg {L:Nat} {q:Rat} (h:Sz L q):Sz L (-q):=by
 unfold Sz at h ⊢
 rw [Rat.neg_num,Rat.neg_den,Int.natAbs_neg];exact h
theorem div_mk {z z2:Int} {N N2:Nat} (h:N≠0) (h2:N2≠0) (h3:z2≠0):mkRat (upz (z*(N2:Int)) (z2*(N:Int))) (z2*(N:Int)).natAbs=mkRat z N / mkRat z2 N2:=by
 have hN:(0:Int)<(N:Int):=Yo
 rw [Rat.div_def,<- Rat.divInt_ofNat,<- Rat.divInt_ofNat,<- Rat.divInt_ofNat,Rat.inv_divInt,Rat.divInt_mul_divInt _ _]
 unfold upz
 by_cases hz:z2<0
 · have hl:z2*(N:Int)<0:=Int.mul_neg_of_neg_of_pos hz hN
   rw [if_pos hl,show (((z2*(N:Int)).natAbs:Nat):Int)=-(z2*(N:Int)) from by omega,Rat.neg_divInt_neg,Int.mul_comm z2]
 · have hl:0<=z2*(N:Int):=Int.mul_nonneg Yo Yo
   rw [if_neg (by omega),show (((z2*(N:Int)).natAbs:Nat):Int)=z2*(N:Int) from by omega,Int.mul_comm z2]
theorem sub_v {w:World} {L M:Nat} {a u:Value} {q r:Rat} (ha:Qv w L a q) (hu:Qv w M u r) (h0:0<L) (h0':0<M) (h1:L<=17179869184) (h2:M<=17179869184):
 Calls Tryz.prog 98 #[a,u] w fun e w'=>∃ v,e=.returned v/\Qr w w' v (q - r):=by
 have HA:=Lib.hid ha
 have HU:=Lib.hid hu
 obtain ⟨z,m,⟨b,A,l,c,B,k,d,rfl,hz,hm⟩,rfl⟩:=ha
 obtain ⟨z2,m2,⟨b2,A2,l2,c2,B2,k2,d2,rfl,hz2,hm2⟩,rfl⟩:=hu
 have HE:=Yh4 h0 h0' h1 h2
 clear hz hm hz2 hm2 h0 h0' h1 h2
 go_enter Tryz.func98,Tryz.ntmps98
 go_upto_region 1 with (fail)
 obtain ⟨hX,hY,hR,hB⟩:=box3 w 36 36 36 [.bool b,.slice A l c,.slice B k d] [.bool b2,.slice A2 l2 c2,.slice B2 k2 d2] [.bool false,.slice none 0 0,.slice none 0 0]
 have HX:=Yh4 hX hY hR hB
 clear hX hY hR hB
 generalize ((w.alloc _).alloc _).alloc _=W0 at HX ⊢
 go_upto_region 1 with (fail)
 have HC:Hid (∀ W,Yg W0 W->W.cell? ⟨w.heap.size,0,none⟩=some (.bool b)/\W.cell? ⟨w.heap.size,1,none⟩=some (.slice A l c)/\W.cell? ⟨w.heap.size,2,none⟩=some (.slice B k d)/\W.cell? ⟨(w.heap.size+1),0,none⟩=some (.bool b2)/\W.cell? ⟨(w.heap.size+1),1,none⟩=some (.slice A2 l2 c2)/\W.cell? ⟨(w.heap.size+1),2,none⟩=some (.slice B2 k2 d2)):=fun W hb=>⟨Bl.ld (HX.p0.keep hb) 0 rfl,Bl.ld (HX.p0.keep hb) 1 rfl,Bl.ld (HX.p0.keep hb) 2 rfl,Bl.ld (HX.p1.keep hb) 0 rfl,Bl.ld (HX.p1.keep hb) 1 rfl,Bl.ld (HX.p1.keep hb) 2 rfl⟩
 refine flow (fun W=>Yg W0 W/\W.cell? ⟨w.heap.size,0,none⟩=some (.bool b)/\W.cell? ⟨w.heap.size,1,none⟩=some (.slice A l c)/\W.cell? ⟨w.heap.size,2,none⟩=some (.slice B k d)/\W.cell? ⟨(w.heap.size+1),0,none⟩=some (.bool b2)/\W.cell? ⟨(w.heap.size+1),1,none⟩=some (.slice A2 l2 c2)/\W.cell? ⟨(w.heap.size+1),2,none⟩=some (.slice B2 k2 d2)) (fun vs W=>match vs with|[]=>True|_=>∃ p A l c B k d,Bl W 36 (w.heap.size+2) [.bool p,.slice A l c,.slice B k d]/\Qr w W (.agg #[.bool p,.slice A l c,.slice B k d]) (mkRat z (den m)-mkRat z2 (den m2))) (fun _ _=>False) 0 [⟨[],[(0,5),(1,6)],[],[(2,7,fun v W=>∃ p A l c B k d,v=.agg #[.bool p,.slice A l c,.slice B k d]/\Qr W0 W (.agg #[.bool p,.slice A l c,.slice B k d]) (-mkRat z2 (den m2)))]⟩,⟨[(2,7)],[(0,5)],[],[(3,8,fun v W=>∃ p A l c B k d,v=.agg #[.bool p,.slice A l c,.slice B k d]/\Qr W0 W (.agg #[.bool p,.slice A l c,.slice B k d]) (mkRat z (den m)-mkRat z2 (den m2)))]⟩] [] [⟨4,none,[(3,8)],[],[]⟩] ⟨[(2,7),(3,8)],[(0,5),(1,6)],[],[]⟩ ⟨below_nil,HC.out _ below_nil⟩ (trivial) (fun _ _ h b=>⟨Yb h.1 b,HC.out _ (Yb h.1 b)⟩) (fun vs _ _ h b=>match vs,h with|[],_=>trivial|_::_,⟨p,A,l,c,B,k,d,h1,h2⟩=>⟨p,A,l,c,B,k,d,h1.keep b,h2.keep b⟩) ⟨fun _ _ _ ⟨p,A,l,c,B,k,d,e,h⟩ b=>⟨p,A,l,c,B,k,d,e,h.keep b⟩,fun _ _ _ _ h=>h.elim,⟨fun _ _ _ ⟨p,A,l,c,B,k,d,e,h⟩ b=>⟨p,A,l,c,B,k,d,e,h.keep b⟩,fun _ _ _ _ h=>h.elim,trivial⟩⟩ ⟨?_,?_,trivial⟩ trivial ⟨?_,trivial⟩ ?_
 · rintro W hS
   refine gvN ?_;(repeat refine flA ?_);refine flN (flN ?_)
   refine flK (fun K hK=>?_) flL
   go_simp
   go_at_call 58;refine (neg_v (HU.out.keep (Yb HX.q3 hS.1)) HE.p1 HE.q3).mono ?_;rintro e W2 ⟨v,rfl,h⟩
   obtain ⟨p,A,l,c,B,k,d,rfl⟩:=h.qo.parts
   go_wp2_with fail
   exact hK.out _ _ ⟨⟨_,_,_,_,_,_,_,rfl,h.from hS.1⟩,h.below⟩
 · rintro W hS v2 ⟨p2,E2,n2,k2,F2,m2,d2,rfl,h2⟩
   refine gvN ?_;(repeat refine flA ?_);refine flN (flN ?_)
   refine flK (fun K hK=>?_) flL
   go_simp
   go_at_call 56;refine (add_v (HA.out.keep (Yb HX.q3 hS.1)) (h2.qv (sz_neg (HU.out.sz HE.p1))) HE.p0 HE.p1 HE.p2 HE.q3).mono ?_;rintro e W2 ⟨v,rfl,h⟩
   rw [<- Rat.sub_eq_add_neg] at h
   obtain ⟨p,A,l,c,B,k,d,rfl⟩:=h.qo.parts
   go_wp2_with fail
   exact hK.out _ _ ⟨⟨_,_,_,_,_,_,_,rfl,h.from hS.1⟩,h.below⟩
 · rintro W hS - v3 ⟨p3,E3,n3,k3,F3,m3,d3,rfl,h3⟩
   have hS:=hS flY
   refine gvN ?_;refine flN (flN ?_)
   refine flC fun K hK=>?_
   have X:=HX.p2.keep hS.1
   have f0:=Bl.fr X 0
   have f1:=Bl.fr X 1
   have f2:=Bl.fr X 2
   have r0:=Bl.ld X 0 rfl
   have r1:=Bl.ld X 1 rfl
   have r2:=Bl.ld X 2 rfl
   go_simp
   clear f0 f1 f2 r0 r1 r2
   exact hK.out undef _ ⟨⟨_,_,_,_,_,_,_,X.set3 rfl (.bool p3) (.slice E3 n3 k3) (.slice F3 m3 d3),(h3.from HX.q3).keepT (X.keep3 Yd (.bool p3) (.slice E3 n3 k3) (.slice F3 m3 d3)) (below3 (Yb HX.q3 hS.1) Yo (.bool p3) (.slice E3 n3 k3) (.slice F3 m3 d3))⟩,fun h=>flX h⟩
 rintro W hS c4 ⟨p,A,l,c,B,k,d,X,hq⟩ v2 ⟨_,p2,E2,n2,k2,F2,m2,d2,rfl,-⟩ v3 ⟨_,p3,E3,n3,k3,F3,m3,d3,rfl,-⟩
 clear hS
 refine gvN ?_;(repeat refine flA ?_);refine flN (flN ?_)
 go_wp2_with fail
 refine ret_bl X (fun W2 hW=>by have d0:=hW 0 _ rfl;have d1:=hW 1 _ rfl;have d2:=hW 2 _ rfl;simp [results,Tryz.results98,go_sem,d0,d1,d2];try rfl) rfl ?_
 exact ⟨_,rfl,hq⟩
theorem div_v {w:World} {L M:Nat} {a u:Value} {q r:Rat} (ha:Qv w L a q) (hu:Qv w M u r) (h0:0<L) (h0':0<M) (h1:L<=17179869184) (h2:M<=17179869184) (hr:r≠0):
 Calls Tryz.prog 51 #[a,u] w fun e w'=>∃ v,e=.returned (.tuple #[v,.int .i64 0])/\Qr w w' v (q / r):=by
 obtain ⟨z,m,⟨b,A,l,c,B,k,d,rfl,hz,hm⟩,rfl⟩:=ha
 obtain ⟨z2,m2,⟨b2,A2,l2,c2,B2,k2,d2,rfl,hz2,hm2⟩,rfl⟩:=hu
 have h3:z2≠0:=fun h=>hr (by rw [h,Rat.zero_mkRat])
 have h4:z2*(den m:Int)≠0:=Int.mul_ne_zero h3 (by have:=den_ne m;omega)
 have HN:=Yh3 h4 (Int.natAbs_ne_zero.2 h4) (div_mk (z:=z) (z2:=z2) (den_ne m) (den_ne m2) h3)
 clear hr h3 h4
 have e2:∀ {a b:Nat},a<WB ^ L->b<WB ^ M->a*b<WB ^ (L+M):=fun ha hb=>by rw [Nat.pow_add];exact Nat.mul_lt_mul'' ha hb
 have b1:(z*(den m2:Int)).natAbs<WB ^ (L+M):=by rw [Int.natAbs_mul];exact e2 hz.lt (den_lt hm2.lt h0')
 have b2:(z2*(den m:Int)).natAbs<WB ^ (L+M):=by rw [Int.natAbs_mul,Nat.mul_comm];exact e2 (den_lt hm.lt h0) hz2.lt
 have HB:=Yh2 b1 b2
 have HE:=Yh4 h0 h0' h1 h2
 have HZ:=Yh4 hz hm hz2 hm2
 clear hz hm hz2 hm2 h0 h0' h1 h2 e2 b1 b2
 go_enter Tryz.func51,Tryz.ntmps51
 go_upto_region 1 with (fail)
 obtain ⟨hX,hY,hR,hB⟩:=box3 w 36 36 36 [.bool b,.slice A l c,.slice B k d] [.bool b2,.slice A2 l2 c2,.slice B2 k2 d2] [.bool false,.slice none 0 0,.slice none 0 0]
 have HX:=Yh4 hX hY hR hB
 clear hX hY hR hB
 generalize ((w.alloc _).alloc _).alloc _=W0 at HX ⊢
 go_upto_region 1 with (fail)
 have HC:Hid (∀ W,Yg W0 W->W.cell? ⟨w.heap.size,0,none⟩=some (.bool b)/\W.cell? ⟨w.heap.size,1,none⟩=some (.slice A l c)/\W.cell? ⟨w.heap.size,2,none⟩=some (.slice B k d)/\W.cell? ⟨(w.heap.size+1),0,none⟩=some (.bool b2)/\W.cell? ⟨(w.heap.size+1),1,none⟩=some (.slice A2 l2 c2)/\W.cell? ⟨(w.heap.size+1),2,none⟩=some (.slice B2 k2 d2)):=fun W hb=>⟨Bl.ld (HX.p0.keep hb) 0 rfl,Bl.ld (HX.p0.keep hb) 1 rfl,Bl.ld (HX.p0.keep hb) 2 rfl,Bl.ld (HX.p1.keep hb) 0 rfl,Bl.ld (HX.p1.keep hb) 1 rfl,Bl.ld (HX.p1.keep hb) 2 rfl⟩
 refine flow (fun W=>Yg W0 W/\W.cell? ⟨w.heap.size,0,none⟩=some (.bool b)/\W.cell? ⟨w.heap.size,1,none⟩=some (.slice A l c)/\W.cell? ⟨w.heap.size,2,none⟩=some (.slice B k d)/\W.cell? ⟨(w.heap.size+1),0,none⟩=some (.bool b2)/\W.cell? ⟨(w.heap.size+1),1,none⟩=some (.slice A2 l2 c2)/\W.cell? ⟨(w.heap.size+1),2,none⟩=some (.slice B2 k2 d2)) (fun vs W=>match vs with|[]=>True|_=>∃ p A l c B k d,Bl W 36 (w.heap.size+2) [.bool p,.slice A l c,.slice B k d]/\Qr w W (.agg #[.bool p,.slice A l c,.slice B k d]) (mkRat z (den m)/mkRat z2 (den m2))) (fun _ _=>False) 0 [⟨[],[(0,6),(1,7),(4,10),(5,11)],[],[(2,8,fun v W=>∃ A l c,v=.slice A l c/\Nm W M (.slice A l c) (den m2)),(6,12,fun v W=>∃ A l c,v=.slice A l c/\Nm W L (.slice A l c) (den m))]⟩,⟨[(2,8)],[(0,6)],[],[(3,9,fun v W=>∃ p A l c,v=.agg #[.bool p,.slice A l c]/\Zn W (L+M) (.agg #[.bool p,.slice A l c]) (z*(den m2:Int)))]⟩,⟨[(6,12)],[(4,10)],[],[(7,13,fun v W=>∃ p A l c,v=.agg #[.bool p,.slice A l c]/\Zn W (L+M) (.agg #[.bool p,.slice A l c]) (z2*(den m:Int)))]⟩,⟨[(8,14)],[(9,15)],[],[]⟩,⟨[(3,9),(7,13)],[],[],[(8,14,fun v W=>∃ p A l c B k d,v=.tuple #[.agg #[.bool p,.slice A l c,.slice B k d],.int .i64 0]/\Qr W0 W (.agg #[.bool p,.slice A l c,.slice B k d]) (mkRat z (den m)/mkRat z2 (den m2)))]⟩] [⟨[(8,14)],[],[(10,16),(12,5)],[]⟩] [⟨11,none,[(8,14)],[(9,15)],[]⟩] ⟨[(2,8),(3,9),(6,12),(7,13),(8,14)],[(0,6),(1,7),(4,10),(5,11),(9,15)],[(10,16),(12,5)],[]⟩ ⟨below_nil,HC.out _ below_nil⟩ (trivial) (fun _ _ h b=>⟨Yb h.1 b,HC.out _ (Yb h.1 b)⟩) (fun vs _ _ h b=>match vs,h with|[],_=>trivial|_::_,⟨p,A,l,c,B,k,d,h1,h2⟩=>⟨p,A,l,c,B,k,d,h1.keep b,h2.keep b⟩) ⟨fun _ _ _ ⟨A,l,c,e,h⟩ b=>⟨A,l,c,e,h.keep b⟩,fun _ _ _ _ h=>h.elim,⟨fun _ _ _ ⟨A,l,c,e,h⟩ b=>⟨A,l,c,e,h.keep b⟩,fun _ _ _ _ h=>h.elim,⟨fun _ _ _ ⟨p,A,l,c,e,h⟩ b=>⟨p,A,l,c,e,h.keep b⟩,fun _ _ _ _ h=>h.elim,⟨fun _ _ _ ⟨p,A,l,c,e,h⟩ b=>⟨p,A,l,c,e,h.keep b⟩,fun _ _ _ _ h=>h.elim,⟨fun _ _ _ ⟨p,A,l,c,B,k,d,e,h⟩ b=>⟨p,A,l,c,B,k,d,e,h.keep b⟩,fun _ _ _ _ h=>h.elim,trivial⟩⟩⟩⟩⟩ ⟨?_,?_,?_,?_,?_,trivial⟩ ⟨?_,trivial⟩ ⟨?_,trivial⟩ ?_
 · rintro W hS
   refine gvN ?_;(repeat refine flA ?_);refine flN (flN ?_)
   refine flK (fun K hK=>?_) (flK (fun K hK=>?_) flL)
   · go_simp
     go_at_call 114;refine (under_q (HZ.q3.keep (Yb HX.q3 hS.1)) HE.p1 (by have:=HE.out;omega)).mono ?_;rintro e W2 ⟨v,rfl,h,hb⟩
     obtain ⟨A,l,c,rfl⟩:=h.form
     go_wp2_with fail
     exact hK.out _ _ ⟨⟨_,_,_,rfl,h⟩,hb⟩
   · go_simp
     go_at_call 114;refine (under_q (HZ.p1.keep (Yb HX.q3 hS.1)) HE.p0 (by have:=HE.out;omega)).mono ?_;rintro e W2 ⟨v,rfl,h,hb⟩
     obtain ⟨A,l,c,rfl⟩:=h.form
     go_wp2_with fail
     exact hK.out _ _ ⟨⟨_,_,_,rfl,h⟩,hb⟩
 · rintro W hS v2 ⟨E2,n2,k2,rfl,h2⟩
   refine gvN ?_;(repeat refine flA ?_);refine flN (flN ?_)
   refine flK (fun K hK=>?_) flL
   go_simp
   go_at_call 113;refine (over_q (Qz.mk (HZ.p0.keep (Yb HX.q3 hS.1)) (HZ.p1.keep (Yb HX.q3 hS.1))) h2 (by have:=HE.out;omega) (by have:=HE.out;omega)).mono ?_;rintro e W2 ⟨v,rfl,h⟩
   obtain ⟨p,A,l,c,rfl,-⟩:=h.parts
   go_wp2_with fail
   exact hK.out _ _ ⟨⟨_,_,_,_,rfl,h.zn HB.p0⟩,h.below⟩
 · rintro W hS v6 ⟨E6,n6,k6,rfl,h6⟩
   refine gvN ?_;(repeat refine flA ?_);refine flN (flN ?_)
   refine flK (fun K hK=>?_) flL
   go_simp
   go_at_call 113;refine (over_q (Qz.mk (HZ.p2.keep (Yb HX.q3 hS.1)) (HZ.q3.keep (Yb HX.q3 hS.1))) h6 (by have:=HE.out;omega) (by have:=HE.out;omega)).mono ?_;rintro e W2 ⟨v,rfl,h⟩
   obtain ⟨p,A,l,c,rfl,-⟩:=h.parts
   go_wp2_with fail
   exact hK.out _ _ ⟨⟨_,_,_,_,rfl,h.zn HB.q1⟩,h.below⟩
 · rintro W hS v8 ⟨p8,E8,n8,k8,F8,m8,d8,rfl,h8⟩
   refine gvN ?_;(repeat refine flA ?_);refine flN (flN ?_)
   exact flL
 · rintro W hS v3 ⟨p3,E3,n3,k3,rfl,h3⟩ v7 ⟨p7,E7,n7,k7,rfl,h7⟩
   refine gvN ?_;refine flN (flN ?_)
   refine flK (fun K hK=>?_) flL
   go_simp
   go_at_call 112;refine (make_q h3 h7 (by have:=HE.out;omega) HN.p0).mono ?_;rintro e W2 ⟨v,rfl,h⟩
   have h:Qr W W2 v (mkRat z (den m)/mkRat z2 (den m2)):=by rw [<- HN.q2];exact qs_of h HN.p1
   obtain ⟨p,A,l,c,B,k,d,rfl⟩:=h.qo.parts
   go_wp2_with fail
   exact hK.out _ _ ⟨⟨_,_,_,_,_,_,_,rfl,h.from hS.1⟩,h.below⟩
 · rintro v8 ⟨_,p8,E8,n8,k8,F8,m8,d8,rfl,-⟩
   refine gvN ?_;(repeat refine flA ?_);exact trivial
 · rintro W hS - v8 ⟨p8,E8,n8,k8,F8,m8,d8,rfl,h8⟩
   have hS:=hS flY
   refine gvN ?_;(repeat refine flA ?_);refine flN (flN ?_)
   refine flC fun K hK=>?_
   have X:=HX.p2.keep hS.1
   have f0:=Bl.fr X 0
   have f1:=Bl.fr X 1
   have f2:=Bl.fr X 2
   have r0:=Bl.ld X 0 rfl
   have r1:=Bl.ld X 1 rfl
   have r2:=Bl.ld X 2 rfl
   go_simp
   clear f0 f1 f2 r0 r1 r2
   exact hK.out undef _ ⟨⟨_,_,_,_,_,_,_,X.set3 rfl (.bool p8) (.slice E8 n8 k8) (.slice F8 m8 d8),(h8.from HX.q3).keepT (X.keep3 Yd (.bool p8) (.slice E8 n8 k8) (.slice F8 m8 d8)) (below3 (Yb HX.q3 hS.1) Yo (.bool p8) (.slice E8 n8 k8) (.slice F8 m8 d8))⟩,fun h=>flX h⟩
 rintro W hS c11 ⟨p,A,l,c,B,k,d,X,hq⟩ v2 - v3 - v6 - v7 - v8 ⟨_,p8,E8,n8,k8,F8,m8,d8,rfl,-⟩
 clear hS
 refine gvN ?_;(repeat refine flA ?_);refine flN ?_
 go_wp2_with fail
 refine ret_bl X (fun W2 hW=>by have d0:=hW 0 _ rfl;have d1:=hW 1 _ rfl;have d2:=hW 2 _ rfl;simp [results,Tryz.results51,go_sem,d0,d1,d2];try rfl) rfl ?_
 exact ⟨_,rfl,hq⟩
end
end
end Go.Proofs.YtaajajngnmaggaaGreat
