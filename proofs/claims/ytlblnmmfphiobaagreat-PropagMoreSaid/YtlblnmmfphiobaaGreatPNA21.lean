import Derived.Test.YtlblnmmfphiobaaGreatPNA20
import Derived.Test.YtlblnmmfphiobaaGreatPNA19
set_option maxRecDepth 100000
set_option maxHeartbeats 8000000
set_option linter.unusedVariables false
set_option linter.unusedSimpArgs false
namespace Go.Proofs.YtlblnmmfphiobaaGreat
section
open Go Go.RowKit Go.Proofs Pl
theorem GO (w:World) (T:TypeId) (us:List Value):Bl (w.alloc (.cells us.toArray T)) T w.heap.size us/\Below w.heap.size w (w.alloc (.cells us.toArray T)):=⟨Bl.new w T us,Ya w _⟩
theorem box2 (w:World) (T U:TypeId) (us vs:List Value):Bl ((w.alloc (.cells us.toArray T)).alloc (.cells vs.toArray U)) T w.heap.size us/\Bl ((w.alloc (.cells us.toArray T)).alloc (.cells vs.toArray U)) U (w.heap.size+1) vs/\Below w.heap.size w ((w.alloc (.cells us.toArray T)).alloc (.cells vs.toArray U)):=
 ⟨(Bl.new w T us).alloc _,Bl.new1 w _ U vs,Yb (Ya w _) (Ya _ _)⟩
theorem box3 (w:World) (T U V:TypeId) (us vs xs:List Value):Bl (((w.alloc (.cells us.toArray T)).alloc (.cells vs.toArray U)).alloc (.cells xs.toArray V)) T w.heap.size us/\Bl (((w.alloc (.cells us.toArray T)).alloc (.cells vs.toArray U)).alloc (.cells xs.toArray V)) U (w.heap.size+1) vs/\Bl (((w.alloc (.cells us.toArray T)).alloc (.cells vs.toArray U)).alloc (.cells xs.toArray V)) V (w.heap.size+2) xs/\Below w.heap.size w (((w.alloc (.cells us.toArray T)).alloc (.cells vs.toArray U)).alloc (.cells xs.toArray V)):=by
 obtain ⟨h1,h2,h3⟩:=box2 w T U us vs;have h4:=Bl.new ((w.alloc (.cells us.toArray T)).alloc (.cells vs.toArray U)) V xs;exact ⟨h1.alloc _,h2.alloc _,by simpa using h4,Yb h3 (Ya _ _)⟩
theorem NN {x y k:Int} (hk:0<k):Bp (x*k) (y*k)=Bp x y:=by
 unfold Bp;by_cases h:x<y
 · rw [if_pos h,if_pos (Int.mul_lt_mul_of_pos_right h hk)]
 · have h2:¬ x*k<y*k:=fun h3=>h (Int.lt_of_mul_lt_mul_right h3 (VO hk));rw [if_neg h,if_neg h2];by_cases e:x=y
   · rw [if_pos e,if_pos (by rw [e])]
   · rw [if_neg e,if_neg (fun h3=>e (Int.eq_of_mul_eq_mul_right (Int.ne_of_gt hk) h3))]
theorem EP (z:Int) {N:Nat} (h:N≠0):∃ g:Nat,g≠0/\z=(mkRat z N).num*g/\N=(mkRat z N).den*g:=by
 have e:mkRat z N=⟨(mkRat z N).num,(mkRat z N).den,(mkRat z N).den_nz,(mkRat z N).reduced⟩:=rfl;exact Rat.mkRat_num_den h e
theorem SL {z z2:Int} {N N2:Nat} (h:N≠0) (h2:N2≠0):Bp (z*(N2:Int)) (z2*(N:Int))=DJ (mkRat z N) (mkRat z2 N2):=by
 rw [<- Oq];obtain ⟨g,hg,e1,e2⟩:=EP z h;obtain ⟨k,hk,e3,e4⟩:=EP z2 h2;generalize (mkRat z N).num=a at*;generalize (mkRat z N).den=b at*;generalize (mkRat z2 N2).num=c at*;generalize (mkRat z2 N2).den=d at*;subst e1 e2 e3 e4;have e:(0:Int)<(g:Int)*(k:Int):=Int.mul_pos Yo Yo;rw [<- NN (x:=a*(d:Int)) (y:=c*(b:Int)) e]
 congr 1
 · rw [Int.natCast_mul];ac_rfl
 · rw [Int.natCast_mul];ac_rfl
theorem Ll {w:World} {L M:Nat} {a u:Value} {q r:Rat} (ha:Qv w L a q) (hu:Qv w M u r) (h0:0<L) (h0':0<M) (h1:L<=17179869184) (h2:M<=17179869184):
 Calls Tryz.prog 170 #[a,u] w fun e w'=>e=.returned (.int .i64 (DJ q r))/\Yg w w':=by
 obtain ⟨z,m,⟨b,A,l,c,B,k,d,rfl,hz,hm⟩,rfl⟩:=ha;obtain ⟨z2,m2,⟨b2,A2,l2,c2,B2,k2,d2,rfl,hz2,hm2⟩,rfl⟩:=hu;have HQ:=Lib.hid (SL (z:=z) (z2:=z2) (BE m) (BE m2));have e2:∀ {a b:Nat},a<WB ^ L->b<WB ^ M->a*b<WB ^ (L+M):=fun ha hb=>by rw [UF];exact UG ha hb
 have b1:(z*(den m2:Int)).natAbs<WB ^ (L+M):=by rw [UL];exact e2 hz.lt (C8 hm2.lt h0')
 have b2:(z2*(den m:Int)).natAbs<WB ^ (L+M):=by rw [UL,TX];exact e2 (C8 hm.lt h0) hz2.lt
 have HB:=Yh2 b1 b2;have HE:=Yh4 h0 h0' h1 h2;have HZ:=Yh4 hz hm hz2 hm2;clear hz hm hz2 hm2 h0 h0' h1 h2 e2 b1 b2;go_enter Tryz.func170,Tryz.ntmps170;go_upto_region 1 with (fail)
 obtain ⟨hX,hY,hB⟩:=box2 w 36 36 [.bool b,.slice A l c,.slice B k d] [.bool b2,.slice A2 l2 c2,.slice B2 k2 d2];have HX:=Yh3 hX hY hB;clear hX hY hB;generalize (w.alloc _).alloc _=W0 at HX ⊢;go_upto_region 1 with (fail)
 have HC:Hid (∀ W,Yg W0 W->W.cell? ⟨w.heap.size,0,none⟩=some (.bool b)/\W.cell? ⟨w.heap.size,1,none⟩=some (.slice A l c)/\W.cell? ⟨w.heap.size,2,none⟩=some (.slice B k d)/\W.cell? ⟨(w.heap.size+1),0,none⟩=some (.bool b2)/\W.cell? ⟨(w.heap.size+1),1,none⟩=some (.slice A2 l2 c2)/\W.cell? ⟨(w.heap.size+1),2,none⟩=some (.slice B2 k2 d2)):=fun W hb=>⟨Bl.ld (HX.p0.keep hb) 0 rfl,Bl.ld (HX.p0.keep hb) 1 rfl,Bl.ld (HX.p0.keep hb) 2 rfl,Bl.ld (HX.p1.keep hb) 0 rfl,Bl.ld (HX.p1.keep hb) 1 rfl,Bl.ld (HX.p1.keep hb) 2 rfl⟩;refine BA (fun W=>Yg W0 W/\W.cell? ⟨w.heap.size,0,none⟩=some (.bool b)/\W.cell? ⟨w.heap.size,1,none⟩=some (.slice A l c)/\W.cell? ⟨w.heap.size,2,none⟩=some (.slice B k d)/\W.cell? ⟨(w.heap.size+1),0,none⟩=some (.bool b2)/\W.cell? ⟨(w.heap.size+1),1,none⟩=some (.slice A2 l2 c2)/\W.cell? ⟨(w.heap.size+1),2,none⟩=some (.slice B2 k2 d2)) (fun _ _=>True) (fun _ _=>False) 0 [⟨[],[(0,5),(1,6),(4,9),(5,10)],[],[(2,7,fun v W=>∃ A l c,v=.slice A l c/\Nm W M (.slice A l c) (den m2)),(6,11,fun v W=>∃ A l c,v=.slice A l c/\Nm W L (.slice A l c) (den m))]⟩,⟨[(2,7)],[(0,5)],[],[(3,8,fun v W=>∃ p A l c,v=.agg #[.bool p,.slice A l c]/\Zn W (L+M) (.agg #[.bool p,.slice A l c]) (z*(den m2:Int)))]⟩,⟨[(6,11)],[(4,9)],[],[(7,12,fun v W=>∃ p A l c,v=.agg #[.bool p,.slice A l c]/\Zn W (L+M) (.agg #[.bool p,.slice A l c]) (z2*(den m:Int)))]⟩,⟨[(8,13)],[(9,4)],[],[]⟩,⟨[(3,8),(7,12)],[],[],[(8,13,fun v W=>v=.int .i64 (Bp (z*(den m2:Int)) (z2*(den m:Int))))]⟩] [] [] ⟨[(2,7),(3,8),(6,11),(7,12),(8,13)],[(0,5),(1,6),(4,9),(5,10),(9,4)],[],[]⟩ ⟨Aj,HC.out _ Aj⟩ (trivial) (fun _ _ h b=>⟨Yb h.1 b,HC.out _ (Yb h.1 b)⟩) (fun _ _ _ h _=>h) ⟨fun _ _ _ ⟨A,l,c,e,h⟩ b=>⟨A,l,c,e,h.keep b⟩,fun _ _ _ _ h=>h.elim,⟨fun _ _ _ ⟨A,l,c,e,h⟩ b=>⟨A,l,c,e,h.keep b⟩,fun _ _ _ _ h=>h.elim,⟨fun _ _ _ ⟨p,A,l,c,e,h⟩ b=>⟨p,A,l,c,e,h.keep b⟩,fun _ _ _ _ h=>h.elim,⟨fun _ _ _ ⟨p,A,l,c,e,h⟩ b=>⟨p,A,l,c,e,h.keep b⟩,fun _ _ _ _ h=>h.elim,⟨fun _ _ _ h _=>h,fun _ _ _ _ h=>h.elim,trivial⟩⟩⟩⟩⟩ ⟨?_,?_,?_,?_,?_,trivial⟩ trivial trivial ?_
 · rintro W hS;refine gvN ?_;(repeat refine flA ?_);refine flN (flN ?_);refine flK (fun K hK=>?_) (flK (fun K hK=>?_) flL)
   · go_simp;go_at_call 159;refine (Bj (HZ.q3.keep (Yb HX.q2 hS.1)) HE.p1 (by have:=HE.out;omega)).mono ?_;rintro e W2 ⟨v,rfl,h,hb⟩;obtain ⟨A,l,c,rfl⟩:=h.form;go_wp2_with fail;exact hK.out _ _ ⟨⟨_,_,_,rfl,h⟩,hb⟩
   · go_simp;go_at_call 159;refine (Bj (HZ.p1.keep (Yb HX.q2 hS.1)) HE.p0 (by have:=HE.out;omega)).mono ?_;rintro e W2 ⟨v,rfl,h,hb⟩;obtain ⟨A,l,c,rfl⟩:=h.form;go_wp2_with fail;exact hK.out _ _ ⟨⟨_,_,_,rfl,h⟩,hb⟩
 · rintro W hS v2 ⟨E2,n2,k2,rfl,h2⟩;refine gvN ?_;(repeat refine flA ?_);refine flN (flN ?_);refine flK (fun K hK=>?_) flL;go_simp;go_at_call 158;refine (DK (Qz.mk (HZ.p0.keep (Yb HX.q2 hS.1)) (HZ.p1.keep (Yb HX.q2 hS.1))) h2 (by have:=HE.out;omega) (by have:=HE.out;omega)).mono ?_;rintro e W2 ⟨v,rfl,h⟩;obtain ⟨p,A,l,c,rfl,-⟩:=h.parts;go_wp2_with fail;exact hK.out _ _ ⟨⟨_,_,_,_,rfl,h.zn HB.p0⟩,h.below⟩
 · rintro W hS v6 ⟨E6,n6,k6,rfl,h6⟩;refine gvN ?_;(repeat refine flA ?_);refine flN (flN ?_);refine flK (fun K hK=>?_) flL;go_simp;go_at_call 158;refine (DK (Qz.mk (HZ.p2.keep (Yb HX.q2 hS.1)) (HZ.q3.keep (Yb HX.q2 hS.1))) h6 (by have:=HE.out;omega) (by have:=HE.out;omega)).mono ?_;rintro e W2 ⟨v,rfl,h⟩;obtain ⟨p,A,l,c,rfl,-⟩:=h.parts;go_wp2_with fail;exact hK.out _ _ ⟨⟨_,_,_,_,rfl,h.zn HB.q1⟩,h.below⟩
 · rintro W hS v8 rfl;refine gvN ?_;(repeat refine flA ?_);refine flN (flN ?_);exact flL
 · rintro W hS v3 ⟨p3,E3,n3,k3,rfl,h3⟩ v7 ⟨p7,E7,n7,k7,rfl,h7⟩;refine gvN ?_;refine flN (flN ?_);refine flK (fun K hK=>?_) flL;go_simp;go_at_call 226;refine (Tt h3 h7 (by have:=HE.out;omega) (by have:=HE.out;omega)).mono ?_;rintro e W2 ⟨rfl,hb⟩;go_wp2_with fail;exact hK.out _ _ ⟨rfl,hb⟩
 rintro W hS - v2 ⟨E2,n2,k2,rfl,h2⟩ v3 ⟨p3,E3,n3,k3,rfl,h3⟩ v6 ⟨E6,n6,k6,rfl,h6⟩ v7 ⟨p7,E7,n7,k7,rfl,h7⟩ v8 rfl;have hS:=hS flY;refine gvN ?_;(repeat refine flA ?_);refine flN (flN ?_);go_wp2_with fail;go_ret;exact ⟨congrArg (fun x=>Ending.returned (.int .i64 x)) HQ.out,Yb HX.q2 hS.1⟩
theorem Rq {w:World} {L:Nat} {a:Value} {q:Rat} (ha:Qv w L a q) (h0:0<L) (h1:L<=17179869184):
 Calls Tryz.prog 79 #[a] w fun e w'=>∃ v,e=.returned v/\Qr w w' v (-q):=by
 obtain ⟨z,m,⟨b,A,l,c,B,k,d,rfl,hz,hm⟩,rfl⟩:=ha;have HZ:=Yh2 hz hm;have HE:=Yh2 h0 h1;clear hz hm h0 h1;go_enter Tryz.func79,Tryz.ntmps79;go_upto_region 1 with (fail)
 obtain ⟨hX,hR,hB⟩:=box2 w 36 36 [.bool b,.slice A l c,.slice B k d] [.bool false,.slice none 0 0,.slice none 0 0];have HX:=Yh3 hX hR hB;clear hX hR hB;generalize (w.alloc _).alloc _=W0 at HX ⊢;go_upto_region 1 with (fail)
 have HC:Hid (∀ W,Yg W0 W->W.cell? ⟨w.heap.size,0,none⟩=some (.bool b)/\W.cell? ⟨w.heap.size,1,none⟩=some (.slice A l c)/\W.cell? ⟨w.heap.size,2,none⟩=some (.slice B k d)):=fun W hb=>⟨Bl.ld (HX.p0.keep hb) 0 rfl,Bl.ld (HX.p0.keep hb) 1 rfl,Bl.ld (HX.p0.keep hb) 2 rfl⟩;refine BA (fun W=>Yg W0 W/\W.cell? ⟨w.heap.size,0,none⟩=some (.bool b)/\W.cell? ⟨w.heap.size,1,none⟩=some (.slice A l c)/\W.cell? ⟨w.heap.size,2,none⟩=some (.slice B k d)) (fun vs W=>match vs with|[]=>True|_=>∃ p A l c B k d,Bl W 36 (w.heap.size+1) [.bool p,.slice A l c,.slice B k d]/\Qr w W (.agg #[.bool p,.slice A l c,.slice B k d]) (-mkRat z (den m))) (fun _ _=>False) 0 [⟨[],[(0,3),(1,4),(3,6)],[],[(2,5,fun v W=>∃ p A l c,v=.agg #[.bool p,.slice A l c]/\Zn W L (.agg #[.bool p,.slice A l c]) (-z)),(4,7,fun v W=>∃ A l c,v=.slice A l c/\Nm W L (.slice A l c) (den m))]⟩,⟨[(2,5),(4,7)],[],[],[(5,8,fun v W=>∃ p A l c B k d,v=.agg #[.bool p,.slice A l c,.slice B k d]/\Qr W0 W (.agg #[.bool p,.slice A l c,.slice B k d]) (-mkRat z (den m)))]⟩] [] [⟨6,none,[(5,8)],[],[]⟩] ⟨[(2,5),(4,7),(5,8)],[(0,3),(1,4),(3,6)],[],[]⟩ ⟨Aj,HC.out _ Aj⟩ (trivial) (fun _ _ h b=>⟨Yb h.1 b,HC.out _ (Yb h.1 b)⟩) (fun vs _ _ h b=>match vs,h with|[],_=>trivial|_::_,⟨p,A,l,c,B,k,d,h1,h2⟩=>⟨p,A,l,c,B,k,d,h1.keep b,h2.keep b⟩) ⟨fun _ _ _ ⟨p,A,l,c,e,h⟩ b=>⟨p,A,l,c,e,h.keep b⟩,fun _ _ _ _ h=>h.elim,⟨fun _ _ _ ⟨A,l,c,e,h⟩ b=>⟨A,l,c,e,h.keep b⟩,fun _ _ _ _ h=>h.elim,⟨fun _ _ _ ⟨p,A,l,c,B,k,d,e,h⟩ b=>⟨p,A,l,c,B,k,d,e,h.keep b⟩,fun _ _ _ _ h=>h.elim,trivial⟩⟩⟩ ⟨?_,?_,trivial⟩ trivial ⟨?_,trivial⟩ ?_
 · rintro W hS;refine gvN ?_;(repeat refine flA ?_);refine flN (flN ?_);refine flK (fun K hK=>?_) (flK (fun K hK=>?_) flL)
   · go_simp;go_at_call 167;refine (Pc (HZ.p0.keep (Yb HX.q2 hS.1)) (by have:=HE.out;omega)).mono ?_;rintro e W2 ⟨v,rfl,h⟩;obtain ⟨p,A,l,c,rfl,-⟩:=h.parts;go_wp2_with fail;exact hK.out _ _ ⟨⟨_,_,_,_,rfl,h.zn (by rw [Wj];exact HZ.p0.lt)⟩,h.below⟩
   · go_simp;go_at_call 159;refine (Bj (HZ.q1.keep (Yb HX.q2 hS.1)) HE.p0 (by have:=HE.out;omega)).mono ?_;rintro e W2 ⟨v,rfl,h,hb⟩;obtain ⟨A,l,c,rfl⟩:=h.form;go_wp2_with fail;exact hK.out _ _ ⟨⟨_,_,_,rfl,h⟩,hb⟩
 · rintro W hS v2 ⟨p2,E2,n2,k2,rfl,h2⟩ v4 ⟨E4,n4,k4,rfl,h4⟩;refine gvN ?_;refine flN (flN ?_);refine flK (fun K hK=>?_) flL;go_simp;go_at_call 163;refine (DO h2 h4 (BE m) (by have:=HE.out;omega) (by have:=HE.out;omega)).mono ?_;rintro e W2 ⟨v,rfl,h⟩;have h:Qr W W2 v (-mkRat z (den m)):=by rw [Rat.neg_mkRat];exact Jm h (BE m)
   obtain ⟨p,A,l,c,B,k,d,rfl⟩:=h.qo.parts;go_wp2_with fail;exact hK.out _ _ ⟨⟨_,_,_,_,_,_,_,rfl,h.from hS.1⟩,h.below⟩
 · rintro W hS - v5 ⟨p5,E5,n5,k5,F5,m5,d5,rfl,h5⟩;have hS:=hS flY;refine gvN ?_;refine flN (flN ?_);refine flC fun K hK=>?_;have X:=HX.p1.keep hS.1;have f0:=Bl.fr X 0;have f1:=Bl.fr X 1;have f2:=Bl.fr X 2;have r0:=Bl.ld X 0 rfl;have r1:=Bl.ld X 1 rfl;have r2:=Bl.ld X 2 rfl;go_simp;clear f0 f1 f2 r0 r1 r2;exact hK.out undef _ ⟨⟨_,_,_,_,_,_,_,X.set3 rfl (.bool p5) (.slice E5 n5 k5) (.slice F5 m5 d5),(h5.from HX.q2).keepT (X.keep3 Yd (.bool p5) (.slice E5 n5 k5) (.slice F5 m5 d5)) (C4 (Yb HX.q2 hS.1) Yo (.bool p5) (.slice E5 n5 k5) (.slice F5 m5 d5))⟩,fun h=>flX h⟩
 rintro W hS c6 ⟨p,A,l,c,B,k,d,X,hq⟩ v2 - v4 - v5 ⟨_,p5,E5,n5,k5,F5,m5,d5,rfl,-⟩;clear hS;refine gvN ?_;(repeat refine flA ?_);refine flN (flN ?_);go_wp2_with fail;refine AP X (fun W2 hW=>by have d0:=hW 0 _ rfl;have d1:=hW 1 _ rfl;have d2:=hW 2 _ rfl;simp [results,Tryz.results79,go_sem,d0,d1,d2];try rfl) rfl ?_;exact ⟨_,rfl,hq⟩
theorem KV {L:Nat} {q:Rat} (h:Sz L q):Sz L (-q):=by
 unfold Sz at h ⊢;rw [Rat.neg_num,Rat.neg_den,Wj];exact h
theorem NF {z z2:Int} {N N2:Nat} (h:N≠0) (h2:N2≠0) (h3:z2≠0):mkRat (upz (z*(N2:Int)) (z2*(N:Int))) (z2*(N:Int)).natAbs=mkRat z N / mkRat z2 N2:=by
 have hN:(0:Int)<(N:Int):=Yo;rw [Rat.div_def,<- Rat.divInt_ofNat,<- Rat.divInt_ofNat,<- Rat.divInt_ofNat,Rat.inv_divInt,Rat.divInt_mul_divInt _ _];unfold upz;by_cases hz:z2<0
 · have hl:z2*(N:Int)<0:=Int.mul_neg_of_neg_of_pos hz hN;rw [if_pos hl,show (((z2*(N:Int)).natAbs:Nat):Int)=-(z2*(N:Int)) from by omega,Rat.neg_divInt_neg,Int.mul_comm z2]
 · have hl:0<=z2*(N:Int):=Int.mul_nonneg Yo Yo;rw [if_neg (by omega),show (((z2*(N:Int)).natAbs:Nat):Int)=z2*(N:Int) from by omega,Int.mul_comm z2]
theorem Tf {w:World} {L M:Nat} {a u:Value} {q r:Rat} (ha:Qv w L a q) (hu:Qv w M u r) (h0:0<L) (h0':0<M) (h1:L<=17179869184) (h2:M<=17179869184) (hr:r≠0):
 Calls Tryz.prog 72 #[a,u] w fun e w'=>∃ v,e=.returned (.tuple #[v,.int .i64 0])/\Qr w w' v (q / r):=by
 obtain ⟨z,m,⟨b,A,l,c,B,k,d,rfl,hz,hm⟩,rfl⟩:=ha;obtain ⟨z2,m2,⟨b2,A2,l2,c2,B2,k2,d2,rfl,hz2,hm2⟩,rfl⟩:=hu;have h3:z2≠0:=fun h=>hr (by rw [h,Rat.zero_mkRat]);have h4:z2*(den m:Int)≠0:=Int.mul_ne_zero h3 (by have:=BE m;omega);have HN:=Yh3 h4 (Int.natAbs_ne_zero.2 h4) (NF (z:=z) (z2:=z2) (BE m) (BE m2) h3);clear hr h3 h4;have e2:∀ {a b:Nat},a<WB ^ L->b<WB ^ M->a*b<WB ^ (L+M):=fun ha hb=>by rw [UF];exact UG ha hb
 have b1:(z*(den m2:Int)).natAbs<WB ^ (L+M):=by rw [UL];exact e2 hz.lt (C8 hm2.lt h0')
 have b2:(z2*(den m:Int)).natAbs<WB ^ (L+M):=by rw [UL,TX];exact e2 (C8 hm.lt h0) hz2.lt
 have HB:=Yh2 b1 b2;have HE:=Yh4 h0 h0' h1 h2;have HZ:=Yh4 hz hm hz2 hm2;clear hz hm hz2 hm2 h0 h0' h1 h2 e2 b1 b2;go_enter Tryz.func72,Tryz.ntmps72;go_upto_region 1 with (fail)
 obtain ⟨hX,hY,hR,hB⟩:=box3 w 36 36 36 [.bool b,.slice A l c,.slice B k d] [.bool b2,.slice A2 l2 c2,.slice B2 k2 d2] [.bool false,.slice none 0 0,.slice none 0 0];have HX:=Yh4 hX hY hR hB;clear hX hY hR hB;generalize ((w.alloc _).alloc _).alloc _=W0 at HX ⊢;go_upto_region 1 with (fail)
 have HC:Hid (∀ W,Yg W0 W->W.cell? ⟨w.heap.size,0,none⟩=some (.bool b)/\W.cell? ⟨w.heap.size,1,none⟩=some (.slice A l c)/\W.cell? ⟨w.heap.size,2,none⟩=some (.slice B k d)/\W.cell? ⟨(w.heap.size+1),0,none⟩=some (.bool b2)/\W.cell? ⟨(w.heap.size+1),1,none⟩=some (.slice A2 l2 c2)/\W.cell? ⟨(w.heap.size+1),2,none⟩=some (.slice B2 k2 d2)):=fun W hb=>⟨Bl.ld (HX.p0.keep hb) 0 rfl,Bl.ld (HX.p0.keep hb) 1 rfl,Bl.ld (HX.p0.keep hb) 2 rfl,Bl.ld (HX.p1.keep hb) 0 rfl,Bl.ld (HX.p1.keep hb) 1 rfl,Bl.ld (HX.p1.keep hb) 2 rfl⟩;refine BA (fun W=>Yg W0 W/\W.cell? ⟨w.heap.size,0,none⟩=some (.bool b)/\W.cell? ⟨w.heap.size,1,none⟩=some (.slice A l c)/\W.cell? ⟨w.heap.size,2,none⟩=some (.slice B k d)/\W.cell? ⟨(w.heap.size+1),0,none⟩=some (.bool b2)/\W.cell? ⟨(w.heap.size+1),1,none⟩=some (.slice A2 l2 c2)/\W.cell? ⟨(w.heap.size+1),2,none⟩=some (.slice B2 k2 d2)) (fun vs W=>match vs with|[]=>True|_=>∃ p A l c B k d,Bl W 36 (w.heap.size+2) [.bool p,.slice A l c,.slice B k d]/\Qr w W (.agg #[.bool p,.slice A l c,.slice B k d]) (mkRat z (den m)/mkRat z2 (den m2))) (fun _ _=>False) 0 [⟨[],[(0,6),(1,7),(4,10),(5,11)],[],[(2,8,fun v W=>∃ A l c,v=.slice A l c/\Nm W M (.slice A l c) (den m2)),(6,12,fun v W=>∃ A l c,v=.slice A l c/\Nm W L (.slice A l c) (den m))]⟩,⟨[(2,8)],[(0,6)],[],[(3,9,fun v W=>∃ p A l c,v=.agg #[.bool p,.slice A l c]/\Zn W (L+M) (.agg #[.bool p,.slice A l c]) (z*(den m2:Int)))]⟩,⟨[(6,12)],[(4,10)],[],[(7,13,fun v W=>∃ p A l c,v=.agg #[.bool p,.slice A l c]/\Zn W (L+M) (.agg #[.bool p,.slice A l c]) (z2*(den m:Int)))]⟩,⟨[(8,14)],[(9,15)],[],[]⟩,⟨[(3,9),(7,13)],[],[],[(8,14,fun v W=>∃ p A l c B k d,v=.tuple #[.agg #[.bool p,.slice A l c,.slice B k d],.int .i64 0]/\Qr W0 W (.agg #[.bool p,.slice A l c,.slice B k d]) (mkRat z (den m)/mkRat z2 (den m2)))]⟩] [⟨[(8,14)],[],[(10,16),(12,5)],[]⟩] [⟨11,none,[(8,14)],[(9,15)],[]⟩] ⟨[(2,8),(3,9),(6,12),(7,13),(8,14)],[(0,6),(1,7),(4,10),(5,11),(9,15)],[(10,16),(12,5)],[]⟩ ⟨Aj,HC.out _ Aj⟩ (trivial) (fun _ _ h b=>⟨Yb h.1 b,HC.out _ (Yb h.1 b)⟩) (fun vs _ _ h b=>match vs,h with|[],_=>trivial|_::_,⟨p,A,l,c,B,k,d,h1,h2⟩=>⟨p,A,l,c,B,k,d,h1.keep b,h2.keep b⟩) ⟨fun _ _ _ ⟨A,l,c,e,h⟩ b=>⟨A,l,c,e,h.keep b⟩,fun _ _ _ _ h=>h.elim,⟨fun _ _ _ ⟨A,l,c,e,h⟩ b=>⟨A,l,c,e,h.keep b⟩,fun _ _ _ _ h=>h.elim,⟨fun _ _ _ ⟨p,A,l,c,e,h⟩ b=>⟨p,A,l,c,e,h.keep b⟩,fun _ _ _ _ h=>h.elim,⟨fun _ _ _ ⟨p,A,l,c,e,h⟩ b=>⟨p,A,l,c,e,h.keep b⟩,fun _ _ _ _ h=>h.elim,⟨fun _ _ _ ⟨p,A,l,c,B,k,d,e,h⟩ b=>⟨p,A,l,c,B,k,d,e,h.keep b⟩,fun _ _ _ _ h=>h.elim,trivial⟩⟩⟩⟩⟩ ⟨?_,?_,?_,?_,?_,trivial⟩ ⟨?_,trivial⟩ ⟨?_,trivial⟩ ?_
 · rintro W hS;refine gvN ?_;(repeat refine flA ?_);refine flN (flN ?_);refine flK (fun K hK=>?_) (flK (fun K hK=>?_) flL)
   · go_simp;go_at_call 159;refine (Bj (HZ.q3.keep (Yb HX.q3 hS.1)) HE.p1 (by have:=HE.out;omega)).mono ?_;rintro e W2 ⟨v,rfl,h,hb⟩;obtain ⟨A,l,c,rfl⟩:=h.form;go_wp2_with fail;exact hK.out _ _ ⟨⟨_,_,_,rfl,h⟩,hb⟩
   · go_simp;go_at_call 159;refine (Bj (HZ.p1.keep (Yb HX.q3 hS.1)) HE.p0 (by have:=HE.out;omega)).mono ?_;rintro e W2 ⟨v,rfl,h,hb⟩;obtain ⟨A,l,c,rfl⟩:=h.form;go_wp2_with fail;exact hK.out _ _ ⟨⟨_,_,_,rfl,h⟩,hb⟩
 · rintro W hS v2 ⟨E2,n2,k2,rfl,h2⟩;refine gvN ?_;(repeat refine flA ?_);refine flN (flN ?_);refine flK (fun K hK=>?_) flL;go_simp;go_at_call 158;refine (DK (Qz.mk (HZ.p0.keep (Yb HX.q3 hS.1)) (HZ.p1.keep (Yb HX.q3 hS.1))) h2 (by have:=HE.out;omega) (by have:=HE.out;omega)).mono ?_;rintro e W2 ⟨v,rfl,h⟩;obtain ⟨p,A,l,c,rfl,-⟩:=h.parts;go_wp2_with fail;exact hK.out _ _ ⟨⟨_,_,_,_,rfl,h.zn HB.p0⟩,h.below⟩
 · rintro W hS v6 ⟨E6,n6,k6,rfl,h6⟩;refine gvN ?_;(repeat refine flA ?_);refine flN (flN ?_);refine flK (fun K hK=>?_) flL;go_simp;go_at_call 158;refine (DK (Qz.mk (HZ.p2.keep (Yb HX.q3 hS.1)) (HZ.q3.keep (Yb HX.q3 hS.1))) h6 (by have:=HE.out;omega) (by have:=HE.out;omega)).mono ?_;rintro e W2 ⟨v,rfl,h⟩;obtain ⟨p,A,l,c,rfl,-⟩:=h.parts;go_wp2_with fail;exact hK.out _ _ ⟨⟨_,_,_,_,rfl,h.zn HB.q1⟩,h.below⟩
 · rintro W hS v8 ⟨p8,E8,n8,k8,F8,m8,d8,rfl,h8⟩;refine gvN ?_;(repeat refine flA ?_);refine flN (flN ?_);exact flL
 · rintro W hS v3 ⟨p3,E3,n3,k3,rfl,h3⟩ v7 ⟨p7,E7,n7,k7,rfl,h7⟩;refine gvN ?_;refine flN (flN ?_);refine flK (fun K hK=>?_) flL;go_simp;go_at_call 157;refine (R8 h3 h7 (by have:=HE.out;omega) HN.p0).mono ?_;rintro e W2 ⟨v,rfl,h⟩;have h:Qr W W2 v (mkRat z (den m)/mkRat z2 (den m2)):=by rw [<- HN.q2];exact Jm h HN.p1
   obtain ⟨p,A,l,c,B,k,d,rfl⟩:=h.qo.parts;go_wp2_with fail;exact hK.out _ _ ⟨⟨_,_,_,_,_,_,_,rfl,h.from hS.1⟩,h.below⟩
 · rintro v8 ⟨_,p8,E8,n8,k8,F8,m8,d8,rfl,-⟩;refine gvN ?_;(repeat refine flA ?_);exact trivial
 · rintro W hS - v8 ⟨p8,E8,n8,k8,F8,m8,d8,rfl,h8⟩;have hS:=hS flY;refine gvN ?_;(repeat refine flA ?_);refine flN (flN ?_);refine flC fun K hK=>?_;have X:=HX.p2.keep hS.1;have f0:=Bl.fr X 0;have f1:=Bl.fr X 1;have f2:=Bl.fr X 2;have r0:=Bl.ld X 0 rfl;have r1:=Bl.ld X 1 rfl;have r2:=Bl.ld X 2 rfl;go_simp;clear f0 f1 f2 r0 r1 r2;exact hK.out undef _ ⟨⟨_,_,_,_,_,_,_,X.set3 rfl (.bool p8) (.slice E8 n8 k8) (.slice F8 m8 d8),(h8.from HX.q3).keepT (X.keep3 Yd (.bool p8) (.slice E8 n8 k8) (.slice F8 m8 d8)) (C4 (Yb HX.q3 hS.1) Yo (.bool p8) (.slice E8 n8 k8) (.slice F8 m8 d8))⟩,fun h=>flX h⟩
 rintro W hS c11 ⟨p,A,l,c,B,k,d,X,hq⟩ v2 - v3 - v6 - v7 - v8 ⟨_,p8,E8,n8,k8,F8,m8,d8,rfl,-⟩;clear hS;refine gvN ?_;(repeat refine flA ?_);refine flN ?_;go_wp2_with fail;refine AP X (fun W2 hW=>by have d0:=hW 0 _ rfl;have d1:=hW 1 _ rfl;have d2:=hW 2 _ rfl;simp [results,Tryz.results72,go_sem,d0,d1,d2];try rfl) rfl ?_;exact ⟨_,rfl,hq⟩
theorem Nl.at_ {w:World} {v:Value} {xs:List Nat} {k x:Nat} (h:Nl w v xs) (hx:xs[k]?=some x):∃ g o c,v=.slice (some ⟨g,o,none⟩) xs.length c/\g<w.heap.size/\w.cell? ⟨g,o+k,none⟩=some (.int .u64 (x:Int)):=by
 obtain ⟨A,c,rfl,⟨-,h2⟩,-⟩:=h
 rcases h2 with h2 | ⟨b,o,rfl,h2⟩
 · rw [h2] at hx;simp at hx
 · exact ⟨b,o,c,rfl,World.block_lt_of_cell? w _ (h2 k x hx),h2 k x hx⟩
theorem LZ {w:World} {a c:Value} {xs ys:List Nat} (ha:Nl w a xs) (hc:Nl w c ys):
 Calls Tryz.prog 260 #[a,c] w fun e w'=>e=.returned (.bool (decide (xs=ys)))/\Yg w w':=by
 obtain ⟨A,cap,rfl,-,q1,q2,-⟩:=id ha;obtain ⟨B,cap2,rfl,-,q3,q4,-⟩:=id hc;obtain ⟨n,hn⟩:∃ n,xs.length=n:=⟨_,rfl⟩;obtain ⟨m,hm⟩:∃ m,ys.length=m:=⟨_,rfl⟩;rw [hn] at ha q1 ⊢;rw [hm] at hc q3 ⊢;have hbig:n<=9223372036854775807:=by unfold maxLen at q2;omega
 obtain ⟨D,hD⟩:∃ D,D=decide (xs=ys):=⟨_,rfl⟩;rw [<- hD];have HD:=Lib.hid hD;have HS:=Yh4 ha hc hn hm;clear ha hc hn hm q1 q2 q3 q4 hD;by_cases hnm:n=m
 · subst hnm;have e0:(((n:Nat):Int)==(n:Int))=true:=beq_self_eq_true _;go_enter Tryz.func260,Tryz.ntmps260;go_upto_region 3 with (fail)
   clear e0;go_wp2_with fail;go_loopw [13] (fun i wr=>∃ (k:Nat),i=.int .i64 (k:Int)/\k<=n/\Hid (xs.take k=ys.take k/\Yg w wr)) (fun i _=>n - (intOf i).toNat)
   case atStart=>exact ⟨0,rfl,Un _,by simp,Aj⟩
   case round=>
    obtain ⟨k,rfl,hk,H⟩:=hrel;by_cases hlt:k<n
    · skip;obtain ⟨x,hx⟩:∃ t,xs[k]?=some t:=⟨_,List.getElem?_eq_getElem (by rw [HS.p2];exact hlt)⟩;obtain ⟨y,hy⟩:∃ t,ys[k]?=some t:=⟨_,List.getElem?_eq_getElem (by rw [HS.q3];exact hlt)⟩;obtain ⟨g,o1,c1,e,hg,z1⟩:=HS.p0.at_ hx;rw [HS.p2] at e;injection e with e1 e2 e3
      subst e1;clear e2 e3;obtain ⟨g2,o2,c2,e,hg2,z2⟩:=HS.p1.at_ hy;rw [HS.q3] at e;injection e with e1 e2 e3
      subst e1;clear e2 e3;have HC:Hid (∀ W,Yg w W->W.cell? ⟨g,o1+k,none⟩=some (.int .u64 (x:Int))/\W.cell? ⟨g2,o2+k,none⟩=some (.int .u64 (y:Int))):=fun W b=>⟨(b.cell (p:=⟨g,_,none⟩) hg).trans z1,(b.cell (p:=⟨g2,_,none⟩) hg2).trans z2⟩;have HX:=Yh2 hx hy;have dk:(k:Int)<(n:Int):=Yo;clear hx hy hg hg2 z1 z2;by_cases hxy:x=y
      · skip;subst hxy;go_upto_region 6 with (fail)
        refine BA (fun W=>Yg w W/\W.cell? ⟨g,o1+k,none⟩=some (.int .u64 (x:Int))/\W.cell? ⟨g2,o2+k,none⟩=some (.int .u64 (x:Int))) (fun _ _=>True) (fun _ _=>False) 0 [⟨[],[(0,16),(1,17),(2,18),(3,19),(4,20),(5,21),(6,22),(7,23),(8,24)],[],[]⟩] [] [] ⟨[],[(0,16),(1,17),(2,18),(3,19),(4,20),(5,21),(6,22),(7,23),(8,24)],[],[]⟩ ⟨H.q1,HC.out _ H.q1⟩ (trivial) (fun _ _ h b=>⟨Yb h.1 b,HC.out _ (Yb h.1 b)⟩) (fun _ _ _ h _=>h) trivial ⟨?_,trivial⟩ trivial trivial ?_
        · rintro W hS;refine gvN ?_;(repeat refine flA ?_);refine flN (flN ?_);exact flL
        rintro W hS -;have hS:=hS flY;refine gvN ?_;(repeat refine flA ?_);refine flN (flN ?_);have HN:=Yh2 (IY H.p0 HX.p0 HX.q1) hS.1;clear hS H;go_wp2_with fail
        case roundEnd=>exact ⟨⟨k+1,by go_num,Yo,HN.out⟩,by simp [intOf];omega⟩
      have e1:((x:Int)==(y:Int))=false:=by rw [beq_eq_false_iff_ne];omega
      have e2:((x:Int) !=(y:Int))=true:=by rw [bne,e1];rfl
      have HXY:=Lib.hid hxy;clear hxy;go_upto_region 6 with (fail)
      refine BA (fun W=>Yg w W/\W.cell? ⟨g,o1+k,none⟩=some (.int .u64 (x:Int))/\W.cell? ⟨g2,o2+k,none⟩=some (.int .u64 (y:Int))) (fun _ _=>True) (fun _ _=>False) 0 [⟨[],[(0,16),(1,17),(2,18),(3,19),(4,20),(5,21),(6,22),(7,23),(8,24)],[],[]⟩] [] [] ⟨[],[(0,16),(1,17),(2,18),(3,19),(4,20),(5,21),(6,22),(7,23),(8,24)],[],[]⟩ ⟨H.q1,HC.out _ H.q1⟩ (trivial) (fun _ _ h b=>⟨Yb h.1 b,HC.out _ (Yb h.1 b)⟩) (fun _ _ _ h _=>h) trivial ⟨?_,trivial⟩ trivial trivial ?_
      · rintro W hS;refine gvN ?_;(repeat refine flA ?_);refine flN (flN ?_);exact flL
      rintro W hS -;have hS:=hS flY;refine gvN ?_;(repeat refine flA ?_);refine flN (flN ?_);have HN:=Lib.hid hS.1;clear hS H;go_wp2_with fail;go_ret;exact ⟨by rw [HD.out,decide_eq_false_iff_not.2 (LG HX.p0 HX.q1 HXY.out)];rfl,HN.out⟩
    have hkn:k=n:=Yo;have HE:Hid (D=true):=by rw [HD.out,decide_eq_true_eq];have h7:=H.p0;rwa [hkn,Ud (Nat.le_of_eq HS.p2),Ud (Nat.le_of_eq HS.q3)] at h7
    have HB:=Lib.hid H.q1;go_wp2_with fail;go_ret;exact ⟨by rw [HE.out];rfl,HB.out⟩
 have e0:(((n:Nat):Int)==(m:Int))=false:=by rw [beq_eq_false_iff_ne];omega
 have HE:Hid (D=false):=by rw [HD.out,decide_eq_false_iff_not];intro h;exact hnm (by rw [<- HS.p2,<- HS.q3,h])
 clear hnm;go_enter Tryz.func260,Tryz.ntmps260;go_wp2_with fail;go_ret;exact ⟨by rw [HE.out];rfl,Aj⟩
theorem Ik {w:World} {a u:Value} {f:Fx} (ha:Fv w a f) (hu:Fv w u f):
 Calls Tryz.prog 236 #[a,u] w fun e w'=>e=.returned (.bool true)/\Yg w w':=by
 obtain ⟨A,l,c,B,k,d,rfl⟩:=ha.parts;obtain ⟨A2,l2,c2,B2,k2,d2,rfl⟩:=hu.parts;have HA:=Yh2 ha.nl hu.nl;clear ha hu;go_enter Tryz.func236,Tryz.ntmps236;go_upto_region 1 with (fail)
 obtain ⟨hX,hY,hB⟩:=box2 w 36 36 [.bool f.b,.slice A l c,.slice B k d] [.bool f.b,.slice A2 l2 c2,.slice B2 k2 d2];have HX:=Yh3 hX hY hB;clear hX hY hB;generalize (w.alloc _).alloc _=W0 at HX ⊢;have e0:(f.b==f.b)=true:=beq_self_eq_true _;have a0:=Bl.ld HX.p0 0 rfl;have a1:=Bl.ld HX.p0 1 rfl;have a2:=Bl.ld HX.p0 2 rfl;have b0:=Bl.ld HX.p1 0 rfl;have b1:=Bl.ld HX.p1 1 rfl;have b2:=Bl.ld HX.p1 2 rfl;go_wp2_with fail;refine (LZ (HA.p0.1.keep HX.q2) (HA.p1.keep HX.q2)).mono ?_;rintro e w2 ⟨rfl,hb⟩;have H2:=Yh3 (HX.p0.keep hb) (HX.p1.keep hb) (Yb HX.q2 hb);clear hb HX a0 a1 a2 b0 b1 b2;rw [show decide (f.xs=f.xs)=true from decide_eq_true rfl];have a2:=Bl.ld H2.p0 2 rfl;have b2:=Bl.ld H2.p1 2 rfl;go_wp2_with fail;refine (LZ (HA.p0.2.keep H2.q2) (HA.q2.keep H2.q2)).mono ?_;rintro e w3 ⟨rfl,hb⟩;have H3:=Lib.hid (Yb H2.q2 hb);clear hb H2 a2 b2;rw [show decide (f.ds=f.ds)=true from decide_eq_true rfl];go_wp2_with fail;go_ret;exact ⟨rfl,H3.out⟩
theorem Ev {w:World} {a:Value} {f:Fx} {L:Nat} (ha:Fv w a f) (hf:f=fq f.q) (h0:0<L) (h1:L<=137438953472) (h2:f.xs.length<=L) (h3:f.ds.length<=L):
 Calls Tryz.prog 210 #[a] w fun e w'=>e=.returned (.bool true)/\Yg w w':=by
 obtain ⟨A,l,c,B,k,d,rfl⟩:=ha.parts;have HA:=Yh5 ha hf (ha.qv h2 h3) h0 h1;clear ha hf h0 h1 h2 h3;go_enter Tryz.func210,Tryz.ntmps210;go_upto_region 1 with (fail)
 obtain ⟨hX,hB⟩:=GO w 36 [.bool f.b,.slice A l c,.slice B k d];have HX:=Yh2 hX hB;clear hX hB;generalize w.alloc _=W0 at HX ⊢;go_upto_region 1 with (fail)
 refine BA (fun W=>Yg W0 W/\W.cell? ⟨w.heap.size,0,none⟩=some (.bool f.b)/\W.cell? ⟨w.heap.size,1,none⟩=some (.slice A l c)/\W.cell? ⟨w.heap.size,2,none⟩=some (.slice B k d)) (fun _ _=>True) (fun _ _=>False) 0 [⟨[],[(0,3),(1,4)],[],[(2,5,fun v W=>∃ p A l c B k d,v=.agg #[.bool p,.slice A l c,.slice B k d]/\Fv W (.agg #[.bool p,.slice A l c,.slice B k d]) f)]⟩,⟨[(2,5)],[(0,3)],[],[(3,6,fun v W=>v=.bool true)]⟩,⟨[(3,6)],[(4,2)],[],[]⟩] [] [] ⟨[(2,5),(3,6)],[(0,3),(1,4),(4,2)],[],[]⟩ ⟨Aj,Bl.ld (HX.p0.keep Aj) 0 rfl,Bl.ld (HX.p0.keep Aj) 1 rfl,Bl.ld (HX.p0.keep Aj) 2 rfl⟩ (trivial) (fun _ _ h b=>⟨(Yb h.1 b),Bl.ld (HX.p0.keep (Yb h.1 b)) 0 rfl,Bl.ld (HX.p0.keep (Yb h.1 b)) 1 rfl,Bl.ld (HX.p0.keep (Yb h.1 b)) 2 rfl⟩) (fun _ _ _ h _=>h) ⟨fun _ _ _ ⟨p,A,l,c,B,k,d,e,h⟩ b=>⟨p,A,l,c,B,k,d,e,h.keep b⟩,fun _ _ _ _ h=>h.elim,⟨fun _ _ _ h _=>h,fun _ _ _ _ h=>h.elim,trivial⟩⟩ ⟨?_,?_,?_,trivial⟩ trivial trivial ?_
 · rintro W hS;refine gvN ?_;(repeat refine flA ?_);refine flN (flN ?_);refine flK (fun K hK=>?_) flL;go_simp;go_at_call 112;refine (EI (HA.p2.keep (Yb HX.q1 hS.1)) HA.p3 HA.q4).mono ?_;rintro e W2 ⟨v,rfl,h⟩;obtain ⟨p,A,l_,c,B,k_,d,rfl⟩:=h.qo.parts;have hb:=h.below;have h:=h.fw.fv;rw [<- HA.p1] at h;go_wp2_with fail;exact hK.out _ _ ⟨⟨_,_,_,_,_,_,_,rfl,h⟩,hb⟩
 · rintro W hS v2 ⟨p2,A2,l2,c2,B2,k2,d2,rfl,h2⟩;refine gvN ?_;(repeat refine flA ?_);refine flN (flN ?_);refine flK (fun K hK=>?_) flL;go_simp;go_at_call 236;refine (Ik (HA.p0.keep (Yb HX.q1 hS.1)) h2).mono ?_;rintro e W2 ⟨rfl,hb⟩;go_wp2_with fail;exact hK.out _ _ ⟨rfl,hb⟩
 · rintro W hS v3 rfl;refine gvN ?_;(repeat refine flA ?_);refine flN (flN ?_);exact flL
 rintro W hS - v2 ⟨p2,A2,l2,c2,B2,k2,d2,rfl,h2⟩ v3 rfl;have hS:=hS flY;refine gvN ?_;(repeat refine flA ?_);refine flN (flN ?_);have HB:=Lib.hid (Yb HX.q1 hS.1);clear hS;go_wp2_with fail;go_ret;exact ⟨rfl,HB.out⟩
theorem OZ:ET (fq 0).q=0:=by decide+kernel
theorem Pf {w:World} {a:Value} {f:Fx} {L:Nat} (ha:Fv w a f) (hf:f=fq f.q) (h0:0<L) (h1:L<=137438953472) (h2:f.xs.length<=L) (h3:f.ds.length<=L):
 Calls Tryz.prog 209 #[.bool true,a] w fun e w'=>e=.returned (.bool true)/\Yg w w':=by
 obtain ⟨A,l,c,B,k,d,rfl⟩:=ha.parts;have HA:=Yh7 ha hf (ha.qv h2 h3) h0 h1 h2 h3;clear ha hf h0 h1 h2 h3;go_enter Tryz.func209,Tryz.ntmps209;go_upto_region 1 with (fail)
 obtain ⟨hX,hB⟩:=GO w 36 [.bool f.b,.slice A l c,.slice B k d];have HX:=Yh2 hX hB;clear hX hB;generalize w.alloc _=W0 at HX ⊢;have a0:=Bl.ld HX.p0 0 rfl;have a1:=Bl.ld HX.p0 1 rfl;have a2:=Bl.ld HX.p0 2 rfl;go_wp2_with fail;refine (Ev (HA.p0.keep HX.q1) HA.p1 HA.p3 HA.p4 HA.p5 HA.q6).mono ?_;rintro e w2 ⟨rfl,hb⟩;have H2:=Yh2 (HX.p0.keep hb) (Yb HX.q1 hb);clear hb HX a0 a1 a2;have H3:=Lib.hid H2.q1;go_wp2_with fail;go_ret;exact ⟨rfl,H3.out⟩
theorem OW {w:World} {a:Value} {f:Fx} {L:Nat} (ha:Fv w a f) (hf:f=fq 0) (h0:0<L) (h1:L<=137438953472) (h2:f.xs.length<=L) (h3:f.ds.length<=L):
 Calls Tryz.prog 209 #[.bool false,a] w fun e w'=>e=.returned (.bool true)/\Yg w w':=by
 obtain ⟨A,l,c,B,k,d,rfl⟩:=ha.parts;have HA:=Yh7 ha (show f=fq f.q by rw [hf];decide+kernel) (ha.qv h2 h3) h0 h1 h2 h3;have HZ:Hid (ET f.q=0):=by rw [hf];exact OZ
 clear ha hf h0 h1 h2 h3;go_enter Tryz.func209,Tryz.ntmps209;go_upto_region 1 with (fail)
 obtain ⟨hX,hB⟩:=GO w 36 [.bool f.b,.slice A l c,.slice B k d];have HX:=Yh2 hX hB;clear hX hB;generalize w.alloc _=W0 at HX ⊢;have a0:=Bl.ld HX.p0 0 rfl;have a1:=Bl.ld HX.p0 1 rfl;have a2:=Bl.ld HX.p0 2 rfl;go_wp2_with fail;refine (Ev (HA.p0.keep HX.q1) HA.p1 HA.p3 HA.p4 HA.p5 HA.q6).mono ?_;rintro e w2 ⟨rfl,hb⟩;have H2:=Yh2 (HX.p0.keep hb) (Yb HX.q1 hb);clear hb HX a0 a1 a2;have a0:=Bl.ld H2.p0 0 rfl;have a1:=Bl.ld H2.p0 1 rfl;have a2:=Bl.ld H2.p0 2 rfl;go_wp2_with fail;refine (DP (HA.p2.keep H2.q1) HA.p4).mono ?_;rintro e w3 ⟨rfl,hb⟩;rw [HZ.out];have H3:=Lib.hid (Yb H2.q1 hb);clear hb a0 a1 a2;go_wp2_with fail;go_ret;exact ⟨rfl,H3.out⟩
section
variable {T e:TypeId} {w w0:World} {g h B:Nat} {us vs:List Value} {x0 x1 x2 x3 x4 x5 x6:Value}
def CD (w:World) (g:Nat) (x0 x1 x2 x3 x4 x5 x6:Value):World:=((((((w.setCell ⟨g,0,none⟩ x0).setCell ⟨g,1,none⟩ x1).setCell ⟨g,2,none⟩ x2).setCell ⟨g,3,none⟩ x3).setCell ⟨g,4,none⟩ x4).setCell ⟨g,5,none⟩ x5).setCell ⟨g,6,none⟩ x6
theorem Bl.set7 (X:Bl w T g us) (hl:us.length=7) (x0 x1 x2 x3 x4 x5 x6:Value):Bl (CD w g x0 x1 x2 x3 x4 x5 x6) T g [x0,x1,x2,x3,x4,x5,x6]:=by
 have:=((((((X.set 0 x0).set 1 x1).set 2 x2).set 3 x3).set 4 x4).set 5 x5).set 6 x6
 match us,hl with
 | [_,_,_,_,_,_,_],_=>exact this
theorem Bl.keep7 (X:Bl w T g us) (hne:T≠e) (x0 x1 x2 x3 x4 x5 x6:Value):Ak e w (CD w g x0 x1 x2 x3 x4 x5 x6):=(((((((X.keepT1 hne 0 x0).trans ((X.set 0 x0).keepT1 hne 1 x1)).trans (((X.set 0 x0).set 1 x1).keepT1 hne 2 x2)).trans ((((X.set 0 x0).set 1 x1).set 2 x2).keepT1 hne 3 x3)).trans (((((X.set 0 x0).set 1 x1).set 2 x2).set 3 x3).keepT1 hne 4 x4)).trans ((((((X.set 0 x0).set 1 x1).set 2 x2).set 3 x3).set 4 x4).keepT1 hne 5 x5)).trans (((((((X.set 0 x0).set 1 x1).set 2 x2).set 3 x3).set 4 x4).set 5 x5).keepT1 hne 6 x6))
theorem Bl.other7 (X:Bl w T h vs) (hp:g≠h) (x0 x1 x2 x3 x4 x5 x6:Value):Bl (CD w g x0 x1 x2 x3 x4 x5 x6) T h vs:=(((((((X.other (p:=⟨g,0,none⟩) hp x0).other (p:=⟨g,1,none⟩) hp x1).other (p:=⟨g,2,none⟩) hp x2).other (p:=⟨g,3,none⟩) hp x3).other (p:=⟨g,4,none⟩) hp x4).other (p:=⟨g,5,none⟩) hp x5).other (p:=⟨g,6,none⟩) hp x6)
theorem AJ (hb:Below B w0 w) (hg:B<=g) (x0 x1 x2 x3 x4 x5 x6:Value):Below B w0 (CD w g x0 x1 x2 x3 x4 x5 x6):=(((((((hb.setCell (p:=⟨g,0,none⟩) hg x0).setCell (p:=⟨g,1,none⟩) hg x1).setCell (p:=⟨g,2,none⟩) hg x2).setCell (p:=⟨g,3,none⟩) hg x3).setCell (p:=⟨g,4,none⟩) hg x4).setCell (p:=⟨g,5,none⟩) hg x5).setCell (p:=⟨g,6,none⟩) hg x6)
end
section
variable {w w' w0 w1:World} {v:Value} {fs:List Fx} {cs:List (List (Int × Fx))} {l:LPx}
theorem Ro.keepT (h:Ro w0 w v fs) (k:Ak 36 w w') (k2:Ak 146 w w') (hb:Below w0.heap.size w0 w'):Ro w0 w' v fs:=by
 obtain ⟨xs,h1,h2,h3⟩:=h;exact ⟨xs,h1.keepT k,h2.imp fun x f hf=>hf.keepT k2 hb,hb⟩
theorem Gw.keepT (h:Gw w0 w v cs) (k:Ak 54 w w') (k1:Ak 63 w w') (k2:Ak 146 w w') (hb:Below w0.heap.size w0 w'):Gw w0 w' v cs:=by
 obtain ⟨xs,h1,h2,h3⟩:=h;exact ⟨xs,h1.keepT k,h2.imp fun x c hc=>hc.keepT k1 k2 hb,hb⟩
theorem Ew.keepT {bs:List Bool} (h:Ew w0 w v bs) (k:Ak 4 w w'):Ew w0 w' v bs:=Rr.keepT h k
theorem Gw.from (h:Gw w1 w v cs) (hb:Below w0.heap.size w0 w1):Gw w0 w v cs:=by
 obtain ⟨xs,h1,h2,h3⟩:=h;exact ⟨xs,h1.mono hb.size,h2.imp fun x c hc=>hc.from hb,Yb hb h3⟩
theorem Ew.from {bs:List Bool} (h:Ew w1 w v bs) (hb:Below w0.heap.size w0 w1):Ew w0 w v bs:=Rr.mono h hb.size
def LPw (w0 w:World) (v:Value) (l:LPx):Prop:=∃ x:Lm,v=x.agg/\x.n=l.n/\(Gw w0 w x.a.v l.cols/\Ew w0 w x.b.v l.hasLo/\Ew w0 w x.c.v l.hasHi/\Ro w0 w x.d.v l.lo/\Ro w0 w x.e.v l.hi/\Ro w0 w x.f.v l.cost)/\Yg w0 w
theorem LPw.lpv (h:LPw w0 w v l):LPv w v l:=by
 obtain ⟨x,e,h1,⟨h2,h3,h4,h5,h6,h7⟩,-⟩:=h;exact ⟨x,e,h1,h2.gx,h3.ex,h4.ex,h5.rx,h6.rx,h7.rx⟩
theorem LPw.below (h:LPw w0 w v l):Below w0.heap.size w0 w:=by obtain ⟨x,e,h1,h2,h3⟩:=h;exact h3
theorem LPw.keep (h:LPw w0 w v l) (hb:Below w.heap.size w w'):LPw w0 w' v l:=by
 obtain ⟨x,e,h1,⟨h2,h3,h4,h5,h6,h7⟩,h8⟩:=h;exact ⟨x,e,h1,⟨h2.keep hb,h3.keep hb,h4.keep hb,h5.keep hb,h6.keep hb,h7.keep hb⟩,Yb h8 hb⟩
theorem LPw.from (h:LPw w1 w v l) (hb:Below w0.heap.size w0 w1):LPw w0 w v l:=by
 obtain ⟨x,e,h1,⟨h2,h3,h4,h5,h6,h7⟩,h8⟩:=h;exact ⟨x,e,h1,⟨h2.from hb,h3.from hb,h4.from hb,h5.from hb,h6.from hb,h7.from hb⟩,Yb hb h8⟩
end
def Kb (n m:Int) (k:Nat) (c:List (Int × Fx)) (bL bH:Bool) (fL fH fC:Fx):Prop:=
 fL=fq fL.q/\fH=fq fH.q/\fC=fq fC.q/\(bL=true∨fL=fq 0)/\(bH=true∨fH=fq 0)/\c=fqT (mkV (qT c))/\((k:Int)<n->∀ t,c.getLast?=some t->t.1<m - n)/\(n<=(k:Int)->c=[((k:Int) - n,fq (-1))]/\fC=fq 0)
def Mq (l:LPx) (k:Nat):Prop:=∀ c bL bH fL fH fC,l.cols[k]?=some c->l.hasLo[k]?=some bL->l.hasHi[k]?=some bH->l.lo[k]?=some fL->l.hi[k]?=some fH->l.cost[k]?=some fC->Kb l.n l.cols.length k c bL bH fL fH fC
def AA (l:LPx):Prop:=(0<=l.n/\l.n<=l.cols.length/\l.lo.length=l.cols.length/\l.hi.length=l.cols.length/\l.hasLo.length=l.cols.length/\l.hasHi.length=l.cols.length/\l.cost.length=l.cols.length)/\∀ k,k<l.cols.length->Mq l k
theorem GD {α:Type} {l:List α} {t:α} {m:Nat} (hm:l.length=m+1) (h:l[m]?=some t):l.getLast?=some t:=by
 rw [List.getLast?_eq_getElem?,hm];exact h
theorem PG {l:LPx} {m:Nat} (hm:l.cols.length=m) (h:∀ j,j<m->Mq l j):∀ k,k<l.cols.length->Mq l k:=fun k hk=>h k Yo
end
end Go.Proofs.YtlblnmmfphiobaaGreat
