import Derived.Test.YtaajajngnmaggaaGreatENA9
set_option maxRecDepth 100000
set_option maxHeartbeats 8000000
set_option linter.unusedVariables false
set_option linter.unusedSimpArgs false
namespace Go.Proofs.YtaajajngnmaggaaGreat
section
section
open Go Go.RowKit Go.Proofs Pl
def Qz (w:World) (L:Nat) (v:Value) (z:Int) (m:Nat):Prop:=∃ b A l c B k d,v=.agg #[.bool b,.slice A l c,.slice B k d]/\Zn w L (.agg #[.bool b,.slice A l c]) z/\Nm w L (.slice B k d) m
def Qv (w:World) (L:Nat) (v:Value) (q:Rat):Prop:=∃ z m,Qz w L v z m/\mkRat z (den m)=q
def Sz (L:Nat) (q:Rat):Prop:=q.num.natAbs<WB ^ L/\q.den<WB ^ L
def Qr (w w':World) (v:Value) (q:Rat):Prop:=Qs w w' v q.num q.den
section
variable {w w' W:World} {L M:Nat} {v:Value} {z:Int} {m:Nat} {q r:Rat} {b:Bool} {xs ds:List Nat}
theorem Qz.keep (h:Qz w L v z m) (hb:Below w.heap.size w w'):Qz w' L v z m:=by
 obtain ⟨b,A,l,c,B,k,d,e,h1,h2⟩:=h
 exact ⟨b,A,l,c,B,k,d,e,h1.keep hb,h2.keep hb⟩
theorem Qv.keep (h:Qv w L v q) (hb:Below w.heap.size w w'):Qv w' L v q:=by
 obtain ⟨z,m,h1,h2⟩:=h
 exact ⟨z,m,h1.keep hb,h2⟩
theorem Qv.mono (h:Qv w L v q) (hL:L<=M):Qv w M v q:=by
 obtain ⟨z,m,⟨b,A,l,c,B,k,d,e,h1,h2⟩,h3⟩:=h
 exact ⟨z,m,⟨b,A,l,c,B,k,d,e,h1.mono hL,h2.mono hL⟩,h3⟩
theorem Nl.shape {s:Value} (h:Nl w s xs):∃ A c,s=.slice A xs.length c/\Nl w (.slice A xs.length c) xs:=by
 obtain ⟨A,c,e,h⟩:=h
 exact ⟨A,c,e,A,c,rfl,h⟩
theorem Ql.qz (h:Ql w v b xs ds) (hx:xs.length<=L) (hd:ds.length<=L):Qz w L v (sg b (val WB xs)) (val WB ds):=by
 obtain ⟨s,d,rfl,h1,h2⟩:=h
 obtain ⟨A,c,rfl,h1⟩:=h1.shape
 obtain ⟨B,k,rfl,h2⟩:=h2.shape
 exact ⟨b,A,_,c,B,_,k,rfl,⟨b,_,_,rfl,⟨xs,h1,hx,rfl⟩,rfl⟩,⟨ds,h2,hd,rfl⟩⟩
theorem Ql.qv (h:Ql w v b xs ds) (hx:xs.length<=L) (hd:ds.length<=L):Qv w L v (rv b xs ds):=⟨_,_,h.qz hx hd,rfl⟩
theorem Qv.ql (h:Qv w L v q):∃ b xs ds,Ql w v b xs ds/\xs.length<=L/\ds.length<=L/\rv b xs ds=q:=by
 obtain ⟨z,m,⟨b,A,l,c,B,k,d,rfl,⟨b',s',n,e,⟨xs,h1,h2,h3⟩,h4⟩,⟨ds,h5,h6,h7⟩⟩,rfl⟩:=h
 injection e with e;injection e with e
 simp only [List.cons.injEq,Value.bool.injEq,and_true] at e
 obtain ⟨rfl,rfl⟩:=e
 refine ⟨b,xs,ds,⟨_,_,rfl,h1,h5⟩,h2,h6,?_⟩
 unfold rv
 rw [h3,h7,h4]
theorem den_den (q:Rat):den q.den=q.den:=by unfold den;rw [if_neg q.den_nz]
theorem Qr.below (h:Qr w w' v q):Below w.heap.size w w':=Qs.below h
theorem Qr.qo (h:Qr w w' v q):Qo w' v q.num q.den:=Qs.qo h
theorem Qr.keep (h:Qr w w' v q) (hb:Below w'.heap.size w' W):Qr w W v q:=Qs.keep h hb
theorem Qr.from (h:Qr w' W v q) (hb:Below w.heap.size w w'):Qr w W v q:=Qs.from h hb
theorem qo_qv (h:Qo w v q.num q.den) (hs:Sz L q):Qv w L v q:=by
 have h1:=h.ql.qv (L:=L) (dg_length_le WB_one hs.1) (dg_length_le WB_one hs.2)
 have e:rv (decide (q.num<0)) (dg WB q.num.natAbs) (dg WB q.den)=q:=by
  unfold rv
  rw [val_dg WB_one,val_dg WB_one,sg_form,den_den,Rat.mkRat_self]
 rwa [e] at h1
theorem Qr.qv (h:Qr w w' v q) (hs:Sz L q):Qv w' L v q:=qo_qv h.qo hs
theorem qs_of (h:Qs w w' v (qn z m) (qd z m)) (h0:m≠0):Qr w w' v (mkRat z m):=by
 unfold Qr;rw [mk_num z h0,mk_den z h0];exact h
theorem Sz.mono (h:Sz L q) (hL:L<=M):Sz M q:=
 ⟨Nat.lt_of_lt_of_le h.1 (Nat.pow_le_pow_right WB_pos hL),Nat.lt_of_lt_of_le h.2 (Nat.pow_le_pow_right WB_pos hL)⟩
theorem sz_mk (hz:z.natAbs<WB ^ L) (hm:m<WB ^ L) (h0:m≠0):Sz L (mkRat z m):=by
 refine ⟨?_,?_⟩
 · rw [mk_num z h0,qn_abs];exact Nat.lt_of_le_of_lt (Nat.div_le_self _ _) hz
 · rw [mk_den z h0];exact Nat.lt_of_le_of_lt (Nat.div_le_self _ _) hm
theorem Qv.sz (h:Qv w L v q) (hL:0<L):Sz L q:=by
 obtain ⟨z,m,⟨b,A,l,c,B,k,d,e,h1,h2⟩,rfl⟩:=h
 exact sz_mk h1.lt (den_lt h2.lt hL) (den_ne m)
theorem Sz.add (h:Sz L q) (h':Sz M r):Sz (L+M+1) (q+r):=by
 rw [Rat.add_def']
 have e2:∀ {a b:Nat},a<WB ^ L->b<WB ^ M->a*b<WB ^ (L+M):=fun ha hb=>by rw [Nat.pow_add];exact Nat.mul_lt_mul'' ha hb
 have hp:WB ^ (L+M)+WB ^ (L+M)<=WB ^ (L+M+1):=by
  rw [Nat.pow_succ,<- Nat.mul_two];exact Nat.mul_le_mul_left _ (by rw [WB_eq];decide)
 refine sz_mk ?_ (Nat.lt_of_lt_of_le (e2 h.2 h'.2) Yo) (Nat.mul_ne_zero q.den_nz r.den_nz)
 have a1:(q.num*(r.den:Int)).natAbs<WB ^ (L+M):=by rw [Int.natAbs_mul];exact e2 h.1 h'.2
 have a2:(r.num*(q.den:Int)).natAbs<WB ^ (L+M):=by rw [Int.natAbs_mul,Nat.mul_comm];exact e2 h.2 h'.1
 omega
theorem Sz.mul (h:Sz L q) (h':Sz M r):Sz (L+M) (q*r):=by
 rw [Rat.mul_def']
 refine sz_mk ?_ ?_ (Nat.mul_ne_zero q.den_nz r.den_nz)
 · rw [Int.natAbs_mul,Nat.pow_add];exact Nat.mul_lt_mul'' h.1 h'.1
 · rw [Nat.pow_add];exact Nat.mul_lt_mul'' h.2 h'.2
theorem sz_zero:Sz 1 0:=⟨by rw [WB_eq];decide,by rw [WB_eq];decide⟩
theorem Qr.parts (h:Qr w w' v q):∃ p A l c B k d,v=.agg #[.bool p,.slice A l c,.slice B k d]:=h.qo.parts
theorem Qv.parts (h:Qv w L v q):∃ p A l c B k d,v=.agg #[.bool p,.slice A l c,.slice B k d]:=by
 obtain ⟨z,m,⟨b,A,l,c,B,k,d,e,-⟩,-⟩:=h
 exact ⟨b,A,l,c,B,k,d,e⟩
end
def sgnQ (q:Rat):Int:=signZ q.num
theorem sgn_mk (z:Int) {n:Nat} (h:n≠0):sgnQ (mkRat z n)=signZ z:=by
 have hg:0<Nat.gcd z.natAbs n:=Nat.gcd_pos_of_pos_right _ (Nat.pos_of_ne_zero h)
 have h0:z≠0->0<z.natAbs / Nat.gcd z.natAbs n:=fun hz=>Nat.div_pos (Nat.le_of_dvd (Int.natAbs_pos.2 hz) (Nat.gcd_dvd_left _ _)) hg
 unfold sgnQ
 rw [mk_num z h]
 unfold qn signZ sg
 by_cases hz:z=0
 · subst hz;simp
 · have:=h0 hz
   by_cases hn:z<0
   · simp [hn,hz];omega
   · simp [hn,hz];omega
theorem sgn_zero (q:Rat):sgnQ q=0↔q=0:=by
 unfold sgnQ signZ
 rw [<- Rat.num_eq_zero]
 by_cases h:q.num=0
 · simp [h]
 · by_cases h2:q.num<0<;>simp [h,h2]
theorem sign_v {w:World} {L:Nat} {a:Value} {q:Rat} (ha:Qv w L a q) (hL:L<=137438953472):
 Calls Tryz.prog 54 #[a] w fun e w'=>e=.returned (.int .i64 (sgnQ q))/\Yg w w':=by
 obtain ⟨z,m,⟨b,A,l,c,B,k,d,rfl,hz,hm⟩,rfl⟩:=ha
 rw [sgn_mk z (den_ne m)]
 have HL:=Lib.hid hL
 have S0:=Yh2 hz (Below.refl w.heap.size w)
 clear hz hm hL
 go_enter Tryz.func54,Tryz.ntmps54
 go_upto_region 1 with (fail)
 have hX:=B3.new 36 w (.bool b) (.slice A l c) (.slice B k d)
 have S1:=Yh3 (S0.p0.keep ((Ya w (.cells #[.bool b,.slice A l c,.slice B k d] 36)))) hX (Yb S0.q1 ((Ya w (.cells #[.bool b,.slice A l c,.slice B k d] 36))))
 clear hX S0
 generalize w.alloc _=W0 at S1 ⊢
 obtain ⟨xa,xb,xc,-,-,-⟩:=S1.p1.facts
 go_wp2_with fail
 refine (sign_z S1.p0 (by have:=HL.out;omega)).mono ?_;rintro e w2 ⟨rfl,hb⟩
 have S2:=Yh3 (S1.p0.keep hb) (S1.p1.keep hb) (Yb S1.q2 hb)
 clear hb xa xb xc S1
 go_wp2_with fail
 go_ret
 exact ⟨rfl,S2.q2⟩
theorem cell_st {W:World} {b o:Nat} {v x y:Value} (g:Nat) (h:W.cell? ⟨b,o,none⟩=some v) (hne:b≠g):((W.setCell ⟨g,0,none⟩ x).setCell ⟨g,1,none⟩ y).cell? ⟨b,o,none⟩=some v:=by
 have e:((W.setCell ⟨g,0,none⟩ x).setCell ⟨g,1,none⟩ y).heap[b]?=W.heap[b]?:=(Below.heap_setCell _ _ _ _ (by exact hne)).trans (Below.heap_setCell _ _ _ _ (by exact hne))
 exact (World.cell?_of_block (w:=W) (a:=⟨b,o,none⟩) e).trans h
theorem over_q {w:World} {L M:Nat} {a u:Value} {z:Int} {m k:Nat} (ha:Qz w L a z m) (hu:Nm w M u k) (h1:L<=68719476736) (h2:M<=68719476736):
 Calls Tryz.prog 113 #[a,u] w fun e w'=>∃ v,e=.returned v/\Zs w w' v (z*k):=by
 obtain ⟨b,A,l,c,B,kk,d,rfl,⟨b',s',n,e,hs,rfl⟩,hm⟩:=ha
 injection e with e;injection e with e
 simp only [List.cons.injEq,Value.bool.injEq,and_true] at e
 obtain ⟨rfl,rfl⟩:=e
 have ez:sg b n*(k:Int)=sg b (n*k):=by
  have:=sg_mul b false n k
  rw [show sg false k=(k:Int) from rfl] at this
  rw [this];cases b<;>rfl
 rw [ez]
 have HL:=Yh3 h1 h2 (Nat.lt_of_lt_of_le (Nat.mul_lt_mul'' hs.lt hu.lt) (Nat.le_of_eq (Nat.pow_add WB L M).symm))
 have S0:=Yh3 hs hu (Below.refl w.heap.size w)
 clear hs hu hm h1 h2 ez
 go_enter Tryz.func113,Tryz.ntmps113
 go_upto_region 1 with (fail)
 have hb:=Yb (Ya w (.cells #[.bool b,.slice A l c,.slice B kk d] 36)) (Ya _ (.cells #[.bool false,.slice none 0 0] 34))
 have hX:=(B3.new 36 w (.bool b) (.slice A l c) (.slice B kk d)).alloc (.cells #[.bool false,.slice none 0 0] 34)
 have hR:=Bx.new1 34 w (.cells #[.bool b,.slice A l c,.slice B kk d] 36) (.bool false) (.slice none 0 0)
 have S1:=Yh5 (S0.p0.keep hb) (S0.p1.keep hb) hX hR (Yb S0.q2 hb)
 clear hb hX hR S0
 generalize (w.alloc _).alloc _=W0 at S1 ⊢
 go_upto_region 1 with (fail)
 have S2:=Yh5 (S1.p0.keep (below_dr _ 1)) (S1.p1.keep (below_dr _ 1)) (S1.p2.keep (below_dr _ 1)) (S1.p3.keep (below_dr _ 1)) (Yb S1.q4 (below_dr _ 1))
 refine wp_region_held_drew (S:=fun W=>Ye3 W w.heap.size (.bool b) (.slice A l c) (.slice B kk d)) (by kernel_rfl) ⟨S2.p2.facts.1,S2.p2.facts.2.1,S2.p2.facts.2.2.1⟩ (fun Hh=>?_)
 refine rgRun 7 [0,1,2,3,4,5,6] Hh fun K hK=>?_
 repeat refine rgA ?_
 refine hK _ _ ?_;clear hK K
 refine rgO 7 fun K hK=>?_
 go_simp
 go_at_call 120;refine (mul_nm S2.p0 S2.p1 (by have:=HL.out;omega) (by have:=HL.out;omega)).mono ?_;rintro e w3 ⟨v,rfl,h⟩
 have S3:=Yh6 (S2.p0.keep h.2) (S2.p1.keep h.2) (S2.p2.keep h.2) (S2.p3.keep h.2) (h.nm HL.q2) (Yb S2.q4 h.2)
 clear h Hh
 go_wp2_with fail
 refine rgK hK ⟨S3.p2.facts.1,S3.p2.facts.2.1,S3.p2.facts.2.2.1⟩ fun Hh=>?_;clear hK K
 refine rgO 8 fun K hK=>?_
 go_simp
 go_at_call 159;refine (make_z b S3.p4 (by have:=HL.out;omega)).mono ?_;rintro e w4 ⟨v,rfl,h⟩
 obtain ⟨pq,Aq,lq,cq,rfl,-⟩:=h.parts
 have S4:=Yh7 (S3.p0.keep h.below) (S3.p1.keep h.below) (S3.p2.keep h.below) (S3.p3.keep h.below) (S3.p4.keep h.below) (h.from S3.q5) (Yb S3.q5 h.below)
 clear h Hh
 go_wp2_with fail
 refine rgK hK ⟨S4.p2.facts.1,S4.p2.facts.2.1,S4.p2.facts.2.2.1⟩ fun Hh=>?_;clear hK K
 obtain ⟨f0,f1,f2,f3⟩:=S4.p3.facts
 refine rgO 9 fun K hK=>?_
 go_simp;clear f0 f1 f2 f3
 refine rgK hK ⟨cell_st _ S4.p2.facts.1 Yo,cell_st _ S4.p2.facts.2.1 Yo,cell_st _ S4.p2.facts.2.2.1 Yo⟩ fun Hh=>?_;clear hK K
 refine Yw ?_
 clear Hh
 go_wp2_with fail
 refine ret_bx S4.p3 (fun W d0 d1=>by simp [results,Tryz.results113,go_sem,d0,d1]) rfl ?_
 exact ⟨_,rfl,S4.p5.put int_word S4.p3 Yo _ _⟩
theorem b3_three (T:TypeId) (w:World) (a b c d e f x y z:Value):B3 T (((w.alloc (.cells #[a,b,c] T)).alloc (.cells #[d,e,f] T)).alloc (.cells #[x,y,z] T)) w.heap.size a b c/\
 B3 T (((w.alloc (.cells #[a,b,c] T)).alloc (.cells #[d,e,f] T)).alloc (.cells #[x,y,z] T)) (w.heap.size+1) d e f/\B3 T (((w.alloc (.cells #[a,b,c] T)).alloc (.cells #[d,e,f] T)).alloc (.cells #[x,y,z] T)) (w.heap.size+1+1) x y z/\
 Yg w (((w.alloc (.cells #[a,b,c] T)).alloc (.cells #[d,e,f] T)).alloc (.cells #[x,y,z] T)):=
 ⟨((B3.new T w a b c).alloc _).alloc _,(B3.new1 T w _ d e f).alloc _,B3.new2 T w _ _ x y z,by go_grown⟩
theorem Nm.form {w:World} {L n:Nat} {v:Value} (h:Nm w L v n):∃ A l c,v=.slice A l c:=by
 obtain ⟨xs,⟨A,c,e,-⟩,-⟩:=h
 exact ⟨A,_,c,e⟩
theorem Qz.mk {w:World} {L:Nat} {b:Bool} {A B:Option Addr} {l c k d:Nat} {z:Int} {m:Nat} (hz:Zn w L (.agg #[.bool b,.slice A l c]) z) (hm:Nm w L (.slice B k d) m):Qz w L (.agg #[.bool b,.slice A l c,.slice B k d]) z m:=
 ⟨b,A,l,c,B,k,d,rfl,hz,hm⟩
theorem add_v {w:World} {L M:Nat} {a u:Value} {q r:Rat} (ha:Qv w L a q) (hu:Qv w M u r) (h0:0<L) (h0':0<M) (h1:L<=17179869184) (h2:M<=17179869184):
 Calls Tryz.prog 56 #[a,u] w fun e w'=>∃ v,e=.returned v/\Qr w w' v (q+r):=by
 obtain ⟨z,m,⟨b,A,l,c,B,k,d,rfl,hz,hm⟩,rfl⟩:=ha
 obtain ⟨z2,m2,⟨b2,A2,l2,c2,B2,k2,d2,rfl,hz2,hm2⟩,rfl⟩:=hu
 obtain ⟨N,eN⟩:∃ N,den m=N:=⟨_,rfl⟩
 obtain ⟨N2,eN2⟩:∃ N,den m2=N:=⟨_,rfl⟩
 have hN:N≠0:=by rw [<- eN];exact den_ne m
 have hN2:N2≠0:=by rw [<- eN2];exact den_ne m2
 have hNl:N<WB ^ L:=by rw [<- eN];exact den_lt hm.lt h0
 have hNl2:N2<WB ^ M:=by rw [<- eN2];exact den_lt hm2.lt h0'
 rw [eN,eN2]
 rw [Rat.mkRat_add_mkRat _ _ hN hN2]
 have e2:∀ {a b:Nat},a<WB ^ L->b<WB ^ M->a*b<WB ^ (L+M):=fun ha hb=>by rw [Nat.pow_add];exact Nat.mul_lt_mul'' ha hb
 have b1:(z*(N2:Int)).natAbs<WB ^ (L+M):=by rw [Int.natAbs_mul];exact e2 hz.lt hNl2
 have b2:(z2*(N:Int)).natAbs<WB ^ (L+M):=by rw [Int.natAbs_mul,Nat.mul_comm];exact e2 hNl hz2.lt
 have hp:WB ^ (L+M)+WB ^ (L+M)<=WB ^ (L+M+1):=by rw [Nat.pow_succ,<- Nat.mul_two];exact Nat.mul_le_mul_left _ (by rw [WB_eq];decide)
 have b3:(z*(N2:Int)+z2*(N:Int)).natAbs<WB ^ (L+M+1):=Yo
 have HF0:=Yh5 b1 b2 b3 (e2 hNl hNl2) (Nat.mul_ne_zero hN hN2)
 have HE:=Yh6 h0 h0' h1 h2 eN eN2
 have HR:=Lib.hid (fun (W:World) (v:Value) (h:Qs w W v (qn (z*N2+z2*N) (N*N2)) (qd (z*N2+z2*N) (N*N2)))=>qs_of h (Nat.mul_ne_zero hN hN2))
 have S0:=Yh5 hz hm hz2 hm2 (Below.refl w.heap.size w)
 clear hz hm hz2 hm2 h0 h0' h1 h2 hN hN2 hNl hNl2 eN eN2 e2 b1 b2 b3 hp
 go_enter Tryz.func56,Tryz.ntmps56
 go_upto_region 1 with (fail)
 obtain ⟨hX,hY,hR,hb⟩:=b3_three 36 w (.bool b) (.slice A l c) (.slice B k d) (.bool b2) (.slice A2 l2 c2) (.slice B2 k2 d2) (.bool false) (.slice none 0 0) (.slice none 0 0)
 have S1:=Yh8 (S0.p0.keep hb) (S0.p1.keep hb) (S0.p2.keep hb) (S0.p3.keep hb) hX hY hR (Yb S0.q4 hb)
 clear hb hX hY hR S0
 generalize ((w.alloc _).alloc _).alloc _=W0 at S1 ⊢
 go_upto_region 1 with (fail)
 have S2:=Yh8 (S1.p0.keep (below_dr _ 1)) (S1.p1.keep (below_dr _ 1)) (S1.p2.keep (below_dr _ 1)) (S1.p3.keep (below_dr _ 1)) (S1.p4.keep (below_dr _ 1)) (S1.p5.keep (below_dr _ 1)) (S1.p6.keep (below_dr _ 1)) (Yb S1.q7 (below_dr _ 1))
 refine wp_region_held_drew (S:=fun W=>Yc3 W w.heap.size (.bool b) (.slice A l c) (.slice B k d) (Ye3 W (w.heap.size+1) (.bool b2) (.slice A2 l2 c2) (.slice B2 k2 d2))) (by kernel_rfl) ⟨S2.p4.facts.1,S2.p4.facts.2.1,S2.p4.facts.2.2.1,S2.p5.facts.1,S2.p5.facts.2.1,S2.p5.facts.2.2.1⟩ (fun Hh=>?_)
 refine rgRun 6 [0,1,4,5,9,11] Hh fun K hK=>?_
 repeat refine rgA ?_
 refine hK _ _ ?_;clear hK K
 refine rgO 2 fun K hK=>?_
 go_simp
 go_at_call 114;refine (under_q S2.p3 HE.p1 (by have:=HE.out;omega)).mono ?_;rintro e w3 ⟨v,rfl,h,hb⟩
 obtain ⟨Aa,la,ca,rfl⟩:=h.form
 rw [HE.q5] at h
 have S3:=Yh9 (S2.p0.keep hb) (S2.p1.keep hb) (S2.p2.keep hb) (S2.p3.keep hb) (S2.p4.keep hb) (S2.p5.keep hb) (S2.p6.keep hb) h (Yb S2.q7 hb)
 clear h hb Hh
 go_wp2_with fail
 refine rgK hK ⟨S3.p4.facts.1,S3.p4.facts.2.1,S3.p4.facts.2.2.1,S3.p5.facts.1,S3.p5.facts.2.1,S3.p5.facts.2.2.1⟩ fun Hh=>?_;clear hK K
 refine rgO 3 fun K hK=>?_
 go_simp
 go_at_call 113;refine (over_q (Qz.mk S3.p0 S3.p1) S3.p7 (by have:=HE.out;omega) (by have:=HE.out;omega)).mono ?_;rintro e w4 ⟨v,rfl,h⟩
 obtain ⟨pb,Ab,lb,cb,rfl,-⟩:=h.parts
 have S4:=Yh10 (S3.p0.keep h.below) (S3.p1.keep h.below) (S3.p2.keep h.below) (S3.p3.keep h.below) (S3.p4.keep h.below) (S3.p5.keep h.below) (S3.p6.keep h.below) (S3.p7.keep h.below) (h.zn HF0.p0) (Yb S3.q8 h.below)
 clear h Hh
 go_wp2_with fail
 refine rgK hK ⟨S4.p4.facts.1,S4.p4.facts.2.1,S4.p4.facts.2.2.1,S4.p5.facts.1,S4.p5.facts.2.1,S4.p5.facts.2.2.1⟩ fun Hh=>?_;clear hK K
 refine rgO 6 fun K hK=>?_
 go_simp
 go_at_call 114;refine (under_q S4.p1 HE.p0 (by have:=HE.out;omega)).mono ?_;rintro e w5 ⟨v,rfl,h,hb⟩
 obtain ⟨Ac,lc,cc,rfl⟩:=h.form
 rw [HE.p4] at h
 have S5:=Yh11 (S4.p0.keep hb) (S4.p1.keep hb) (S4.p2.keep hb) (S4.p3.keep hb) (S4.p4.keep hb) (S4.p5.keep hb) (S4.p6.keep hb) (S4.p7.keep hb) (S4.p8.keep hb) h (Yb S4.q9 hb)
 clear h hb Hh
 go_wp2_with fail
 refine rgK hK ⟨S5.p4.facts.1,S5.p4.facts.2.1,S5.p4.facts.2.2.1,S5.p5.facts.1,S5.p5.facts.2.1,S5.p5.facts.2.2.1⟩ fun Hh=>?_;clear hK K
 refine rgO 7 fun K hK=>?_
 go_simp
 go_at_call 113;refine (over_q (Qz.mk S5.p2 S5.p3) S5.p9 (by have:=HE.out;omega) (by have:=HE.out;omega)).mono ?_;rintro e w6 ⟨v,rfl,h⟩
 obtain ⟨pd,Ad,ld,cd,rfl,-⟩:=h.parts
 have S6:=Yh12 (S5.p0.keep h.below) (S5.p1.keep h.below) (S5.p2.keep h.below) (S5.p3.keep h.below) (S5.p4.keep h.below) (S5.p5.keep h.below) (S5.p6.keep h.below) (S5.p7.keep h.below) (S5.p8.keep h.below) (S5.p9.keep h.below) (h.zn HF0.p1) (Yb S5.q10 h.below)
 clear h Hh
 go_wp2_with fail
 refine rgK hK ⟨S6.p4.facts.1,S6.p4.facts.2.1,S6.p4.facts.2.2.1,S6.p5.facts.1,S6.p5.facts.2.1,S6.p5.facts.2.2.1⟩ fun Hh=>?_;clear hK K
 refine rgO 8 fun K hK=>?_
 go_simp
 go_at_call 119;refine (add_z S6.p8 S6.p10 (by have:=HE.out;omega) (by have:=HE.out;omega)).mono ?_;rintro e w7 ⟨v,rfl,h⟩
 obtain ⟨pe,Ae,le,ce,rfl,-⟩:=h.parts
 have S7:=Yh13 (S6.p0.keep h.below) (S6.p1.keep h.below) (S6.p2.keep h.below) (S6.p3.keep h.below) (S6.p4.keep h.below) (S6.p5.keep h.below) (S6.p6.keep h.below) (S6.p7.keep h.below) (S6.p8.keep h.below) (S6.p9.keep h.below) (S6.p10.keep h.below) (h.zn HF0.p2) (Yb S6.q11 h.below)
 clear h Hh
 go_wp2_with fail
 refine rgK hK ⟨S7.p4.facts.1,S7.p4.facts.2.1,S7.p4.facts.2.2.1,S7.p5.facts.1,S7.p5.facts.2.1,S7.p5.facts.2.2.1⟩ fun Hh=>?_;clear hK K
 refine rgO 10 fun K hK=>?_
 go_simp
 go_at_call 114;refine (under_q S7.p1 HE.p0 (by have:=HE.out;omega)).mono ?_;rintro e w8 ⟨v,rfl,h,hb⟩
 obtain ⟨Af,lf,cf,rfl⟩:=h.form
 rw [HE.p4] at h
 have S8:=Yh14 (S7.p0.keep hb) (S7.p1.keep hb) (S7.p2.keep hb) (S7.p3.keep hb) (S7.p4.keep hb) (S7.p5.keep hb) (S7.p6.keep hb) (S7.p7.keep hb) (S7.p8.keep hb) (S7.p9.keep hb) (S7.p10.keep hb) (S7.p11.keep hb) h (Yb S7.q12 hb)
 clear h hb Hh
 go_wp2_with fail
 refine rgK hK ⟨S8.p4.facts.1,S8.p4.facts.2.1,S8.p4.facts.2.2.1,S8.p5.facts.1,S8.p5.facts.2.1,S8.p5.facts.2.2.1⟩ fun Hh=>?_;clear hK K
 refine rgO 12 fun K hK=>?_
 go_simp
 go_at_call 114;refine (under_q S8.p3 HE.p1 (by have:=HE.out;omega)).mono ?_;rintro e w9 ⟨v,rfl,h,hb⟩
 obtain ⟨Ag,lg,cg,rfl⟩:=h.form
 rw [HE.q5] at h
 have S9:=Yh15 (S8.p0.keep hb) (S8.p1.keep hb) (S8.p2.keep hb) (S8.p3.keep hb) (S8.p4.keep hb) (S8.p5.keep hb) (S8.p6.keep hb) (S8.p7.keep hb) (S8.p8.keep hb) (S8.p9.keep hb) (S8.p10.keep hb) (S8.p11.keep hb) (S8.p12.keep hb) h (Yb S8.q13 hb)
 clear h hb Hh
 go_wp2_with fail
 refine rgK hK ⟨S9.p4.facts.1,S9.p4.facts.2.1,S9.p4.facts.2.2.1,S9.p5.facts.1,S9.p5.facts.2.1,S9.p5.facts.2.2.1⟩ fun Hh=>?_;clear hK K
 refine rgO 13 fun K hK=>?_
 go_simp
 go_at_call 120;refine (mul_nm S9.p12 S9.p13 (by have:=HE.out;omega) (by have:=HE.out;omega)).mono ?_;rintro e w10 ⟨v,rfl,h⟩
 obtain ⟨Ah,lh,ch,rfl⟩:=h.form
 have S10:=Yh16 (S9.p0.keep h.2) (S9.p1.keep h.2) (S9.p2.keep h.2) (S9.p3.keep h.2) (S9.p4.keep h.2) (S9.p5.keep h.2) (S9.p6.keep h.2) (S9.p7.keep h.2) (S9.p8.keep h.2) (S9.p9.keep h.2) (S9.p10.keep h.2) (S9.p11.keep h.2) (S9.p12.keep h.2) (S9.p13.keep h.2) (h.nm HF0.p3) (Yb S9.q14 h.2)
 clear h Hh
 go_wp2_with fail
 refine rgK hK ⟨S10.p4.facts.1,S10.p4.facts.2.1,S10.p4.facts.2.2.1,S10.p5.facts.1,S10.p5.facts.2.1,S10.p5.facts.2.2.1⟩ fun Hh=>?_;clear hK K
 refine rgO 14 fun K hK=>?_
 go_simp
 go_at_call 118;refine (lowest_q S10.p11 S10.p14 HF0.q4 (by have:=HE.out;omega) (by have:=HE.out;omega)).mono ?_;rintro e w11 ⟨v,rfl,h⟩
 obtain ⟨pq,Aq,lq,cq,Av,lv,cv,rfl⟩:=h.qo.parts
 have S11:=Yh17 (S10.p0.keep h.below) (S10.p1.keep h.below) (S10.p2.keep h.below) (S10.p3.keep h.below) (S10.p4.keep h.below) (S10.p5.keep h.below) (S10.p6.keep h.below) (S10.p7.keep h.below) (S10.p8.keep h.below) (S10.p9.keep h.below) (S10.p10.keep h.below) (S10.p11.keep h.below) (S10.p12.keep h.below) (S10.p13.keep h.below) (S10.p14.keep h.below) (h.from S10.q15) (Yb S10.q15 h.below)
 clear h Hh
 go_wp2_with fail
 refine rgK hK ⟨S11.p4.facts.1,S11.p4.facts.2.1,S11.p4.facts.2.2.1,S11.p5.facts.1,S11.p5.facts.2.1,S11.p5.facts.2.2.1⟩ fun Hh=>?_;clear hK K
 obtain ⟨f0,f1,f2,f3,f4,f5⟩:=S11.p6.facts
 refine rgO 15 fun K hK=>?_
 go_simp;clear f0 f1 f2 f3 f4 f5
 refine rgK hK ⟨cell_st3 _ S11.p4.facts.1 Yo,cell_st3 _ S11.p4.facts.2.1 Yo,cell_st3 _ S11.p4.facts.2.2.1 Yo,cell_st3 _ S11.p5.facts.1 Yo,cell_st3 _ S11.p5.facts.2.1 Yo,cell_st3 _ S11.p5.facts.2.2.1 Yo⟩ fun Hh=>?_;clear hK K
 refine Yw ?_
 clear Hh
 go_wp2_with fail
 refine ret_b3 S11.p6 (fun W d0 d1 d2=>by simp [results,Tryz.results56,go_sem,d0,d1,d2];try rfl) rfl ?_
 exact ⟨_,rfl,Qs.put3 rat_word S11.p6 Yo (HR.out _ _ S11.p15) _ _ _⟩
theorem mul_v {w:World} {L M:Nat} {a u:Value} {q r:Rat} (ha:Qv w L a q) (hu:Qv w M u r) (h0:0<L) (h0':0<M) (h1:L<=17179869184) (h2:M<=17179869184):
 Calls Tryz.prog 57 #[a,u] w fun e w'=>∃ v,e=.returned v/\Qr w w' v (q*r):=by
 obtain ⟨z,m,⟨b,A,l,c,B,k,d,rfl,hz,hm⟩,rfl⟩:=ha
 obtain ⟨z2,m2,⟨b2,A2,l2,c2,B2,k2,d2,rfl,hz2,hm2⟩,rfl⟩:=hu
 obtain ⟨N,eN⟩:∃ N,den m=N:=⟨_,rfl⟩
 obtain ⟨N2,eN2⟩:∃ N,den m2=N:=⟨_,rfl⟩
 have hN:N≠0:=by rw [<- eN];exact den_ne m
 have hN2:N2≠0:=by rw [<- eN2];exact den_ne m2
 have hNl:N<WB ^ L:=by rw [<- eN];exact den_lt hm.lt h0
 have hNl2:N2<WB ^ M:=by rw [<- eN2];exact den_lt hm2.lt h0'
 rw [eN,eN2]
 rw [Rat.mkRat_mul_mkRat]
 have e2:∀ {a b:Nat},a<WB ^ L->b<WB ^ M->a*b<WB ^ (L+M):=fun ha hb=>by rw [Nat.pow_add];exact Nat.mul_lt_mul'' ha hb
 have b1:(z*z2).natAbs<WB ^ (L+M):=by rw [Int.natAbs_mul];exact e2 hz.lt hz2.lt
 have HF0:=Yh3 b1 (e2 hNl hNl2) (Nat.mul_ne_zero hN hN2)
 have HE:=Yh6 h0 h0' h1 h2 eN eN2
 have HR:=Lib.hid (fun (W:World) (v:Value) (h:Qs w W v (qn (z*z2) (N*N2)) (qd (z*z2) (N*N2)))=>qs_of h (Nat.mul_ne_zero hN hN2))
 have S0:=Yh5 hz hm hz2 hm2 (Below.refl w.heap.size w)
 clear hz hm hz2 hm2 h0 h0' h1 h2 hN hN2 hNl hNl2 eN eN2 e2 b1
 go_enter Tryz.func57,Tryz.ntmps57
 go_upto_region 1 with (fail)
 obtain ⟨hX,hY,hR,hb⟩:=b3_three 36 w (.bool b) (.slice A l c) (.slice B k d) (.bool b2) (.slice A2 l2 c2) (.slice B2 k2 d2) (.bool false) (.slice none 0 0) (.slice none 0 0)
 have S1:=Yh8 (S0.p0.keep hb) (S0.p1.keep hb) (S0.p2.keep hb) (S0.p3.keep hb) hX hY hR (Yb S0.q4 hb)
 clear hb hX hY hR S0
 generalize ((w.alloc _).alloc _).alloc _=W0 at S1 ⊢
 go_upto_region 1 with (fail)
 have S2:=Yh8 (S1.p0.keep (below_dr _ 1)) (S1.p1.keep (below_dr _ 1)) (S1.p2.keep (below_dr _ 1)) (S1.p3.keep (below_dr _ 1)) (S1.p4.keep (below_dr _ 1)) (S1.p5.keep (below_dr _ 1)) (S1.p6.keep (below_dr _ 1)) (Yb S1.q7 (below_dr _ 1))
 refine wp_region_held_drew (S:=fun W=>Yc3 W w.heap.size (.bool b) (.slice A l c) (.slice B k d) (Ye3 W (w.heap.size+1) (.bool b2) (.slice A2 l2 c2) (.slice B2 k2 d2))) (by kernel_rfl) ⟨S2.p4.facts.1,S2.p4.facts.2.1,S2.p4.facts.2.2.1,S2.p5.facts.1,S2.p5.facts.2.1,S2.p5.facts.2.2.1⟩ (fun Hh=>?_)
 refine rgRun 6 [0,1,2,3,5,7] Hh fun K hK=>?_
 repeat refine rgA ?_
 refine hK _ _ ?_;clear hK K
 refine rgO 4 fun K hK=>?_
 go_simp
 go_at_call 121;refine (mul_z S2.p0 S2.p2 (by have:=HE.out;omega) (by have:=HE.out;omega)).mono ?_;rintro e w3 ⟨v,rfl,h⟩
 obtain ⟨pa,Aa,la,ca,rfl,-⟩:=h.parts
 have S3:=Yh9 (S2.p0.keep h.below) (S2.p1.keep h.below) (S2.p2.keep h.below) (S2.p3.keep h.below) (S2.p4.keep h.below) (S2.p5.keep h.below) (S2.p6.keep h.below) (h.zn HF0.p0) (Yb S2.q7 h.below)
 clear h Hh
 go_wp2_with fail
 refine rgK hK ⟨S3.p4.facts.1,S3.p4.facts.2.1,S3.p4.facts.2.2.1,S3.p5.facts.1,S3.p5.facts.2.1,S3.p5.facts.2.2.1⟩ fun Hh=>?_;clear hK K
 refine rgO 6 fun K hK=>?_
 go_simp
 go_at_call 114;refine (under_q S3.p1 HE.p0 (by have:=HE.out;omega)).mono ?_;rintro e w4 ⟨v,rfl,h,hb⟩
 obtain ⟨Af,lf,cf,rfl⟩:=h.form
 rw [HE.p4] at h
 have S4:=Yh10 (S3.p0.keep hb) (S3.p1.keep hb) (S3.p2.keep hb) (S3.p3.keep hb) (S3.p4.keep hb) (S3.p5.keep hb) (S3.p6.keep hb) (S3.p7.keep hb) h (Yb S3.q8 hb)
 clear h hb Hh
 go_wp2_with fail
 refine rgK hK ⟨S4.p4.facts.1,S4.p4.facts.2.1,S4.p4.facts.2.2.1,S4.p5.facts.1,S4.p5.facts.2.1,S4.p5.facts.2.2.1⟩ fun Hh=>?_;clear hK K
 refine rgO 8 fun K hK=>?_
 go_simp
 go_at_call 114;refine (under_q S4.p3 HE.p1 (by have:=HE.out;omega)).mono ?_;rintro e w5 ⟨v,rfl,h,hb⟩
 obtain ⟨Ag,lg,cg,rfl⟩:=h.form
 rw [HE.q5] at h
 have S5:=Yh11 (S4.p0.keep hb) (S4.p1.keep hb) (S4.p2.keep hb) (S4.p3.keep hb) (S4.p4.keep hb) (S4.p5.keep hb) (S4.p6.keep hb) (S4.p7.keep hb) (S4.p8.keep hb) h (Yb S4.q9 hb)
 clear h hb Hh
 go_wp2_with fail
 refine rgK hK ⟨S5.p4.facts.1,S5.p4.facts.2.1,S5.p4.facts.2.2.1,S5.p5.facts.1,S5.p5.facts.2.1,S5.p5.facts.2.2.1⟩ fun Hh=>?_;clear hK K
 refine rgO 9 fun K hK=>?_
 go_simp
 go_at_call 120;refine (mul_nm S5.p8 S5.p9 (by have:=HE.out;omega) (by have:=HE.out;omega)).mono ?_;rintro e w6 ⟨v,rfl,h⟩
 obtain ⟨Ah,lh,ch,rfl⟩:=h.form
 have S6:=Yh12 (S5.p0.keep h.2) (S5.p1.keep h.2) (S5.p2.keep h.2) (S5.p3.keep h.2) (S5.p4.keep h.2) (S5.p5.keep h.2) (S5.p6.keep h.2) (S5.p7.keep h.2) (S5.p8.keep h.2) (S5.p9.keep h.2) (h.nm HF0.p1) (Yb S5.q10 h.2)
 clear h Hh
 go_wp2_with fail
 refine rgK hK ⟨S6.p4.facts.1,S6.p4.facts.2.1,S6.p4.facts.2.2.1,S6.p5.facts.1,S6.p5.facts.2.1,S6.p5.facts.2.2.1⟩ fun Hh=>?_;clear hK K
 refine rgO 10 fun K hK=>?_
 go_simp
 go_at_call 118;refine (lowest_q S6.p7 S6.p10 HF0.q2 (by have:=HE.out;omega) (by have:=HE.out;omega)).mono ?_;rintro e w7 ⟨v,rfl,h⟩
 obtain ⟨pq,Aq,lq,cq,Av,lv,cv,rfl⟩:=h.qo.parts
 have S7:=Yh13 (S6.p0.keep h.below) (S6.p1.keep h.below) (S6.p2.keep h.below) (S6.p3.keep h.below) (S6.p4.keep h.below) (S6.p5.keep h.below) (S6.p6.keep h.below) (S6.p7.keep h.below) (S6.p8.keep h.below) (S6.p9.keep h.below) (S6.p10.keep h.below) (h.from S6.q11) (Yb S6.q11 h.below)
 clear h Hh
 go_wp2_with fail
 refine rgK hK ⟨S7.p4.facts.1,S7.p4.facts.2.1,S7.p4.facts.2.2.1,S7.p5.facts.1,S7.p5.facts.2.1,S7.p5.facts.2.2.1⟩ fun Hh=>?_;clear hK K
 obtain ⟨f0,f1,f2,f3,f4,f5⟩:=S7.p6.facts
 refine rgO 11 fun K hK=>?_
 go_simp;clear f0 f1 f2 f3 f4 f5
 refine rgK hK ⟨cell_st3 _ S7.p4.facts.1 Yo,cell_st3 _ S7.p4.facts.2.1 Yo,cell_st3 _ S7.p4.facts.2.2.1 Yo,cell_st3 _ S7.p5.facts.1 Yo,cell_st3 _ S7.p5.facts.2.1 Yo,cell_st3 _ S7.p5.facts.2.2.1 Yo⟩ fun Hh=>?_;clear hK K
 refine Yw ?_
 clear Hh
 go_wp2_with fail
 refine ret_b3 S7.p6 (fun W d0 d1 d2=>by simp [results,Tryz.results57,go_sem,d0,d1,d2];try rfl) rfl ?_
 exact ⟨_,rfl,Qs.put3 rat_word S7.p6 Yo (HR.out _ _ S7.p11) _ _ _⟩
end
end
end Go.Proofs.YtaajajngnmaggaaGreat
