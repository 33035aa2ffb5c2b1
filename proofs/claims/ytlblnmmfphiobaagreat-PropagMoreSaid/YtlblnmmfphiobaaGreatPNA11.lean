import Derived.Test.YtlblnmmfphiobaaGreatPNA10
set_option maxRecDepth 100000
set_option maxHeartbeats 8000000
set_option linter.unusedVariables false
set_option linter.unusedSimpArgs false
namespace Go.Proofs.YtlblnmmfphiobaaGreat
section
open Go Go.RowKit Go.Proofs Pl
def Qz (w:World) (L:Nat) (v:Value) (z:Int) (m:Nat):Prop:=∃ b A l c B k d,v=.agg #[.bool b,.slice A l c,.slice B k d]/\Zn w L (.agg #[.bool b,.slice A l c]) z/\Nm w L (.slice B k d) m
def Qv (w:World) (L:Nat) (v:Value) (q:Rat):Prop:=∃ z m,Qz w L v z m/\mkRat z (den m)=q
def Sz (L:Nat) (q:Rat):Prop:=q.num.natAbs<WB ^ L/\q.den<WB ^ L
def Qr (w w':World) (v:Value) (q:Rat):Prop:=Qs w w' v q.num q.den
section
variable {w w' W:World} {L M:Nat} {v:Value} {z:Int} {m:Nat} {q r:Rat} {b:Bool} {xs ds:List Nat}
theorem Qz.keep (h:Qz w L v z m) (hb:Below w.heap.size w w'):Qz w' L v z m:=by
 obtain ⟨b,A,l,c,B,k,d,e,h1,h2⟩:=h;exact ⟨b,A,l,c,B,k,d,e,h1.keep hb,h2.keep hb⟩
theorem Qv.keep (h:Qv w L v q) (hb:Below w.heap.size w w'):Qv w' L v q:=by
 obtain ⟨z,m,h1,h2⟩:=h;exact ⟨z,m,h1.keep hb,h2⟩
theorem Nl.shape {s:Value} (h:Nl w s xs):∃ A c,s=.slice A xs.length c/\Nl w (.slice A xs.length c) xs:=by
 obtain ⟨A,c,e,h⟩:=h;exact ⟨A,c,e,A,c,rfl,h⟩
theorem Ql.qz (h:Ql w v b xs ds) (hx:xs.length<=L) (hd:ds.length<=L):Qz w L v (sg b (val WB xs)) (val WB ds):=by
 obtain ⟨s,d,rfl,h1,h2⟩:=h;obtain ⟨A,c,rfl,h1⟩:=h1.shape;obtain ⟨B,k,rfl,h2⟩:=h2.shape;exact ⟨b,A,_,c,B,_,k,rfl,⟨b,_,_,rfl,⟨xs,h1,hx,rfl⟩,rfl⟩,⟨ds,h2,hd,rfl⟩⟩
theorem Ql.qv (h:Ql w v b xs ds) (hx:xs.length<=L) (hd:ds.length<=L):Qv w L v (rv b xs ds):=⟨_,_,h.qz hx hd,rfl⟩
theorem Qv.ql (h:Qv w L v q):∃ b xs ds,Ql w v b xs ds/\xs.length<=L/\ds.length<=L/\rv b xs ds=q:=by
 obtain ⟨z,m,⟨b,A,l,c,B,k,d,rfl,⟨b',s',n,e,⟨xs,h1,h2,h3⟩,h4⟩,⟨ds,h5,h6,h7⟩⟩,rfl⟩:=h;injection e with e;injection e with e
 simp only [List.cons.injEq,Value.bool.injEq,and_true] at e;obtain ⟨rfl,rfl⟩:=e;refine ⟨b,xs,ds,⟨_,_,rfl,h1,h5⟩,h2,h6,?_⟩;unfold rv;rw [h3,h7,h4]
theorem LP (q:Rat):den q.den=q.den:=by unfold den;rw [if_neg q.den_nz]
theorem Qr.below (h:Qr w w' v q):Below w.heap.size w w':=Qs.below h
theorem Qr.qo (h:Qr w w' v q):Qo w' v q.num q.den:=Qs.qo h
theorem Qr.keep (h:Qr w w' v q) (hb:Below w'.heap.size w' W):Qr w W v q:=Qs.keep h hb
theorem Qr.from (h:Qr w' W v q) (hb:Below w.heap.size w w'):Qr w W v q:=Qs.from h hb
theorem Ta (h:Qo w v q.num q.den) (hs:Sz L q):Qv w L v q:=by
 have h1:=h.ql.qv (L:=L) (Au Aw hs.1) (Au Aw hs.2)
 have e:rv (decide (q.num<0)) (dg WB q.num.natAbs) (dg WB q.den)=q:=by
  unfold rv;rw [AR Aw,AR Aw,EZ,LP,Wi]
 rwa [e] at h1
theorem Qr.qv (h:Qr w w' v q) (hs:Sz L q):Qv w' L v q:=Ta h.qo hs
theorem Jm (h:Qs w w' v (qn z m) (qd z m)) (h0:m≠0):Qr w w' v (mkRat z m):=by
 unfold Qr;rw [Gt z h0,IX z h0];exact h
theorem Sz.mono (h:Sz L q) (hL:L<=M):Sz M q:=
 ⟨TV h.1 (Ua Ay hL),TV h.2 (Ua Ay hL)⟩
theorem LO (hz:z.natAbs<WB ^ L) (hm:m<WB ^ L) (h0:m≠0):Sz L (mkRat z m):=by
 refine ⟨?_,?_⟩
 · rw [Gt z h0,PA];exact Ug (Vh _ _) hz
 · rw [IX z h0];exact Ug (Vh _ _) hm
theorem Qv.sz (h:Qv w L v q) (hL:0<L):Sz L q:=by
 obtain ⟨z,m,⟨b,A,l,c,B,k,d,e,h1,h2⟩,rfl⟩:=h;exact LO h1.lt (C8 h2.lt hL) (BE m)
theorem Sz.add (h:Sz L q) (h':Sz M r):Sz (L+M+1) (q+r):=by
 rw [Rat.add_def'];have e2:∀ {a b:Nat},a<WB ^ L->b<WB ^ M->a*b<WB ^ (L+M):=fun ha hb=>by rw [UF];exact UG ha hb
 have hp:WB ^ (L+M)+WB ^ (L+M)<=WB ^ (L+M+1):=by
  rw [UD,<- Nat.mul_two];exact TY _ (by rw [Bz];decide)
 refine LO ?_ (TV (e2 h.2 h'.2) Yo) (UX q.den_nz r.den_nz);have a1:(q.num*(r.den:Int)).natAbs<WB ^ (L+M):=by rw [UL];exact e2 h.1 h'.2
 have a2:(r.num*(q.den:Int)).natAbs<WB ^ (L+M):=by rw [UL,TX];exact e2 h.2 h'.1
 omega
theorem Sz.mul (h:Sz L q) (h':Sz M r):Sz (L+M) (q*r):=by
 rw [Rat.mul_def'];refine LO ?_ ?_ (UX q.den_nz r.den_nz)
 · rw [UL,UF];exact UG h.1 h'.1
 · rw [UF];exact UG h.2 h'.2
theorem C9:Sz 1 0:=⟨by rw [Bz];decide,by rw [Bz];decide⟩
theorem ID:Sz 1 1:=⟨by rw [Bz];decide,by rw [Bz];decide⟩
theorem Qr.parts (h:Qr w w' v q):∃ p A l c B k d,v=.agg #[.bool p,.slice A l c,.slice B k d]:=h.qo.parts
end
def ET (q:Rat):Int:=BH q.num
theorem Sj (z:Int) {n:Nat} (h:n≠0):ET (mkRat z n)=BH z:=by
 have hg:0<Nat.gcd z.natAbs n:=Nat.gcd_pos_of_pos_right _ (U9 h);have h0:z≠0->0<z.natAbs / Nat.gcd z.natAbs n:=fun hz=>Nat.div_pos (Nat.le_of_dvd (Int.natAbs_pos.2 hz) (Nat.gcd_dvd_left _ _)) hg;unfold ET;rw [Gt z h];unfold qn BH sg;by_cases hz:z=0
 · subst hz;simp
 · have:=h0 hz;by_cases hn:z<0
   · simp [hn,hz];omega
   · simp [hn,hz];omega
theorem DR (q:Rat):ET q=0↔q=0:=by
 unfold ET BH;rw [<- Rat.num_eq_zero];by_cases h:q.num=0
 · simp [h]
 · by_cases h2:q.num<0<;>simp [h,h2]
theorem EI {w:World} {L:Nat} {a:Value} {q:Rat} (ha:Qv w L a q) (h1:0<L) (hL:L<=137438953472):
 Calls Tryz.prog 112 #[a] w fun e w'=>∃ v,e=.returned v/\Qr w w' v q:=by
 obtain ⟨b,xs,ds,h,hx,hd,rfl⟩:=ha.ql;refine (R4 h hx hd h1 hL).mono ?_;rintro e w' ⟨v,he,hv⟩;exact ⟨v,he,Jm hv (BE _)⟩
theorem DP {w:World} {L:Nat} {a:Value} {q:Rat} (ha:Qv w L a q) (hL:L<=137438953472):
 Calls Tryz.prog 75 #[a] w fun e w'=>e=.returned (.int .i64 (ET q))/\Yg w w':=by
 obtain ⟨z,m,⟨b,A,l,c,B,k,d,rfl,hz,hm⟩,rfl⟩:=ha;rw [Sj z (BE m)];have HL:=Lib.hid hL;have S0:=Yh2 hz (Below.refl w.heap.size w);clear hz hm hL;go_enter Tryz.func75,Tryz.ntmps75;go_upto_region 1 with (fail)
 have hX:=B3.new 36 w (.bool b) (.slice A l c) (.slice B k d);have S1:=Yh3 (S0.p0.keep ((Ya w (.cells #[.bool b,.slice A l c,.slice B k d] 36)))) hX (Yb S0.q1 ((Ya w (.cells #[.bool b,.slice A l c,.slice B k d] 36))));clear hX S0;generalize w.alloc _=W0 at S1 ⊢;obtain ⟨xa,xb,xc,-,-,-⟩:=S1.p1.facts;go_wp2_with fail;refine (Is S1.p0 (by have:=HL.out;omega)).mono ?_;rintro e w2 ⟨rfl,hb⟩;have S2:=Yh3 (S1.p0.keep hb) (S1.p1.keep hb) (Yb S1.q2 hb);clear hb xa xb xc S1;go_wp2_with fail;go_ret;exact ⟨rfl,S2.q2⟩
theorem ES {W:World} {b o:Nat} {v x y:Value} (g:Nat) (h:W.cell? ⟨b,o,none⟩=some v) (hne:b≠g):((W.setCell ⟨g,0,none⟩ x).setCell ⟨g,1,none⟩ y).cell? ⟨b,o,none⟩=some v:=by
 have e:((W.setCell ⟨g,0,none⟩ x).setCell ⟨g,1,none⟩ y).heap[b]?=W.heap[b]?:=(Below.heap_setCell _ _ _ _ (by exact hne)).trans (Below.heap_setCell _ _ _ _ (by exact hne));exact (World.cell?_of_block (w:=W) (a:=⟨b,o,none⟩) e).trans h
theorem DK {w:World} {L M:Nat} {a u:Value} {z:Int} {m k:Nat} (ha:Qz w L a z m) (hu:Nm w M u k) (h1:L<=68719476736) (h2:M<=68719476736):
 Calls Tryz.prog 158 #[a,u] w fun e w'=>∃ v,e=.returned v/\Zs w w' v (z*k):=by
 obtain ⟨b,A,l,c,B,kk,d,rfl,⟨b',s',n,e,hs,rfl⟩,hm⟩:=ha;injection e with e;injection e with e
 simp only [List.cons.injEq,Value.bool.injEq,and_true] at e;obtain ⟨rfl,rfl⟩:=e
 have ez:sg b n*(k:Int)=sg b (n*k):=by
  have:=Kz b false n k;rw [show sg false k=(k:Int) from rfl] at this;rw [this];cases b<;>rfl
 rw [ez];have HL:=Yh3 h1 h2 (TV (UG hs.lt hu.lt) (Nat.le_of_eq (UF WB L M).symm));have S0:=Yh3 hs hu (Below.refl w.heap.size w);clear hs hu hm h1 h2 ez;go_enter Tryz.func158,Tryz.ntmps158;go_upto_region 1 with (fail)
 have hb:=Yb (Ya w (.cells #[.bool b,.slice A l c,.slice B kk d] 36)) (Ya _ (.cells #[.bool false,.slice none 0 0] 34));have hX:=(B3.new 36 w (.bool b) (.slice A l c) (.slice B kk d)).alloc (.cells #[.bool false,.slice none 0 0] 34);have hR:=Bx.new1 34 w (.cells #[.bool b,.slice A l c,.slice B kk d] 36) (.bool false) (.slice none 0 0);have S1:=Yh5 (S0.p0.keep hb) (S0.p1.keep hb) hX hR (Yb S0.q2 hb);clear hb hX hR S0;generalize (w.alloc _).alloc _=W0 at S1 ⊢;go_upto_region 1 with (fail)
 have S2:=Yh5 (S1.p0.keep (Ai _ 1)) (S1.p1.keep (Ai _ 1)) (S1.p2.keep (Ai _ 1)) (S1.p3.keep (Ai _ 1)) (Yb S1.q4 (Ai _ 1));refine wp_region_held_drew (S:=fun W=>Ye3 W w.heap.size (.bool b) (.slice A l c) (.slice B kk d)) (by kernel_rfl) ⟨S2.p2.facts.1,S2.p2.facts.2.1,S2.p2.facts.2.2.1⟩ (fun Hh=>?_);refine AL 7 [0,1,2,3,4,5,6] Hh fun K hK=>?_
 repeat refine rgA ?_
 refine hK _ _ ?_;clear hK K;refine rgO 7 fun K hK=>?_;go_simp;go_at_call 165;refine (Dj S2.p0 S2.p1 (by have:=HL.out;omega) (by have:=HL.out;omega)).mono ?_;rintro e w3 ⟨v,rfl,h⟩;have S3:=Yh6 (S2.p0.keep h.2) (S2.p1.keep h.2) (S2.p2.keep h.2) (S2.p3.keep h.2) (h.nm HL.q2) (Yb S2.q4 h.2);clear h Hh;go_wp2_with fail;refine rgK hK ⟨S3.p2.facts.1,S3.p2.facts.2.1,S3.p2.facts.2.2.1⟩ fun Hh=>?_;clear hK K;refine rgO 8 fun K hK=>?_;go_simp;go_at_call 214;refine (DQ b S3.p4 (by have:=HL.out;omega)).mono ?_;rintro e w4 ⟨v,rfl,h⟩;obtain ⟨pq,Aq,lq,cq,rfl,-⟩:=h.parts;have S4:=Yh7 (S3.p0.keep h.below) (S3.p1.keep h.below) (S3.p2.keep h.below) (S3.p3.keep h.below) (S3.p4.keep h.below) (h.from S3.q5) (Yb S3.q5 h.below);clear h Hh;go_wp2_with fail;refine rgK hK ⟨S4.p2.facts.1,S4.p2.facts.2.1,S4.p2.facts.2.2.1⟩ fun Hh=>?_;clear hK K;obtain ⟨f0,f1,f2,f3⟩:=S4.p3.facts;refine rgO 9 fun K hK=>?_;go_simp;clear f0 f1 f2 f3;refine rgK hK ⟨ES _ S4.p2.facts.1 Yo,ES _ S4.p2.facts.2.1 Yo,ES _ S4.p2.facts.2.2.1 Yo⟩ fun Hh=>?_;clear hK K;refine Yw ?_;clear Hh;go_wp2_with fail;refine Bm S4.p3 (fun W d0 d1=>by simp [results,Tryz.results158,go_sem,d0,d1]) rfl ?_;exact ⟨_,rfl,S4.p5.put Bs S4.p3 Yo _ _⟩
theorem Jk (T:TypeId) (w:World) (a b c d e f x y z:Value):B3 T (((w.alloc (.cells #[a,b,c] T)).alloc (.cells #[d,e,f] T)).alloc (.cells #[x,y,z] T)) w.heap.size a b c/\
 B3 T (((w.alloc (.cells #[a,b,c] T)).alloc (.cells #[d,e,f] T)).alloc (.cells #[x,y,z] T)) (w.heap.size+1) d e f/\B3 T (((w.alloc (.cells #[a,b,c] T)).alloc (.cells #[d,e,f] T)).alloc (.cells #[x,y,z] T)) (w.heap.size+1+1) x y z/\
 Yg w (((w.alloc (.cells #[a,b,c] T)).alloc (.cells #[d,e,f] T)).alloc (.cells #[x,y,z] T)):=
 ⟨((B3.new T w a b c).alloc _).alloc _,(B3.new1 T w _ d e f).alloc _,B3.new2 T w _ _ x y z,by go_grown⟩
theorem Nm.form {w:World} {L n:Nat} {v:Value} (h:Nm w L v n):∃ A l c,v=.slice A l c:=by
 obtain ⟨xs,⟨A,c,e,-⟩,-⟩:=h;exact ⟨A,_,c,e⟩
theorem Qz.mk {w:World} {L:Nat} {b:Bool} {A B:Option Addr} {l c k d:Nat} {z:Int} {m:Nat} (hz:Zn w L (.agg #[.bool b,.slice A l c]) z) (hm:Nm w L (.slice B k d) m):Qz w L (.agg #[.bool b,.slice A l c,.slice B k d]) z m:=
 ⟨b,A,l,c,B,k,d,rfl,hz,hm⟩
theorem Pk {w:World} {L M:Nat} {a u:Value} {q r:Rat} (ha:Qv w L a q) (hu:Qv w M u r) (h0:0<L) (h0':0<M) (h1:L<=17179869184) (h2:M<=17179869184):
 Calls Tryz.prog 77 #[a,u] w fun e w'=>∃ v,e=.returned v/\Qr w w' v (q+r):=by
 obtain ⟨z,m,⟨b,A,l,c,B,k,d,rfl,hz,hm⟩,rfl⟩:=ha;obtain ⟨z2,m2,⟨b2,A2,l2,c2,B2,k2,d2,rfl,hz2,hm2⟩,rfl⟩:=hu;obtain ⟨N,eN⟩:∃ N,den m=N:=⟨_,rfl⟩;obtain ⟨N2,eN2⟩:∃ N,den m2=N:=⟨_,rfl⟩;have hN:N≠0:=by rw [<- eN];exact BE m
 have hN2:N2≠0:=by rw [<- eN2];exact BE m2
 have hNl:N<WB ^ L:=by rw [<- eN];exact C8 hm.lt h0
 have hNl2:N2<WB ^ M:=by rw [<- eN2];exact C8 hm2.lt h0'
 rw [eN,eN2];rw [Rat.mkRat_add_mkRat _ _ hN hN2];have e2:∀ {a b:Nat},a<WB ^ L->b<WB ^ M->a*b<WB ^ (L+M):=fun ha hb=>by rw [UF];exact UG ha hb
 have b1:(z*(N2:Int)).natAbs<WB ^ (L+M):=by rw [UL];exact e2 hz.lt hNl2
 have b2:(z2*(N:Int)).natAbs<WB ^ (L+M):=by rw [UL,TX];exact e2 hNl hz2.lt
 have hp:WB ^ (L+M)+WB ^ (L+M)<=WB ^ (L+M+1):=by rw [UD,<- Nat.mul_two];exact TY _ (by rw [Bz];decide)
 have b3:(z*(N2:Int)+z2*(N:Int)).natAbs<WB ^ (L+M+1):=Yo;have HF0:=Yh5 b1 b2 b3 (e2 hNl hNl2) (UX hN hN2);have HE:=Yh6 h0 h0' h1 h2 eN eN2;have HR:=Lib.hid (fun (W:World) (v:Value) (h:Qs w W v (qn (z*N2+z2*N) (N*N2)) (qd (z*N2+z2*N) (N*N2)))=>Jm h (UX hN hN2));have S0:=Yh5 hz hm hz2 hm2 (Below.refl w.heap.size w);clear hz hm hz2 hm2 h0 h0' h1 h2 hN hN2 hNl hNl2 eN eN2 e2 b1 b2 b3 hp;go_enter Tryz.func77,Tryz.ntmps77;go_upto_region 1 with (fail)
 obtain ⟨hX,hY,hR,hb⟩:=Jk 36 w (.bool b) (.slice A l c) (.slice B k d) (.bool b2) (.slice A2 l2 c2) (.slice B2 k2 d2) (.bool false) (.slice none 0 0) (.slice none 0 0);have S1:=Yh8 (S0.p0.keep hb) (S0.p1.keep hb) (S0.p2.keep hb) (S0.p3.keep hb) hX hY hR (Yb S0.q4 hb);clear hb hX hY hR S0;generalize ((w.alloc _).alloc _).alloc _=W0 at S1 ⊢;go_upto_region 1 with (fail)
 have S2:=Yh8 (S1.p0.keep (Ai _ 1)) (S1.p1.keep (Ai _ 1)) (S1.p2.keep (Ai _ 1)) (S1.p3.keep (Ai _ 1)) (S1.p4.keep (Ai _ 1)) (S1.p5.keep (Ai _ 1)) (S1.p6.keep (Ai _ 1)) (Yb S1.q7 (Ai _ 1));refine wp_region_held_drew (S:=fun W=>Yc3 W w.heap.size (.bool b) (.slice A l c) (.slice B k d) (Ye3 W (w.heap.size+1) (.bool b2) (.slice A2 l2 c2) (.slice B2 k2 d2))) (by kernel_rfl) ⟨S2.p4.facts.1,S2.p4.facts.2.1,S2.p4.facts.2.2.1,S2.p5.facts.1,S2.p5.facts.2.1,S2.p5.facts.2.2.1⟩ (fun Hh=>?_);refine AL 6 [0,1,4,5,9,11] Hh fun K hK=>?_
 repeat refine rgA ?_
 refine hK _ _ ?_;clear hK K;refine rgO 2 fun K hK=>?_;go_simp;go_at_call 159;refine (Bj S2.p3 HE.p1 (by have:=HE.out;omega)).mono ?_;rintro e w3 ⟨v,rfl,h,hb⟩;obtain ⟨Aa,la,ca,rfl⟩:=h.form;rw [HE.q5] at h;have S3:=Yh9 (S2.p0.keep hb) (S2.p1.keep hb) (S2.p2.keep hb) (S2.p3.keep hb) (S2.p4.keep hb) (S2.p5.keep hb) (S2.p6.keep hb) h (Yb S2.q7 hb);clear h hb Hh;go_wp2_with fail;refine rgK hK ⟨S3.p4.facts.1,S3.p4.facts.2.1,S3.p4.facts.2.2.1,S3.p5.facts.1,S3.p5.facts.2.1,S3.p5.facts.2.2.1⟩ fun Hh=>?_;clear hK K;refine rgO 3 fun K hK=>?_;go_simp;go_at_call 158;refine (DK (Qz.mk S3.p0 S3.p1) S3.p7 (by have:=HE.out;omega) (by have:=HE.out;omega)).mono ?_;rintro e w4 ⟨v,rfl,h⟩;obtain ⟨pb,Ab,lb,cb,rfl,-⟩:=h.parts;have S4:=F9 (S3.p0.keep h.below) (S3.p1.keep h.below) (S3.p2.keep h.below) (S3.p3.keep h.below) (S3.p4.keep h.below) (S3.p5.keep h.below) (S3.p6.keep h.below) (S3.p7.keep h.below) (h.zn HF0.p0) (Yb S3.q8 h.below);clear h Hh;go_wp2_with fail;refine rgK hK ⟨S4.p4.facts.1,S4.p4.facts.2.1,S4.p4.facts.2.2.1,S4.p5.facts.1,S4.p5.facts.2.1,S4.p5.facts.2.2.1⟩ fun Hh=>?_;clear hK K;refine rgO 6 fun K hK=>?_;go_simp;go_at_call 159;refine (Bj S4.p1 HE.p0 (by have:=HE.out;omega)).mono ?_;rintro e w5 ⟨v,rfl,h,hb⟩;obtain ⟨Ac,lc,cc,rfl⟩:=h.form;rw [HE.p4] at h;have S5:=JY (S4.p0.keep hb) (S4.p1.keep hb) (S4.p2.keep hb) (S4.p3.keep hb) (S4.p4.keep hb) (S4.p5.keep hb) (S4.p6.keep hb) (S4.p7.keep hb) (S4.p8.keep hb) h (Yb S4.q9 hb);clear h hb Hh;go_wp2_with fail;refine rgK hK ⟨S5.p4.facts.1,S5.p4.facts.2.1,S5.p4.facts.2.2.1,S5.p5.facts.1,S5.p5.facts.2.1,S5.p5.facts.2.2.1⟩ fun Hh=>?_;clear hK K;refine rgO 7 fun K hK=>?_;go_simp;go_at_call 158;refine (DK (Qz.mk S5.p2 S5.p3) S5.p9 (by have:=HE.out;omega) (by have:=HE.out;omega)).mono ?_;rintro e w6 ⟨v,rfl,h⟩;obtain ⟨pd,Ad,ld,cd,rfl,-⟩:=h.parts;have S6:=Kd (S5.p0.keep h.below) (S5.p1.keep h.below) (S5.p2.keep h.below) (S5.p3.keep h.below) (S5.p4.keep h.below) (S5.p5.keep h.below) (S5.p6.keep h.below) (S5.p7.keep h.below) (S5.p8.keep h.below) (S5.p9.keep h.below) (h.zn HF0.p1) (Yb S5.q10 h.below);clear h Hh;go_wp2_with fail;refine rgK hK ⟨S6.p4.facts.1,S6.p4.facts.2.1,S6.p4.facts.2.2.1,S6.p5.facts.1,S6.p5.facts.2.1,S6.p5.facts.2.2.1⟩ fun Hh=>?_;clear hK K;refine rgO 8 fun K hK=>?_;go_simp;go_at_call 164;refine (Rl S6.p8 S6.p10 (by have:=HE.out;omega) (by have:=HE.out;omega)).mono ?_;rintro e w7 ⟨v,rfl,h⟩;obtain ⟨pe,Ae,le,ce,rfl,-⟩:=h.parts;have S7:=P6 (S6.p0.keep h.below) (S6.p1.keep h.below) (S6.p2.keep h.below) (S6.p3.keep h.below) (S6.p4.keep h.below) (S6.p5.keep h.below) (S6.p6.keep h.below) (S6.p7.keep h.below) (S6.p8.keep h.below) (S6.p9.keep h.below) (S6.p10.keep h.below) (h.zn HF0.p2) (Yb S6.q11 h.below);clear h Hh;go_wp2_with fail;refine rgK hK ⟨S7.p4.facts.1,S7.p4.facts.2.1,S7.p4.facts.2.2.1,S7.p5.facts.1,S7.p5.facts.2.1,S7.p5.facts.2.2.1⟩ fun Hh=>?_;clear hK K;refine rgO 10 fun K hK=>?_;go_simp;go_at_call 159;refine (Bj S7.p1 HE.p0 (by have:=HE.out;omega)).mono ?_;rintro e w8 ⟨v,rfl,h,hb⟩;obtain ⟨Af,lf,cf,rfl⟩:=h.form;rw [HE.p4] at h;have S8:=RJ (S7.p0.keep hb) (S7.p1.keep hb) (S7.p2.keep hb) (S7.p3.keep hb) (S7.p4.keep hb) (S7.p5.keep hb) (S7.p6.keep hb) (S7.p7.keep hb) (S7.p8.keep hb) (S7.p9.keep hb) (S7.p10.keep hb) (S7.p11.keep hb) h (Yb S7.q12 hb);clear h hb Hh;go_wp2_with fail;refine rgK hK ⟨S8.p4.facts.1,S8.p4.facts.2.1,S8.p4.facts.2.2.1,S8.p5.facts.1,S8.p5.facts.2.1,S8.p5.facts.2.2.1⟩ fun Hh=>?_;clear hK K;refine rgO 12 fun K hK=>?_;go_simp;go_at_call 159;refine (Bj S8.p3 HE.p1 (by have:=HE.out;omega)).mono ?_;rintro e w9 ⟨v,rfl,h,hb⟩;obtain ⟨Ag,lg,cg,rfl⟩:=h.form;rw [HE.q5] at h;have S9:=Yh15 (S8.p0.keep hb) (S8.p1.keep hb) (S8.p2.keep hb) (S8.p3.keep hb) (S8.p4.keep hb) (S8.p5.keep hb) (S8.p6.keep hb) (S8.p7.keep hb) (S8.p8.keep hb) (S8.p9.keep hb) (S8.p10.keep hb) (S8.p11.keep hb) (S8.p12.keep hb) h (Yb S8.q13 hb);clear h hb Hh;go_wp2_with fail
 refine rgK hK ⟨S9.p4.facts.1,S9.p4.facts.2.1,S9.p4.facts.2.2.1,S9.p5.facts.1,S9.p5.facts.2.1,S9.p5.facts.2.2.1⟩ fun Hh=>?_;clear hK K;refine rgO 13 fun K hK=>?_;go_simp;go_at_call 165;refine (Dj S9.p12 S9.p13 (by have:=HE.out;omega) (by have:=HE.out;omega)).mono ?_;rintro e w10 ⟨v,rfl,h⟩;obtain ⟨Ah,lh,ch,rfl⟩:=h.form;have S10:=Yh16 (S9.p0.keep h.2) (S9.p1.keep h.2) (S9.p2.keep h.2) (S9.p3.keep h.2) (S9.p4.keep h.2) (S9.p5.keep h.2) (S9.p6.keep h.2) (S9.p7.keep h.2) (S9.p8.keep h.2) (S9.p9.keep h.2) (S9.p10.keep h.2) (S9.p11.keep h.2) (S9.p12.keep h.2) (S9.p13.keep h.2) (h.nm HF0.p3) (Yb S9.q14 h.2);clear h Hh;go_wp2_with fail;refine rgK hK ⟨S10.p4.facts.1,S10.p4.facts.2.1,S10.p4.facts.2.2.1,S10.p5.facts.1,S10.p5.facts.2.1,S10.p5.facts.2.2.1⟩ fun Hh=>?_;clear hK K;refine rgO 14 fun K hK=>?_;go_simp;go_at_call 163;refine (DO S10.p11 S10.p14 HF0.q4 (by have:=HE.out;omega) (by have:=HE.out;omega)).mono ?_;rintro e w11 ⟨v,rfl,h⟩;obtain ⟨pq,Aq,lq,cq,Av,lv,cv,rfl⟩:=h.qo.parts;have S11:=Yh17 (S10.p0.keep h.below) (S10.p1.keep h.below) (S10.p2.keep h.below) (S10.p3.keep h.below) (S10.p4.keep h.below) (S10.p5.keep h.below) (S10.p6.keep h.below) (S10.p7.keep h.below) (S10.p8.keep h.below) (S10.p9.keep h.below) (S10.p10.keep h.below) (S10.p11.keep h.below) (S10.p12.keep h.below) (S10.p13.keep h.below) (S10.p14.keep h.below) (h.from S10.q15) (Yb S10.q15 h.below);clear h Hh;go_wp2_with fail;refine rgK hK ⟨S11.p4.facts.1,S11.p4.facts.2.1,S11.p4.facts.2.2.1,S11.p5.facts.1,S11.p5.facts.2.1,S11.p5.facts.2.2.1⟩ fun Hh=>?_;clear hK K;obtain ⟨f0,f1,f2,f3,f4,f5⟩:=S11.p6.facts;refine rgO 15 fun K hK=>?_;go_simp;clear f0 f1 f2 f3 f4 f5;refine rgK hK ⟨AE _ S11.p4.facts.1 Yo,AE _ S11.p4.facts.2.1 Yo,AE _ S11.p4.facts.2.2.1 Yo,AE _ S11.p5.facts.1 Yo,AE _ S11.p5.facts.2.1 Yo,AE _ S11.p5.facts.2.2.1 Yo⟩ fun Hh=>?_;clear hK K;refine Yw ?_;clear Hh;go_wp2_with fail;refine BZ S11.p6 (fun W d0 d1 d2=>by simp [results,Tryz.results77,go_sem,d0,d1,d2];try rfl) rfl ?_;exact ⟨_,rfl,Qs.put3 BF S11.p6 Yo (HR.out _ _ S11.p15) _ _ _⟩
theorem Rk {w:World} {L M:Nat} {a u:Value} {q r:Rat} (ha:Qv w L a q) (hu:Qv w M u r) (h0:0<L) (h0':0<M) (h1:L<=17179869184) (h2:M<=17179869184):
 Calls Tryz.prog 78 #[a,u] w fun e w'=>∃ v,e=.returned v/\Qr w w' v (q*r):=by
 obtain ⟨z,m,⟨b,A,l,c,B,k,d,rfl,hz,hm⟩,rfl⟩:=ha;obtain ⟨z2,m2,⟨b2,A2,l2,c2,B2,k2,d2,rfl,hz2,hm2⟩,rfl⟩:=hu;obtain ⟨N,eN⟩:∃ N,den m=N:=⟨_,rfl⟩;obtain ⟨N2,eN2⟩:∃ N,den m2=N:=⟨_,rfl⟩;have hN:N≠0:=by rw [<- eN];exact BE m
 have hN2:N2≠0:=by rw [<- eN2];exact BE m2
 have hNl:N<WB ^ L:=by rw [<- eN];exact C8 hm.lt h0
 have hNl2:N2<WB ^ M:=by rw [<- eN2];exact C8 hm2.lt h0'
 rw [eN,eN2];rw [Rat.mkRat_mul_mkRat];have e2:∀ {a b:Nat},a<WB ^ L->b<WB ^ M->a*b<WB ^ (L+M):=fun ha hb=>by rw [UF];exact UG ha hb
 have b1:(z*z2).natAbs<WB ^ (L+M):=by rw [UL];exact e2 hz.lt hz2.lt
 have HF0:=Yh3 b1 (e2 hNl hNl2) (UX hN hN2);have HE:=Yh6 h0 h0' h1 h2 eN eN2;have HR:=Lib.hid (fun (W:World) (v:Value) (h:Qs w W v (qn (z*z2) (N*N2)) (qd (z*z2) (N*N2)))=>Jm h (UX hN hN2));have S0:=Yh5 hz hm hz2 hm2 (Below.refl w.heap.size w);clear hz hm hz2 hm2 h0 h0' h1 h2 hN hN2 hNl hNl2 eN eN2 e2 b1;go_enter Tryz.func78,Tryz.ntmps78;go_upto_region 1 with (fail)
 obtain ⟨hX,hY,hR,hb⟩:=Jk 36 w (.bool b) (.slice A l c) (.slice B k d) (.bool b2) (.slice A2 l2 c2) (.slice B2 k2 d2) (.bool false) (.slice none 0 0) (.slice none 0 0);have S1:=Yh8 (S0.p0.keep hb) (S0.p1.keep hb) (S0.p2.keep hb) (S0.p3.keep hb) hX hY hR (Yb S0.q4 hb);clear hb hX hY hR S0;generalize ((w.alloc _).alloc _).alloc _=W0 at S1 ⊢;go_upto_region 1 with (fail)
 have S2:=Yh8 (S1.p0.keep (Ai _ 1)) (S1.p1.keep (Ai _ 1)) (S1.p2.keep (Ai _ 1)) (S1.p3.keep (Ai _ 1)) (S1.p4.keep (Ai _ 1)) (S1.p5.keep (Ai _ 1)) (S1.p6.keep (Ai _ 1)) (Yb S1.q7 (Ai _ 1));refine wp_region_held_drew (S:=fun W=>Yc3 W w.heap.size (.bool b) (.slice A l c) (.slice B k d) (Ye3 W (w.heap.size+1) (.bool b2) (.slice A2 l2 c2) (.slice B2 k2 d2))) (by kernel_rfl) ⟨S2.p4.facts.1,S2.p4.facts.2.1,S2.p4.facts.2.2.1,S2.p5.facts.1,S2.p5.facts.2.1,S2.p5.facts.2.2.1⟩ (fun Hh=>?_);refine AL 6 [0,1,2,3,5,7] Hh fun K hK=>?_
 repeat refine rgA ?_
 refine hK _ _ ?_;clear hK K;refine rgO 4 fun K hK=>?_;go_simp;go_at_call 166;refine (RA S2.p0 S2.p2 (by have:=HE.out;omega) (by have:=HE.out;omega)).mono ?_;rintro e w3 ⟨v,rfl,h⟩;obtain ⟨pa,Aa,la,ca,rfl,-⟩:=h.parts;have S3:=Yh9 (S2.p0.keep h.below) (S2.p1.keep h.below) (S2.p2.keep h.below) (S2.p3.keep h.below) (S2.p4.keep h.below) (S2.p5.keep h.below) (S2.p6.keep h.below) (h.zn HF0.p0) (Yb S2.q7 h.below);clear h Hh;go_wp2_with fail;refine rgK hK ⟨S3.p4.facts.1,S3.p4.facts.2.1,S3.p4.facts.2.2.1,S3.p5.facts.1,S3.p5.facts.2.1,S3.p5.facts.2.2.1⟩ fun Hh=>?_;clear hK K;refine rgO 6 fun K hK=>?_;go_simp;go_at_call 159;refine (Bj S3.p1 HE.p0 (by have:=HE.out;omega)).mono ?_;rintro e w4 ⟨v,rfl,h,hb⟩;obtain ⟨Af,lf,cf,rfl⟩:=h.form;rw [HE.p4] at h;have S4:=F9 (S3.p0.keep hb) (S3.p1.keep hb) (S3.p2.keep hb) (S3.p3.keep hb) (S3.p4.keep hb) (S3.p5.keep hb) (S3.p6.keep hb) (S3.p7.keep hb) h (Yb S3.q8 hb);clear h hb Hh;go_wp2_with fail;refine rgK hK ⟨S4.p4.facts.1,S4.p4.facts.2.1,S4.p4.facts.2.2.1,S4.p5.facts.1,S4.p5.facts.2.1,S4.p5.facts.2.2.1⟩ fun Hh=>?_;clear hK K;refine rgO 8 fun K hK=>?_;go_simp;go_at_call 159;refine (Bj S4.p3 HE.p1 (by have:=HE.out;omega)).mono ?_;rintro e w5 ⟨v,rfl,h,hb⟩;obtain ⟨Ag,lg,cg,rfl⟩:=h.form;rw [HE.q5] at h;have S5:=JY (S4.p0.keep hb) (S4.p1.keep hb) (S4.p2.keep hb) (S4.p3.keep hb) (S4.p4.keep hb) (S4.p5.keep hb) (S4.p6.keep hb) (S4.p7.keep hb) (S4.p8.keep hb) h (Yb S4.q9 hb);clear h hb Hh;go_wp2_with fail;refine rgK hK ⟨S5.p4.facts.1,S5.p4.facts.2.1,S5.p4.facts.2.2.1,S5.p5.facts.1,S5.p5.facts.2.1,S5.p5.facts.2.2.1⟩ fun Hh=>?_;clear hK K;refine rgO 9 fun K hK=>?_;go_simp;go_at_call 165;refine (Dj S5.p8 S5.p9 (by have:=HE.out;omega) (by have:=HE.out;omega)).mono ?_;rintro e w6 ⟨v,rfl,h⟩;obtain ⟨Ah,lh,ch,rfl⟩:=h.form;have S6:=Kd (S5.p0.keep h.2) (S5.p1.keep h.2) (S5.p2.keep h.2) (S5.p3.keep h.2) (S5.p4.keep h.2) (S5.p5.keep h.2) (S5.p6.keep h.2) (S5.p7.keep h.2) (S5.p8.keep h.2) (S5.p9.keep h.2) (h.nm HF0.p1) (Yb S5.q10 h.2);clear h Hh;go_wp2_with fail;refine rgK hK ⟨S6.p4.facts.1,S6.p4.facts.2.1,S6.p4.facts.2.2.1,S6.p5.facts.1,S6.p5.facts.2.1,S6.p5.facts.2.2.1⟩ fun Hh=>?_;clear hK K;refine rgO 10 fun K hK=>?_;go_simp;go_at_call 163;refine (DO S6.p7 S6.p10 HF0.q2 (by have:=HE.out;omega) (by have:=HE.out;omega)).mono ?_;rintro e w7 ⟨v,rfl,h⟩;obtain ⟨pq,Aq,lq,cq,Av,lv,cv,rfl⟩:=h.qo.parts;have S7:=P6 (S6.p0.keep h.below) (S6.p1.keep h.below) (S6.p2.keep h.below) (S6.p3.keep h.below) (S6.p4.keep h.below) (S6.p5.keep h.below) (S6.p6.keep h.below) (S6.p7.keep h.below) (S6.p8.keep h.below) (S6.p9.keep h.below) (S6.p10.keep h.below) (h.from S6.q11) (Yb S6.q11 h.below);clear h Hh;go_wp2_with fail;refine rgK hK ⟨S7.p4.facts.1,S7.p4.facts.2.1,S7.p4.facts.2.2.1,S7.p5.facts.1,S7.p5.facts.2.1,S7.p5.facts.2.2.1⟩ fun Hh=>?_;clear hK K;obtain ⟨f0,f1,f2,f3,f4,f5⟩:=S7.p6.facts;refine rgO 11 fun K hK=>?_;go_simp;clear f0 f1 f2 f3 f4 f5;refine rgK hK ⟨AE _ S7.p4.facts.1 Yo,AE _ S7.p4.facts.2.1 Yo,AE _ S7.p4.facts.2.2.1 Yo,AE _ S7.p5.facts.1 Yo,AE _ S7.p5.facts.2.1 Yo,AE _ S7.p5.facts.2.2.1 Yo⟩ fun Hh=>?_;clear hK K;refine Yw ?_;clear Hh;go_wp2_with fail;refine BZ S7.p6 (fun W d0 d1 d2=>by simp [results,Tryz.results78,go_sem,d0,d1,d2];try rfl) rfl ?_;exact ⟨_,rfl,Qs.put3 BF S7.p6 Yo (HR.out _ _ S7.p11) _ _ _⟩
end
section
section
open Go Go.RowKit Go.Proofs Pl
def DJ (q r:Rat):Int:=if q<r then -1 else if q=r then 0 else 1
theorem Oq (q r:Rat):Bp (q.num*r.den) (r.num*q.den)=DJ q r:=by
 unfold Bp DJ;by_cases h:q<r
 · rw [if_pos h,if_pos ((Rat.lt_iff q r).1 h)]
 · rw [if_neg h,if_neg (fun h2=>h ((Rat.lt_iff q r).2 h2))];by_cases h2:q=r
   · rw [if_pos h2,if_pos (Rat.eq_iff_mul_eq_mul.1 h2)]
   · rw [if_neg h2,if_neg (fun h3=>h2 (Rat.eq_iff_mul_eq_mul.2 h3))]
theorem Lx (z:Int):qn z 1=z/\qd z 1=1:=by
 unfold qn qd;rw [Nat.gcd_one_right,Nat.div_one,EZ];exact ⟨rfl,rfl⟩
theorem Pe (z:Int):mkRat z 1=(z:Rat):=Rat.ext (by rw [Gt z (by decide),(Lx z).1];rfl) (by rw [IX z (by decide),(Lx z).2];rfl)
theorem Tp (w:World):Calls Tryz.prog 216 #[] w fun e w'=>∃ v,e=.returned v/\Rs w w' v 1:=by
 go_enter Tryz.func216,Tryz.ntmps216;go_wp2_with fail;go_ret;refine ⟨_,rfl,?_,Ya w _⟩;have e1:dg WB 1=[1]:=Sy Yd (by rw [Bz];decide);rw [e1];exact ⟨fun x hx=>by rw [Uj.1 hx,Bz];decide,rfl,.inr ⟨w.heap.size,1,#[.int .u64 1],rfl,TL _,heap_alloc_new _ _,TL _,Yd,rfl,rfl⟩⟩
theorem IC {w:World} {L:Nat} {a:Value} {z:Int} (ha:Zn w L a z) (hL:L<=68719476736):
 Calls Tryz.prog 160 #[a] w fun e w'=>∃ v,e=.returned v/\Qr w w' v (z:Rat):=by
 obtain ⟨b,s,n,rfl,hs,rfl⟩:=ha;have HL:=Lib.hid hL;have S0:=Yh2 hs (Below.refl w.heap.size w);clear hs hL;go_enter Tryz.func160,Tryz.ntmps160;go_upto_region 1 with (fail)
 have S1:=Yh4 (S0.p0.keep ((Yb (Ya w (.cells #[.bool b,s] 34)) (Ya _ (.cells #[.bool false,.slice none 0 0,.slice none 0 0] 36))))) ((Bx.new 34 w (.bool b) s).alloc (.cells #[.bool false,.slice none 0 0,.slice none 0 0] 36)) (B3.new1 36 w (.cells #[.bool b,s] 34) (.bool false) (.slice none 0 0) (.slice none 0 0)) (Yb S0.q1 ((Yb (Ya w (.cells #[.bool b,s] 34)) (Ya _ (.cells #[.bool false,.slice none 0 0,.slice none 0 0] 36)))));clear S0;generalize (w.alloc _).alloc _=W0 at S1 ⊢;obtain ⟨xa,xb,-,-⟩:=S1.p1.facts;go_wp2_with fail;refine (DQ b S1.p0 (by have:=HL.out;omega)).mono ?_;rintro e w2 ⟨v,rfl,h⟩;obtain ⟨pz,Az,lz,cz,rfl,-⟩:=h.parts;have S2:=Yh5 (S1.p0.keep h.below) (S1.p1.keep h.below) (S1.p2.keep h.below) (h.from S1.q3) (Yb S1.q3 h.below);clear h xa xb S1;go_wp2_with fail;refine (Tp _).mono ?_;rintro e w3 ⟨v,rfl,h⟩;obtain ⟨Ad,ld,cd,rfl⟩:=h.form;have S3:=Yh6 (S2.p0.keep h.2) (S2.p1.keep h.2) (S2.p2.keep h.2) (S2.p3.keep h.2) (h.out S2.q4) (Yb S2.q4 h.2);clear h  S2;obtain ⟨f0,f1,f2,f3,f4,f5⟩:=S3.p2.facts;go_wp2_with fail;refine BZ S3.p2 (fun W d0 d1 d2=>by simp [results,Tryz.results160,go_sem,d0,d1,d2];try rfl) rfl ?_;exact ⟨_,rfl,Qs.put3 BF S3.p2 Yo ((S3.p3).q S3.p4) _ _ _⟩
theorem Ed {w:World} {z:Int} (h:Bu z):
 Calls Tryz.prog 73 #[.int .i64 z] w fun e w'=>∃ v,e=.returned v/\Qr w w' v (z:Rat):=by
 have HL:=Lib.hid h;have hz:z.natAbs<WB ^ 1:=by unfold Bu at h;rw [Bz];omega
 have HZ:=Lib.hid hz;clear h hz;have S0:=Lib.hid (Below.refl w.heap.size w);go_enter Tryz.func73,Tryz.ntmps73;go_upto_region 1 with (fail)
 have S1:=Yh2 (B3.new 36 w (.bool false) (.slice none 0 0) (.slice none 0 0)) (Yb S0.out ((Ya w (.cells #[.bool false,.slice none 0 0,.slice none 0 0] 36))));clear S0;generalize w.alloc _=W0 at S1 ⊢;go_wp2_with fail;refine (Tk HL.out).mono ?_;rintro e w2 ⟨v,rfl,h⟩;have S2:=Yh3 (S1.p0.keep h.below) (h.zn HZ.out) (Yb S1.q1 h.below);clear h  S1;go_wp2_with fail;refine (IC S2.p1 Yd).mono ?_;rintro e w3 ⟨v,rfl,h⟩;obtain ⟨pq,Aq,lq,cq,Av,lv,cv,rfl⟩:=h.parts;have S3:=Yh4 (S2.p0.keep h.below) (S2.p1.keep h.below) (h.from S2.q2) (Yb S2.q2 h.below);clear h  S2;obtain ⟨f0,f1,f2,f3,f4,f5⟩:=S3.p0.facts;go_wp2_with fail;refine BZ S3.p0 (fun W d0 d1 d2=>by simp [results,Tryz.results73,go_sem,d0,d1,d2];try rfl) rfl ?_;exact ⟨_,rfl,Qs.put3 BF S3.p0 Yo S3.p2 _ _ _⟩
end
namespace I
section
open Go Go.RowKit Go.Proofs Pl
def Qe (w:World) (L:Nat) (v:Value) (q:Rat):Prop:=Qd w L v q.num q.den
section
variable {w w':World} {L M:Nat} {v:Value} {z:Int} {m:Nat} {q r:Rat}
theorem Qe.keep (h:Qe w L v q) (hb:Below w.heap.size w w'):Qe w' L v q:=Qd.keep h hb
theorem Qe.mono (h:Qe w L v q) (hL:L<=M):Qe w M v q:=by
 obtain ⟨s,d,e,h1,h2⟩:=h;exact ⟨s,d,e,h1.mono hL,h2.mono hL⟩
theorem PC (h:Qd w L v (qn z m) (qd z m)) (h0:m≠0):Qe w L v (mkRat z m):=by
 unfold Qe;rw [Gt z h0,IX z h0];exact h
theorem Qe.open (h:Qe w L v q):∃ p A l c B k d,v=.agg #[.bool p,.slice A l c,.slice B k d]/\Zd w L (.agg #[.bool p,.slice A l c]) q.num/\Dn w L (.slice B k d) q.den:=by
 obtain ⟨s,d,rfl,h1,h2⟩:=h;obtain ⟨A,c,rfl,-⟩:=id h1.1;obtain ⟨B,k,rfl,-⟩:=id h2.1;exact ⟨_,A,_,c,B,_,k,rfl,⟨_,rfl,h1⟩,h2⟩
theorem Qe.parts (h:Qe w L v q):∃ p A l c B k d,v=.agg #[.bool p,.slice A l c,.slice B k d]:=by
 obtain ⟨p,A,l,c,B,k,d,e,-⟩:=h.open;exact ⟨p,A,l,c,B,k,d,e⟩
end
theorem PX {w:World} {L:Nat} {a:Value} {q:Rat} (ha:Qv w L a q) (h1:0<L) (hL:L<=1048576):
 Calls Tryz.prog 37 #[a] w fun e w'=>∃ v,e=.returned v/\Qe w' (5*L) v q/\Yg w w':=by
 obtain ⟨b,xs,ds,h,hx,hd,rfl⟩:=ha.ql;refine (of_q h hx hd h1 hL).mono ?_;rintro e w' ⟨v,he,hv,hb⟩;exact ⟨v,he,PC hv (BE _),hb⟩
theorem IW {w:World} {z:Int} (h:Bu z):Calls Tryz.prog 57 #[.int .i64 z] w fun e w'=>∃ v,e=.returned v/\Qe w' 7 v (z:Rat)/\Below w.heap.size w w':=by
 rw [<- Pe z];have HL:=Lib.hid h;clear h;have S0:=Lib.hid (Below.refl w.heap.size w);go_enter Tryz.func57,Tryz.ntmps57;go_upto_region 1 with (fail)
 have S1:=Yh2 (B3.new 83 w (.bool false) (.slice none 0 0) (.slice none 0 0)) (Yb S0.out ((Ya w (.cells #[.bool false,.slice none 0 0,.slice none 0 0] 83))));clear S0;generalize w.alloc _=W0 at S1 ⊢;go_wp2_with fail;refine (Qg HL.out).mono ?_;rintro e w2 ⟨v,rfl,h,hb⟩;have S2:=Yh3 (S1.p0.keep hb) h (Yb S1.q1 hb);clear h hb  S1;go_wp2_with fail;refine (EM (S2.p1.keep (Ya _ _)) ((IZ _).mono Yd) Yd Yd Yd).mono ?_;rintro e w3 ⟨v,rfl,h,hb⟩;obtain ⟨pq,Aq,lq,cq,Av,lv,cv,rfl⟩:=h.parts;have S3:=Yh4 (S2.p0.keep ((Yb (Ya _ _) hb))) (S2.p1.keep ((Yb (Ya _ _) hb))) (PC h Yd) (Yb S2.q2 ((Yb (Ya _ _) hb)));clear h hb  S2;obtain ⟨f0,f1,f2,f3,f4,f5⟩:=S3.p0.facts;go_wp2_with fail;refine BZ S3.p0 (fun W d0 d1 d2=>by simp [results,Tryz.results57,go_sem,d0,d1,d2];try rfl) rfl ?_;exact ⟨_,rfl,Qd.put3 S3.p2 S3.p0 _ _ _,S3.p0.below S3.q3 Yo _ _ _⟩
theorem Gd {w:World} {L M:Nat} {a d:Value} {z:Int} {m:Nat} (ha:Zd w L a z) (hd:Dn w M d m) (h1:L<=1073741824) (h2:M<=1073741824):
 Calls Tryz.prog 108 #[a,d] w fun e w'=>∃ v,e=.returned v/\Zd w' (L+M) v (z*m)/\Yg w w':=by
 obtain ⟨p,A,l,c,rfl,ha2⟩:=ha.parts;obtain ⟨B,k,e,rfl⟩:=hd.form;have hz:Zd w M (.agg #[.bool false,.slice B k e]) (m:Int):=⟨_,by rw [decide_eq_false (by omega)],hd⟩;have HL:=Yh2 h1 h2;have S0:=Yh3 ha hz (Below.refl w.heap.size w);clear ha hd hz h1 h2 ha2;go_enter Tryz.func108,Tryz.ntmps108;go_upto_region 1 with (fail)
 have S1:=Yh5 (S0.p0.keep ((Yb (Ya w (.cells #[.bool p,.slice A l c] 81)) (Ya _ (.cells #[.bool false,.slice none 0 0] 81))))) (S0.p1.keep ((Yb (Ya w (.cells #[.bool p,.slice A l c] 81)) (Ya _ (.cells #[.bool false,.slice none 0 0] 81))))) ((Bx.new 81 w (.bool p) (.slice A l c)).alloc (.cells #[.bool false,.slice none 0 0] 81)) (Bx.new1 81 w (.cells #[.bool p,.slice A l c] 81) (.bool false) (.slice none 0 0)) (Yb S0.q2 ((Yb (Ya w (.cells #[.bool p,.slice A l c] 81)) (Ya _ (.cells #[.bool false,.slice none 0 0] 81)))));clear S0;generalize (w.alloc _).alloc _=W0 at S1 ⊢;obtain ⟨xa,xb,-,-⟩:=S1.p2.facts;go_wp2_with fail;refine (TF S1.p0 S1.p1 HL.p0 HL.q1).mono ?_;rintro e w2 ⟨v,rfl,h,hb⟩;obtain ⟨pq,Aq,lq,cq,rfl,-⟩:=h.parts;have S2:=Yh6 (S1.p0.keep hb) (S1.p1.keep hb) (S1.p2.keep hb) (S1.p3.keep hb) h (Yb S1.q4 hb);clear h hb xa xb S1;obtain ⟨f0,f1,f2,f3⟩:=S2.p3.facts;go_wp2_with fail;refine Bm S2.p3 (fun W d0 d1=>by simp [results,Tryz.results108,go_sem,d0,d1]) rfl ?_;exact ⟨_,rfl,S2.p4.put S2.p3 _ _,S2.p3.below S2.q5 Yo Yo _ _⟩
theorem Rw {w:World} {L M:Nat} {a u:Value} {q r:Rat} (ha:Qe w L a q) (hu:Qe w M u r) (h0:0<L) (h0':0<M) (h1:L<=268435456) (h2:M<=268435456):
 Calls Tryz.prog 58 #[a,u] w fun e w'=>∃ v,e=.returned v/\Qe w' (L+M+1) v (q+r)/\Yg w w':=by
 obtain ⟨p,A,l,c,B,k,d,rfl,hz,hd⟩:=ha.open;obtain ⟨p2,A2,l2,c2,B2,k2,d2,rfl,hz2,hd2⟩:=hu.open;rw [Rat.add_def'];have e2:∀ {a b:Nat},a<TB ^ L->b<TB ^ M->a*b<TB ^ (L+M):=fun ha hb=>by rw [UF];exact UG ha hb
 have b1:(q.num*(r.den:Int)).natAbs<TB ^ (L+M):=by rw [UL];exact e2 hz.lt hd2.2
 have b2:(r.num*(q.den:Int)).natAbs<TB ^ (L+M):=by rw [UL,TX];exact e2 hd.2 hz2.lt
 have hp:TB ^ (L+M)+TB ^ (L+M)<=TB ^ (L+M+1):=by rw [UD,<- Nat.mul_two];exact TY _ AH
 have b3:(q.num*(r.den:Int)+r.num*(q.den:Int)).natAbs<TB ^ (L+M+1):=Yo;have HF:=Lib.hid b3;clear e2 b1 b2 b3 hp;have HL:=Yh4 h0 h0' h1 h2;have S0:=Yh5 hz hd hz2 hd2 (Below.refl w.heap.size w);clear hz hd hz2 hd2 h0 h0' h1 h2 ha hu;go_enter Tryz.func58,Tryz.ntmps58;go_upto_region 1 with (fail)
 have S1:=Yh8 (S0.p0.keep ((Yb (Yb (Ya w (.cells #[.bool p,.slice A l c,.slice B k d] 83)) (Ya _ (.cells #[.bool p2,.slice A2 l2 c2,.slice B2 k2 d2] 83))) (Ya _ (.cells #[.bool false,.slice none 0 0,.slice none 0 0] 83))))) (S0.p1.keep ((Yb (Yb (Ya w (.cells #[.bool p,.slice A l c,.slice B k d] 83)) (Ya _ (.cells #[.bool p2,.slice A2 l2 c2,.slice B2 k2 d2] 83))) (Ya _ (.cells #[.bool false,.slice none 0 0,.slice none 0 0] 83))))) (S0.p2.keep ((Yb (Yb (Ya w (.cells #[.bool p,.slice A l c,.slice B k d] 83)) (Ya _ (.cells #[.bool p2,.slice A2 l2 c2,.slice B2 k2 d2] 83))) (Ya _ (.cells #[.bool false,.slice none 0 0,.slice none 0 0] 83))))) (S0.p3.keep ((Yb (Yb (Ya w (.cells #[.bool p,.slice A l c,.slice B k d] 83)) (Ya _ (.cells #[.bool p2,.slice A2 l2 c2,.slice B2 k2 d2] 83))) (Ya _ (.cells #[.bool false,.slice none 0 0,.slice none 0 0] 83))))) (((B3.new 83 w (.bool p) (.slice A l c) (.slice B k d)).alloc (.cells #[.bool p2,.slice A2 l2 c2,.slice B2 k2 d2] 83)).alloc (.cells #[.bool false,.slice none 0 0,.slice none 0 0] 83)) ((B3.new1 83 w (.cells #[.bool p,.slice A l c,.slice B k d] 83) (.bool p2) (.slice A2 l2 c2) (.slice B2 k2 d2)).alloc (.cells #[.bool false,.slice none 0 0,.slice none 0 0] 83)) (B3.new2 83 w (.cells #[.bool p,.slice A l c,.slice B k d] 83) (.cells #[.bool p2,.slice A2 l2 c2,.slice B2 k2 d2] 83) (.bool false) (.slice none 0 0) (.slice none 0 0)) (Yb S0.q4 ((Yb (Yb (Ya w (.cells #[.bool p,.slice A l c,.slice B k d] 83)) (Ya _ (.cells #[.bool p2,.slice A2 l2 c2,.slice B2 k2 d2] 83))) (Ya _ (.cells #[.bool false,.slice none 0 0,.slice none 0 0] 83)))));clear S0;generalize ((w.alloc _).alloc _).alloc _=W0 at S1 ⊢;go_upto_region 1 with (fail)
 have S2:=Yh8 (S1.p0.keep (Ai _ 1)) (S1.p1.keep (Ai _ 1)) (S1.p2.keep (Ai _ 1)) (S1.p3.keep (Ai _ 1)) (S1.p4.keep (Ai _ 1)) (S1.p5.keep (Ai _ 1)) (S1.p6.keep (Ai _ 1)) (Yb S1.q7 (Ai _ 1));refine wp_region_held_drew (S:=fun W=>Yc3 W w.heap.size (.bool p) (.slice A l c) (.slice B k d) (Ye3 W (w.heap.size+1) (.bool p2) (.slice A2 l2 c2) (.slice B2 k2 d2))) (by kernel_rfl) ⟨S2.p4.facts.1,S2.p4.facts.2.1,S2.p4.facts.2.2.1,S2.p5.facts.1,S2.p5.facts.2.1,S2.p5.facts.2.2.1⟩ (fun Hh=>?_);refine AL 12 [0,1,2,3,5,6,7,8,11,12,13,14] Hh fun K hK=>?_
 repeat refine rgA ?_
 refine hK _ _ ?_;clear hK K;refine rgO 4 fun K hK=>?_;go_simp;go_at_call 108;refine (Gd S2.p0 S2.p3 (by have:=HL.out;omega) (by have:=HL.out;omega)).mono ?_;rintro e w3 ⟨v,rfl,h,hb⟩;obtain ⟨pf,Af,lf,cf,rfl,-⟩:=h.parts;have S3:=Yh9 (S2.p0.keep hb) (S2.p1.keep hb) (S2.p2.keep hb) (S2.p3.keep hb) (S2.p4.keep hb) (S2.p5.keep hb) (S2.p6.keep hb) h (Yb S2.q7 hb);clear h hb Hh;go_wp2_with fail;refine rgK hK ⟨S3.p4.facts.1,S3.p4.facts.2.1,S3.p4.facts.2.2.1,S3.p5.facts.1,S3.p5.facts.2.1,S3.p5.facts.2.2.1⟩ fun Hh=>?_;clear hK K;refine rgO 9 fun K hK=>?_;go_simp;go_at_call 108;refine (Gd S3.p2 S3.p1 (by have:=HL.out;omega) (by have:=HL.out;omega)).mono ?_;rintro e w4 ⟨v,rfl,h,hb⟩;obtain ⟨pg,Ag,lg,cg,rfl,-⟩:=h.parts;have S4:=F9 (S3.p0.keep hb) (S3.p1.keep hb) (S3.p2.keep hb) (S3.p3.keep hb) (S3.p4.keep hb) (S3.p5.keep hb) (S3.p6.keep hb) (S3.p7.keep hb) h (Yb S3.q8 hb);clear h hb Hh;go_wp2_with fail;refine rgK hK ⟨S4.p4.facts.1,S4.p4.facts.2.1,S4.p4.facts.2.2.1,S4.p5.facts.1,S4.p5.facts.2.1,S4.p5.facts.2.2.1⟩ fun Hh=>?_;clear hK K;refine rgO 10 fun K hK=>?_;go_simp;go_at_call 151;refine (RE S4.p7 S4.p8 (by have:=HL.out;omega) (by have:=HL.out;omega)).mono ?_;rintro e w5 ⟨v,rfl,h,hb⟩;obtain ⟨ps,As,ls,cs,rfl,-⟩:=h.parts;have S5:=JY (S4.p0.keep hb) (S4.p1.keep hb) (S4.p2.keep hb) (S4.p3.keep hb) (S4.p4.keep hb) (S4.p5.keep hb) (S4.p6.keep hb) (S4.p7.keep hb) (S4.p8.keep hb) (Zd.thin h HF.out) (Yb S4.q9 hb);clear h hb Hh;go_wp2_with fail;refine rgK hK ⟨S5.p4.facts.1,S5.p4.facts.2.1,S5.p4.facts.2.2.1,S5.p5.facts.1,S5.p5.facts.2.1,S5.p5.facts.2.2.1⟩ fun Hh=>?_;clear hK K;refine rgO 15 fun K hK=>?_;go_simp;go_at_call 117;refine (N5 S5.p1 S5.p3 (by have:=HL.out;omega) (by have:=HL.out;omega)).mono ?_;rintro e w6 ⟨v,rfl,h,hb⟩;obtain ⟨Am,lm,cm,rfl⟩:=h.form;have S6:=Kd (S5.p0.keep hb) (S5.p1.keep hb) (S5.p2.keep hb) (S5.p3.keep hb) (S5.p4.keep hb) (S5.p5.keep hb) (S5.p6.keep hb) (S5.p7.keep hb) (S5.p8.keep hb) (S5.p9.keep hb) h (Yb S5.q10 hb);clear h hb Hh;go_wp2_with fail;refine rgK hK ⟨S6.p4.facts.1,S6.p4.facts.2.1,S6.p4.facts.2.2.1,S6.p5.facts.1,S6.p5.facts.2.1,S6.p5.facts.2.2.1⟩ fun Hh=>?_;clear hK K;refine rgO 16 fun K hK=>?_;go_simp;go_at_call 110;refine (EM S6.p9 (S6.p10.mono Yo) (UX q.den_nz r.den_nz) (by have:=HL.out;omega) (by have:=HL.out;omega)).mono ?_;rintro e w7 ⟨v,rfl,h,hb⟩;obtain ⟨pq,Aq,lq,cq,Av,lv,cv,rfl⟩:=h.parts;have S7:=P6 (S6.p0.keep hb) (S6.p1.keep hb) (S6.p2.keep hb) (S6.p3.keep hb) (S6.p4.keep hb) (S6.p5.keep hb) (S6.p6.keep hb) (S6.p7.keep hb) (S6.p8.keep hb) (S6.p9.keep hb) (S6.p10.keep hb) (PC h (UX q.den_nz r.den_nz)) (Yb S6.q11 hb);clear h hb Hh;go_wp2_with fail;refine rgK hK ⟨S7.p4.facts.1,S7.p4.facts.2.1,S7.p4.facts.2.2.1,S7.p5.facts.1,S7.p5.facts.2.1,S7.p5.facts.2.2.1⟩ fun Hh=>?_;clear hK K;obtain ⟨f0,f1,f2,f3,f4,f5⟩:=S7.p6.facts;refine rgO 17 fun K hK=>?_;go_simp;clear f0 f1 f2 f3 f4 f5;refine rgK hK ⟨AE _ S7.p4.facts.1 Yo,AE _ S7.p4.facts.2.1 Yo,AE _ S7.p4.facts.2.2.1 Yo,AE _ S7.p5.facts.1 Yo,AE _ S7.p5.facts.2.1 Yo,AE _ S7.p5.facts.2.2.1 Yo⟩ fun Hh=>?_;clear hK K;refine Yw ?_;clear Hh;go_wp2_with fail;refine BZ S7.p6 (fun W d0 d1 d2=>by simp [results,Tryz.results58,go_sem,d0,d1,d2];try rfl) rfl ?_;exact ⟨_,rfl,Qd.put3 S7.p11 S7.p6 _ _ _,S7.p6.below S7.q12 Yo _ _ _⟩
theorem Tu {w:World} {L M:Nat} {a u:Value} {q r:Rat} (ha:Qe w L a q) (hu:Qe w M u r) (h0:0<L) (h0':0<M) (h1:L<=268435456) (h2:M<=268435456):
 Calls Tryz.prog 36 #[a,u] w fun e w'=>e=.returned (.int .i64 (DJ q r))/\Yg w w':=by
 obtain ⟨p,A,l,c,B,k,d,rfl,hz,hd⟩:=ha.open;obtain ⟨p2,A2,l2,c2,B2,k2,d2,rfl,hz2,hd2⟩:=hu.open;rw [<- Oq q r];have HL:=Yh4 h0 h0' h1 h2;have S0:=Yh5 hz hd hz2 hd2 (Below.refl w.heap.size w);clear hz hd hz2 hd2 h0 h0' h1 h2 ha hu;go_enter Tryz.func36,Tryz.ntmps36;go_upto_region 1 with (fail)
 have S1:=Yh7 (S0.p0.keep ((Yb (Ya w (.cells #[.bool p,.slice A l c,.slice B k d] 83)) (Ya _ (.cells #[.bool p2,.slice A2 l2 c2,.slice B2 k2 d2] 83))))) (S0.p1.keep ((Yb (Ya w (.cells #[.bool p,.slice A l c,.slice B k d] 83)) (Ya _ (.cells #[.bool p2,.slice A2 l2 c2,.slice B2 k2 d2] 83))))) (S0.p2.keep ((Yb (Ya w (.cells #[.bool p,.slice A l c,.slice B k d] 83)) (Ya _ (.cells #[.bool p2,.slice A2 l2 c2,.slice B2 k2 d2] 83))))) (S0.p3.keep ((Yb (Ya w (.cells #[.bool p,.slice A l c,.slice B k d] 83)) (Ya _ (.cells #[.bool p2,.slice A2 l2 c2,.slice B2 k2 d2] 83))))) ((B3.new 83 w (.bool p) (.slice A l c) (.slice B k d)).alloc (.cells #[.bool p2,.slice A2 l2 c2,.slice B2 k2 d2] 83)) (B3.new1 83 w (.cells #[.bool p,.slice A l c,.slice B k d] 83) (.bool p2) (.slice A2 l2 c2) (.slice B2 k2 d2)) (Yb S0.q4 ((Yb (Ya w (.cells #[.bool p,.slice A l c,.slice B k d] 83)) (Ya _ (.cells #[.bool p2,.slice A2 l2 c2,.slice B2 k2 d2] 83)))));clear S0;generalize (w.alloc _).alloc _=W0 at S1 ⊢;go_upto_region 1 with (fail)
 have S2:=Yh7 (S1.p0.keep (Ai _ 1)) (S1.p1.keep (Ai _ 1)) (S1.p2.keep (Ai _ 1)) (S1.p3.keep (Ai _ 1)) (S1.p4.keep (Ai _ 1)) (S1.p5.keep (Ai _ 1)) (Yb S1.q6 (Ai _ 1));refine wp_region_held_drew (S:=fun W=>Yc3 W w.heap.size (.bool p) (.slice A l c) (.slice B k d) (Ye3 W (w.heap.size+1) (.bool p2) (.slice A2 l2 c2) (.slice B2 k2 d2))) (by kernel_rfl) ⟨S2.p4.facts.1,S2.p4.facts.2.1,S2.p4.facts.2.2.1,S2.p5.facts.1,S2.p5.facts.2.1,S2.p5.facts.2.2.1⟩ (fun Hh=>?_);refine AL 8 [0,1,2,3,5,6,7,8] Hh fun K hK=>?_
 repeat refine rgA ?_
 refine hK _ _ ?_;clear hK K;refine rgO 4 fun K hK=>?_;go_simp;go_at_call 108;refine (Gd S2.p0 S2.p3 (by have:=HL.out;omega) (by have:=HL.out;omega)).mono ?_;rintro e w3 ⟨v,rfl,h,hb⟩;obtain ⟨pf,Af,lf,cf,rfl,-⟩:=h.parts;have S3:=Yh8 (S2.p0.keep hb) (S2.p1.keep hb) (S2.p2.keep hb) (S2.p3.keep hb) (S2.p4.keep hb) (S2.p5.keep hb) h (Yb S2.q6 hb);clear h hb Hh;go_wp2_with fail;refine rgK hK ⟨S3.p4.facts.1,S3.p4.facts.2.1,S3.p4.facts.2.2.1,S3.p5.facts.1,S3.p5.facts.2.1,S3.p5.facts.2.2.1⟩ fun Hh=>?_;clear hK K;refine rgO 9 fun K hK=>?_;go_simp;go_at_call 108;refine (Gd S3.p2 S3.p1 (by have:=HL.out;omega) (by have:=HL.out;omega)).mono ?_;rintro e w4 ⟨v,rfl,h,hb⟩;obtain ⟨pg,Ag,lg,cg,rfl,-⟩:=h.parts;have S4:=Yh9 (S3.p0.keep hb) (S3.p1.keep hb) (S3.p2.keep hb) (S3.p3.keep hb) (S3.p4.keep hb) (S3.p5.keep hb) (S3.p6.keep hb) h (Yb S3.q7 hb);clear h hb Hh;go_wp2_with fail;refine rgK hK ⟨S4.p4.facts.1,S4.p4.facts.2.1,S4.p4.facts.2.2.1,S4.p5.facts.1,S4.p5.facts.2.1,S4.p5.facts.2.2.1⟩ fun Hh=>?_;clear hK K;refine rgO 10 fun K hK=>?_;go_simp;go_at_call 107;refine (Te S4.p6 S4.p7 (by have:=HL.out;omega) (by have:=HL.out;omega)).mono ?_;rintro e w5 ⟨rfl,hb⟩;have S5:=Yh9 (S4.p0.keep hb) (S4.p1.keep hb) (S4.p2.keep hb) (S4.p3.keep hb) (S4.p4.keep hb) (S4.p5.keep hb) (S4.p6.keep hb) (S4.p7.keep hb) (Yb S4.q8 hb);clear hb Hh;go_wp2_with fail;refine rgK hK ⟨S5.p4.facts.1,S5.p4.facts.2.1,S5.p4.facts.2.2.1,S5.p5.facts.1,S5.p5.facts.2.1,S5.p5.facts.2.2.1⟩ fun Hh=>?_;clear hK K;refine rgT 11 Hh ?_;refine Yw ?_;clear Hh;go_wp2_with fail;go_ret;exact ⟨rfl,S5.q8⟩
theorem SC {w:World} {L:Nat} {a:Value} {q:Rat} (ha:Qe w L a q):
 Calls Tryz.prog 43 #[a] w fun e w'=>e=.returned (.int .i64 (ET q))/\Yg w w':=by
 obtain ⟨p,A,l,c,B,k,d,rfl,hz,hd⟩:=ha.open;have S0:=Yh2 hz (Below.refl w.heap.size w);clear hz hd ha;go_enter Tryz.func43,Tryz.ntmps43;go_upto_region 1 with (fail)
 have S1:=Yh3 (S0.p0.keep ((Ya w (.cells #[.bool p,.slice A l c,.slice B k d] 83)))) (B3.new 83 w (.bool p) (.slice A l c) (.slice B k d)) (Yb S0.q1 ((Ya w (.cells #[.bool p,.slice A l c,.slice B k d] 83))));clear S0;generalize w.alloc _=W0 at S1 ⊢;obtain ⟨xa,xb,xc,-,-,-⟩:=S1.p1.facts;go_wp2_with fail;refine (Pb S1.p0).mono ?_;rintro e w2 ⟨rfl,hb⟩;have S2:=Yh3 (S1.p0.keep hb) (S1.p1.keep hb) (Yb S1.q2 hb);clear hb xa xb xc S1;go_wp2_with fail;go_ret;exact ⟨rfl,S2.q2⟩
end
end I
end
section
open Go Go.RowKit Go.Proofs Pl
structure Tm where
 c:Int
 b:Bool
 A:Option Addr
 l:Nat
 k:Nat
 B:Option Addr
 m:Nat
 d:Nat
 q:Rat
def Tm.num (x:Tm):Value:=.agg #[.bool x.b,.slice x.A x.l x.k,.slice x.B x.m x.d]
def Tm.t (x:Tm):Int × Rat:=(x.c,x.q)
def AS:List Tm->List Value
 | []=>[]
 | x::xs=>.int .i64 x.c::.bool x.b::.slice x.A x.l x.k::.slice x.B x.m x.d::AS xs
theorem Hz (a b:List Tm):AS (a++b)=AS a++AS b:=by
 induction a with
 | nil=>rfl
 | cons x a ih=>simp only [Vl,AS,ih]
theorem D1 (xs:List Tm):(AS xs).length=xs.length*4:=by
 induction xs with
 | nil=>rfl
 | cons x xs ih=>simp only [AS,U7,ih];omega
theorem JO {xs:List Tm} {i:Nat} {x:Tm} (h:xs[i]?=some x):
 (AS xs)[i*4]?=some (.int .i64 x.c)/\(AS xs)[i*4+1]?=some (.bool x.b)/\(AS xs)[i*4+2]?=some (.slice x.A x.l x.k)/\(AS xs)[i*4+3]?=some (.slice x.B x.m x.d):=by
 induction xs generalizing i with
 | nil=>simp at h
 | cons y xs ih=>
  cases i with
  | zero=>
   obtain rfl:y=x:=by simpa using h
   exact ⟨rfl,rfl,rfl,rfl⟩
  | succ i=>
   obtain ⟨a,b,c,d⟩:=ih (i:=i) (by simpa using h);rw [show (i+1)*4=i*4+4 from by omega];exact ⟨a,b,c,d⟩
def TRd (w:World) (A:Option Addr) (us:List Value):Prop:=us=[]∨∃ g o,A=some ⟨g,o,none⟩/\g<w.heap.size/\∀ (i:Nat) (u:Value),us[i]?=some u->w.cell? ⟨g,o+i,none⟩=some u
theorem TRd.keep {w w':World} {A:Option Addr} {us:List Value} (h:TRd w A us) (hb:Below w.heap.size w w'):TRd w' A us:=by
 rcases h with h | ⟨g,o,e,hg,hc⟩
 · exact .inl h
 · exact .inr ⟨g,o,e,TV hg hb.size,fun i u hi=>(hb.cell (p:=⟨g,o+i,none⟩) hg).trans (hc i u hi)⟩
def Tl (w:World) (L:Nat) (v:Value) (xs:List Tm):Prop:=
 ∃ A cap,v=.slice A xs.length cap/\xs.length<=cap/\cap<=maxLen/\(A=none->cap=0)/\TRd w A (AS xs)/\∀ x∈xs,Qv w L x.num x.q
def Vt (w:World) (L:Nat) (v:Value) (l:Tms):Prop:=∃ xs,Tl w L v xs/\xs.map Tm.t=l
section
variable {w w' W:World} {L M:Nat} {v:Value} {xs:List Tm} {l:Tms}
theorem Tl.keep (h:Tl w L v xs) (hb:Below w.heap.size w w'):Tl w' L v xs:=by
 obtain ⟨A,cap,e,h1,h2,h3,h4,h5⟩:=h;exact ⟨A,cap,e,h1,h2,h3,h4.keep hb,fun x hx=>(h5 x hx).keep hb⟩
theorem Vt.keep (h:Vt w L v l) (hb:Below w.heap.size w w'):Vt w' L v l:=by
 obtain ⟨xs,h1,h2⟩:=h;exact ⟨xs,h1.keep hb,h2⟩
theorem TRd.at_ {A:Option Addr} {i:Nat} {x:Tm} (h:TRd w A (AS xs)) (hi:xs[i]?=some x):
 ∃ g o,A=some ⟨g,o,none⟩/\g<w.heap.size/\w.cell? ⟨g,o+i*4,none⟩=some (.int .i64 x.c)/\w.cell? ⟨g,o+i*4+1,none⟩=some (.bool x.b)/\
  w.cell? ⟨g,o+i*4+2,none⟩=some (.slice x.A x.l x.k)/\w.cell? ⟨g,o+i*4+3,none⟩=some (.slice x.B x.m x.d):=by
 obtain ⟨a,b,c,d⟩:=JO hi
 rcases h with h | ⟨g,o,e,hg,hc⟩
 · rw [h] at a;simp at a
 · exact ⟨g,o,e,hg,hc _ _ a,hc _ _ b,hc _ _ c,hc _ _ d⟩
end
def B4 (t:TypeId) (w:World) (g:Nat) (a b c d:Value):Prop:=w.heap[g]?=some (.cells #[a,b,c,d] t (0,0))
section
variable {t:TypeId} {w w':World} {g:Nat} {a b c d:Value}
theorem B4.lt (h:B4 t w g a b c d):g<w.heap.size:=CK h
theorem B4.facts (h:B4 t w g a b c d):Ye4 w g a b c d:=by
 have h':w.heap[g]?=_:=h;refine ⟨?_,?_,?_,?_⟩<;>simp [World.cell?,h']
theorem B4.new (t:TypeId) (w:World) (a b c d:Value):B4 t (w.alloc (.cells #[a,b,c,d] t)) w.heap.size a b c d:=World.alloc_heap_new w _
theorem B4.keep (h:B4 t w g a b c d) (hb:Below w.heap.size w w'):B4 t w' g a b c d:=(hb.block g h.lt).trans h
end
theorem Lv:Bu 0:=by unfold Bu;omega
def Bh (l:Tms) (c:Int):Rat:=if 0<=c then AF l c else 0
theorem Pg {L:Nat} {l:Tms} (h:∀ t∈l,Sz L t.2) (c:Int):Sz (1+l.length*(L+1)) (AF l c):=by
 induction l with
 | nil=>exact C9.mono Yo
 | cons t l ih=>
  obtain ⟨k,q⟩:=t;have h1:=ih fun t ht=>h t (by simp [ht]);have h2:=h (k,q) (by simp)
  have e:1+((k,q)::l).length*(L+1)=L+(1+l.length*(L+1))+1:=by
   rw [U7,Vz];omega
  rw [e];simp only [AF]
  split
  · exact h2.add h1
  · rw [Vn];exact h1.mono Yo
theorem I2 {L:Nat} {l:Tms} (h:∀ t∈l,Sz L t.2) (c:Int):Sz (1+l.length*(L+1)) (Bh l c):=by
 unfold Bh
 split
 · exact Pg h c
 · exact C9.mono Yo
theorem JW {l:Tms} {i:Nat} {t:Int × Rat} (h:l[i]?=some t) (c:Int):Bh (l.take (i+1)) c=if t.1=c/\0<=c then Bh (l.take i) c+t.2 else Bh (l.take i) c:=by
 obtain ⟨hi,rfl⟩:=List.getElem?_eq_some_iff.1 h;rw [Uc hi];unfold Bh;by_cases h0:0<=c
 · rw [if_pos h0,if_pos h0,Hv];by_cases hc:l[i].1=c
   · rw [if_pos ⟨hc,h0⟩];simp [AF,hc,VN]
   · rw [if_neg (fun h=>hc h.1)];simp [AF,hc,VN]
 · rw [if_neg h0,if_neg h0,if_neg (fun h=>h0 h.2)]
end
end Go.Proofs.YtlblnmmfphiobaaGreat
