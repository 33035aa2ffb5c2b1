import Derived.Test.YtlblnmmfphiobaaGreatPNA9
import Derived.Lib.SmallJoins
set_option maxRecDepth 100000
set_option maxHeartbeats 8000000
set_option linter.unusedVariables false
set_option linter.unusedSimpArgs false
namespace Go.Proofs.YtlblnmmfphiobaaGreat
section
open Go Go.RowKit Go.Proofs Pl
theorem PN {w:World} {L:Nat} {a:Value} {x o:Int} (ho:BH x=o) (ha:Zn w L a x) (hL:L<=274877906944):
 Calls Tryz.prog 162 #[a] w fun e w'=>e=.returned (.int .i64 o)/\Yg w w':=by
 subst ho;exact Is ha hL
end
section
open Go Go.RowKit Go.Proofs Pl
def B3 (t:TypeId) (w:World) (g:Nat) (a b c:Value):Prop:=w.heap[g]?=some (.cells #[a,b,c] t (0,0))
section
variable {t t':TypeId} {w w':World} {g k:Nat} {a b c x y z u v:Value}
theorem B3.lt (h:B3 t w g a b c):g<w.heap.size:=CK h
theorem B3.facts (h:B3 t w g a b c):Yc3 w g a b c (w.frozen? ⟨g,0,none⟩=false/\w.frozen? ⟨g,1,none⟩=false/\w.frozen? ⟨g,2,none⟩=false):=by
 have h':w.heap[g]?=_:=h;refine ⟨?_,?_,?_,?_,?_,?_⟩<;>simp [World.cell?,World.frozen?,h']
theorem B3.new (t:TypeId) (w:World) (a b c:Value):B3 t (w.alloc (.cells #[a,b,c] t)) w.heap.size a b c:=World.alloc_heap_new w _
theorem B3.new1 (t:TypeId) (w:World) (o:Obj) (a b c:Value):B3 t ((w.alloc o).alloc (.cells #[a,b,c] t)) (w.heap.size+1) a b c:=by
 have:=B3.new t (w.alloc o) a b c
 rwa [World.size_alloc] at this
theorem B3.new2 (t:TypeId) (w:World) (o o':Obj) (a b c:Value):B3 t (((w.alloc o).alloc o').alloc (.cells #[a,b,c] t)) (w.heap.size+1+1) a b c:=by
 have:=B3.new t ((w.alloc o).alloc o') a b c
 rwa [World.size_alloc,World.size_alloc] at this
theorem B3.keep (h:B3 t w g a b c) (hb:Below w.heap.size w w'):B3 t w' g a b c:=(hb.block g h.lt).trans h
theorem B3.alloc (h:B3 t w g a b c) (o:Obj):B3 t (w.alloc o) g a b c:=(Below.heap_alloc w o g h.lt).trans h
theorem B3.other (h:B3 t w g a b c) {p:Addr} (hp:p.block≠g) (u:Value):B3 t (w.setCell p u) g a b c:=(Below.heap_setCell w p u g (fun e=>hp e.symm)).trans h
theorem B3.other3 (h:B3 t w g a b c) (hp:k≠g) (u v x:Value):B3 t (((w.setCell ⟨k,0,none⟩ u).setCell ⟨k,1,none⟩ v).setCell ⟨k,2,none⟩ x) g a b c:=((h.other hp u).other hp v).other hp x
theorem B3.set0 (h:B3 t w g a b c) (x:Value):B3 t (w.setCell ⟨g,0,none⟩ x) g x b c:=by
 obtain ⟨hlt,hk⟩:=Array.getElem?_eq_some_iff.1 h;show (w.heap.modify g _)[g]?=_;rw [Array.getElem?_eq_getElem (by rw [VT];exact hlt),Vo,hk];rfl
theorem B3.set1 (h:B3 t w g a b c) (x:Value):B3 t (w.setCell ⟨g,1,none⟩ x) g a x c:=by
 obtain ⟨hlt,hk⟩:=Array.getElem?_eq_some_iff.1 h;show (w.heap.modify g _)[g]?=_;rw [Array.getElem?_eq_getElem (by rw [VT];exact hlt),Vo,hk];rfl
theorem B3.set2 (h:B3 t w g a b c) (x:Value):B3 t (w.setCell ⟨g,2,none⟩ x) g a b x:=by
 obtain ⟨hlt,hk⟩:=Array.getElem?_eq_some_iff.1 h;show (w.heap.modify g _)[g]?=_;rw [Array.getElem?_eq_getElem (by rw [VT];exact hlt),Vo,hk];rfl
theorem B3.set (h:B3 t w g a b c) (x y z:Value):B3 t (((w.setCell ⟨g,0,none⟩ x).setCell ⟨g,1,none⟩ y).setCell ⟨g,2,none⟩ z) g x y z:=((h.set0 x).set1 y).set2 z
theorem B3.keepT (h:B3 t w g a b c) {e:TypeId} (hne:t≠e) (x y z:Value):Ak e w (((w.setCell ⟨g,0,none⟩ x).setCell ⟨g,1,none⟩ y).setCell ⟨g,2,none⟩ z):=
 ((Ak.setCell h hne rfl x).trans (Ak.setCell (h.set0 x) hne rfl y)).trans (Ak.setCell ((h.set0 x).set1 y) hne rfl z)
theorem B3.below (h:B3 t w' g a b c) {B:Nat} (hb:Below B w w') (hg:B<=g) (x y z:Value):Below B w (((w'.setCell ⟨g,0,none⟩ x).setCell ⟨g,1,none⟩ y).setCell ⟨g,2,none⟩ z):=
 ((hb.setCell hg x).setCell hg y).setCell hg z
theorem BZ {P:Program} {fn:Func} {R:Ending->World->Prop} {act:Act} {V:Value} (X:B3 t w g a b c)
 (hr:∀ W:World,W.cell? ⟨g,0,none⟩=some x->W.cell? ⟨g,1,none⟩=some y->W.cell? ⟨g,2,none⟩=some z->(results fn act.tmps).run P W=.ok V W) (hd:act.defers=[])
 (hR:R (.returned V) (((w.setCell ⟨g,0,none⟩ x).setCell ⟨g,1,none⟩ y).setCell ⟨g,2,none⟩ z)):bodyPost P fn R .ret act (((w.setCell ⟨g,0,none⟩ x).setCell ⟨g,1,none⟩ y).setCell ⟨g,2,none⟩ z):=
 bodyPost_ret (hr _ (X.set x y z).facts.1 (X.set x y z).facts.2.1 (X.set x y z).facts.2.2.1) hd hR
end
section
variable {t:TypeId} {w:World} {g:Nat} {p0:Bool} {A0 A1:Option Addr} {l0 c0 l1 c1:Nat}
theorem B3.int_cell (X:B3 t w g (.bool p0) (.slice A0 l0 c0) (.slice A1 l1 c1)) {b o:Nat} {k:IntKind} {n:Int} (h:w.cell? ⟨b,o,none⟩=some (.int k n)) (x y z:Value):
 (((w.setCell ⟨g,0,none⟩ x).setCell ⟨g,1,none⟩ y).setCell ⟨g,2,none⟩ z).cell? ⟨b,o,none⟩=some (.int k n):=by
 have hne:b≠g:=by
  rintro rfl;have X':w.heap[b]?=_:=X
  match o,h with
  | 0,h=>simp [World.cell?,X'] at h
  | 1,h=>simp [World.cell?,X'] at h
  | 2,h=>simp [World.cell?,X'] at h
  | o+3,h=>simp [World.cell?,X'] at h
 have e:(((w.setCell ⟨g,0,none⟩ x).setCell ⟨g,1,none⟩ y).setCell ⟨g,2,none⟩ z).heap[b]?=w.heap[b]?:=
  ((Below.heap_setCell _ _ _ _ (by exact hne)).trans (Below.heap_setCell _ _ _ _ (by exact hne))).trans (Below.heap_setCell _ _ _ _ (by exact hne))
 exact (World.cell?_of_block (w:=w) (a:=⟨b,o,none⟩) e).trans h
variable {xs:List Nat} {A:Option Addr} {s v:Value} {L n:Nat} {q:Int}
theorem Rd.put3 (h:Rd w A xs) (X:B3 t w g (.bool p0) (.slice A0 l0 c0) (.slice A1 l1 c1)) (x y z:Value):Rd (((w.setCell ⟨g,0,none⟩ x).setCell ⟨g,1,none⟩ y).setCell ⟨g,2,none⟩ z) A xs:=by
 rcases h with ⟨h1,h2⟩
 refine ⟨h1,?_⟩
 rcases h2 with h2 | ⟨b,o,h3,h4⟩
 · exact .inl h2
 · exact .inr ⟨b,o,h3,fun j k hj=>X.int_cell (h4 j k hj) x y z⟩
theorem Nl.put3 (h:Nl w s xs) (X:B3 t w g (.bool p0) (.slice A0 l0 c0) (.slice A1 l1 c1)) (x y z:Value):Nl (((w.setCell ⟨g,0,none⟩ x).setCell ⟨g,1,none⟩ y).setCell ⟨g,2,none⟩ z) s xs:=by
 obtain ⟨A,c,h1,h2,h3⟩:=h;exact ⟨A,c,h1,h2.put3 X x y z,h3⟩
namespace I
theorem Rd.put3 (h:Rd w A xs) (X:B3 t w g (.bool p0) (.slice A0 l0 c0) (.slice A1 l1 c1)) (x y z:Value):Rd (((w.setCell ⟨g,0,none⟩ x).setCell ⟨g,1,none⟩ y).setCell ⟨g,2,none⟩ z) A xs:=by
 rcases h with ⟨h1,h2⟩
 refine ⟨h1,?_⟩
 rcases h2 with h2 | ⟨b,o,h3,h4⟩
 · exact .inl h2
 · exact .inr ⟨b,o,h3,fun j k hj=>X.int_cell (h4 j k hj) x y z⟩
theorem Nl.put3 (h:Nl w s xs) (X:B3 t w g (.bool p0) (.slice A0 l0 c0) (.slice A1 l1 c1)) (x y z:Value):Nl (((w.setCell ⟨g,0,none⟩ x).setCell ⟨g,1,none⟩ y).setCell ⟨g,2,none⟩ z) s xs:=by
 obtain ⟨A,c,h1,h2,h3⟩:=h;exact ⟨A,c,h1,h2.put3 X x y z,h3⟩
theorem Dn.put3 (h:Dn w L s n) (X:B3 t w g (.bool p0) (.slice A0 l0 c0) (.slice A1 l1 c1)) (x y z:Value):Dn (((w.setCell ⟨g,0,none⟩ x).setCell ⟨g,1,none⟩ y).setCell ⟨g,2,none⟩ z) L s n:=⟨h.1.put3 X x y z,h.2⟩
end I
end
def qn (z:Int) (n:Nat):Int:=sg (decide (z<0)) (z.natAbs / Nat.gcd z.natAbs n)
def qd (z:Int) (n:Nat):Nat:=n / Nat.gcd z.natAbs n
theorem Ru (b:Bool) (m n:Nat):sg b (m / Nat.gcd m n)=qn (sg b m) n:=by
 unfold qn;rw [Cb,KA]
 cases b
 · rfl
 · by_cases h:m=0
   · subst h;simp [sg]
   · simp [h]
theorem PA (z:Int) (n:Nat):(qn z n).natAbs=z.natAbs / Nat.gcd z.natAbs n:=Cb _ _
def Qo (w:World) (v:Value) (z:Int) (n:Nat):Prop:=∃ s d,v=.agg #[.bool (decide (z<0)),s,d]/\Nl w s (dg WB z.natAbs)/\Nl w d (dg WB n)
def Qs (w w':World) (v:Value) (z:Int) (n:Nat):Prop:=∃ s d,v=.agg #[.bool (decide (z<0)),s,d]/\Rs w w' s z.natAbs/\Rs w w' d n
def Ql (w:World) (v:Value) (b:Bool) (xs ds:List Nat):Prop:=∃ s d,v=.agg #[.bool b,s,d]/\Nl w s xs/\Nl w d ds
section
variable {w w':World} {v:Value} {z:Int} {n:Nat} {b:Bool} {xs ds:List Nat}
theorem Ql.keep (h:Ql w v b xs ds) (hb:Below w.heap.size w w'):Ql w' v b xs ds:=by
 obtain ⟨s,d,h1,h2,h3⟩:=h;exact ⟨s,d,h1,h2.keep hb,h3.keep hb⟩
theorem Qs.qo (h:Qs w w' v z n):Qo w' v z n:=by
 obtain ⟨s,d,h1,h2,h3⟩:=h;exact ⟨s,d,h1,h2.nl,h3.nl⟩
theorem Qo.ql (h:Qo w v z n):Ql w v (decide (z<0)) (dg WB z.natAbs) (dg WB n):=h
theorem Qs.below (h:Qs w w' v z n):Below w.heap.size w w':=by
 obtain ⟨s,d,h1,h2,h3⟩:=h;exact h2.2
theorem Qs.from (h:Qs w' w v z n) {w0:World} (hb:Below w0.heap.size w0 w'):Qs w0 w v z n:=by
 obtain ⟨s,d,h1,h2,h3⟩:=h;exact ⟨s,d,h1,h2.out hb,h3.out hb⟩
theorem Ql.parts (h:Ql w v b xs ds):∃ A n c A2 n2 c2,v=.agg #[.bool b,.slice A n c,.slice A2 n2 c2]/\n=xs.length/\n2=ds.length/\Hid (Ql w (.agg #[.bool b,.slice A n c,.slice A2 n2 c2]) b xs ds):=by
 have h':=h;obtain ⟨s,d,rfl,h2,h3⟩:=h;obtain ⟨A,c,rfl,-⟩:=h2;obtain ⟨A2,c2,rfl,-⟩:=h3;exact ⟨A,_,c,A2,_,c2,rfl,rfl,rfl,h'⟩
theorem Qo.parts (h:Qo w v z n):∃ p A l c A2 l2 c2,v=.agg #[.bool p,.slice A l c,.slice A2 l2 c2]:=by
 obtain ⟨s,d,rfl,⟨A,c,rfl,-⟩,⟨A2,c2,rfl,-⟩⟩:=h;exact ⟨_,A,_,c,A2,_,c2,rfl⟩
end
theorem Rs.put3 {t:TypeId} {w w1:World} {g n:Nat} {a b c s:Value} (ht:t≠146) (X:B3 t w1 g a b c) (hg:w.heap.size<=g) (h:Rs w w1 s n) (x y z:Value):
 Rs w (((w1.setCell ⟨g,0,none⟩ x).setCell ⟨g,1,none⟩ y).setCell ⟨g,2,none⟩ z) s n:=
 ⟨⟨h.1.1,AQ h.1.2 (X.keepT ht x y z)⟩,X.below h.2 hg x y z⟩
theorem Qs.put3 {t:TypeId} {w w1:World} {g n:Nat} {a b c v:Value} {q:Int} (ht:t≠146) (X:B3 t w1 g a b c) (hg:w.heap.size<=g) (h:Qs w w1 v q n) (x y z:Value):
 Qs w (((w1.setCell ⟨g,0,none⟩ x).setCell ⟨g,1,none⟩ y).setCell ⟨g,2,none⟩ z) v q n:=by
 obtain ⟨s,d,h1,h2,h3⟩:=h;exact ⟨s,d,h1,h2.put3 ht X hg x y z,h3.put3 ht X hg x y z⟩
theorem AE {W:World} {b o:Nat} {v x y z:Value} (g:Nat) (h:W.cell? ⟨b,o,none⟩=some v) (hne:b≠g):(((W.setCell ⟨g,0,none⟩ x).setCell ⟨g,1,none⟩ y).setCell ⟨g,2,none⟩ z).cell? ⟨b,o,none⟩=some v:=by
 have e:(((W.setCell ⟨g,0,none⟩ x).setCell ⟨g,1,none⟩ y).setCell ⟨g,2,none⟩ z).heap[b]?=W.heap[b]?:=
  ((Below.heap_setCell _ _ _ _ (by exact hne)).trans (Below.heap_setCell _ _ _ _ (by exact hne))).trans (Below.heap_setCell _ _ _ _ (by exact hne))
 exact (World.cell?_of_block (w:=W) (a:=⟨b,o,none⟩) e).trans h
theorem Rs.keep {w w1 w2:World} {s:Value} {n:Nat} (h:Rs w w1 s n) (hb:Below w1.heap.size w1 w2):Rs w w2 s n:=⟨h.1.keep hb,Yb h.2 hb⟩
theorem Zs.keep {w w1 w2:World} {v:Value} {z:Int} (h:Zs w w1 v z) (hb:Below w1.heap.size w1 w2):Zs w w2 v z:=h.then hb
theorem Qs.keep {w w1 w2:World} {v:Value} {z:Int} {n:Nat} (h:Qs w w1 v z n) (hb:Below w1.heap.size w1 w2):Qs w w2 v z n:=by
 obtain ⟨s,d,h1,h2,h3⟩:=h;exact ⟨s,d,h1,h2.keep hb,h3.keep hb⟩
theorem Zs.q {w W:World} {p:Bool} {s d:Value} {z:Int} {n:Nat} (h:Zs w W (.agg #[.bool p,s]) z) (hd:Rs w W d n):Qs w W (.agg #[.bool p,s,d]) z n:=by
 obtain ⟨s',e,h⟩:=h;injection e with e;injection e with e
 simp only [List.cons.injEq,Value.bool.injEq] at e;exact ⟨s',d,by rw [e.1,e.2.1],h,hd⟩
theorem Rs.form {w W:World} {v:Value} {n:Nat} (h:Rs w W v n):∃ A l c,v=.slice A l c:=by
 obtain ⟨A,c,rfl,-,-⟩:=h.1.slice;exact ⟨A,_,c,rfl⟩
theorem BF:(36:TypeId)≠146:=by decide
end
section
open Go Go.RowKit Go.Proofs Pl
theorem TK (w:World):Calls Tryz.prog 216 #[] w fun e w'=>∃ v,e=.returned v/\Nm w' 1 v 1/\Below w.heap.size w w':=by
 go_enter Tryz.func216,Tryz.ntmps216;go_wp2_with fail;go_ret;exact ⟨_,rfl,⟨[1],FD w 1 (by rw [Bz];decide),by simp,by simp [val]⟩,Ya w _⟩
theorem DO {w:World} {L1 L2:Nat} {a d:Value} {z:Int} {n:Nat} (ha:Zn w L1 a z) (hd:Nm w L2 d n) (h0:n≠0) (h1:L1<=137438953472) (h2:L2<=137438953472):
 Calls Tryz.prog 163 #[a,d] w fun e w'=>∃ v,e=.returned v/\Qs w w' v (qn z n) (qd z n):=by
 obtain ⟨b,s,m,rfl,hs,rfl⟩:=ha;have e1:=Ru b m n;have e2:qd (sg b m) n=n / Nat.gcd m n:=by unfold qd;rw [Cb]
 rw [<- e1,e2];have hg:Nat.gcd m n≠0:=by have:=Nat.gcd_pos_of_pos_right m (U9 h0);omega
 obtain ⟨k,hk⟩:∃ k,k=Nat.gcd m n:=⟨_,rfl⟩;have hkn:k<WB ^ L2:=by rw [hk];exact Ug (Nat.gcd_le_right m (U9 h0)) hd.lt
 rw [<- hk] at hg ⊢;have HB:=Yh6 hkn hg (Ug (Vh m k) hs.lt) h1 h2 hk;have S0:=Yh3 hs hd (Below.refl w.heap.size w);clear hs hd e1 e2 hg hkn h0 h1 h2 hk;go_enter Tryz.func163,Tryz.ntmps163;go_upto_region 1 with (fail)
 have hb:=Yb (Ya w (.cells #[.bool b,s] 34)) (Ya _ (.cells #[.bool false,(.slice none 0 0),(.slice none 0 0)] 36));have hX:=(Bx.new 34 w (.bool b) s).alloc (.cells #[.bool false,(.slice none 0 0),(.slice none 0 0)] 36);have hR:=B3.new1 36 w (.cells #[.bool b,s] 34) (.bool false) (.slice none 0 0) (.slice none 0 0);have S1:=Yh5 (S0.p0.keep hb) (S0.p1.keep hb) hX hR (Yb S0.q2 hb);clear hb hX hR S0;generalize (w.alloc _).alloc _=W0 at S1 ⊢;obtain ⟨xa,xb,-,-⟩:=S1.p2.facts;go_wp2_with fail;refine (KM S1.p0 S1.p1 (by have:=HB.out;omega) (by have:=HB.out;omega)).mono ?_;rintro e w2 ⟨vg,rfl,h⟩;rw [<- HB.q5] at h;have S2:=Yh6 (S1.p0.keep h.2) (S1.p1.keep h.2) (S1.p2.keep h.2) (S1.p3.keep h.2) (h.nm HB.p0) (Yb S1.q4 h.2);clear h xa xb S1;obtain ⟨xa,xb,-,-⟩:=S2.p2.facts;go_wp2_with fail;refine (BY S2.p0 S2.p4 (by have:=HB.out;omega) HB.p1).mono ?_;rintro e w3 ⟨v1,v2,rfl,h,hh⟩;have S3:=Yh7 (S2.p0.keep h.2) (S2.p1.keep h.2) (S2.p2.keep h.2) (S2.p3.keep h.2) (S2.p4.keep h.2) (h.nm HB.p2) (Yb S2.q5 h.2);clear h hh xa xb S2;go_wp2_with fail;refine (BY S3.p1 S3.p4 (by have:=HB.out;omega) HB.p1).mono ?_;rintro e w4 ⟨v3,v4,rfl,h,hh⟩;obtain ⟨Ad,ld,cd,rfl⟩:=h.form;have S4:=Yh8 (S3.p0.keep h.2) (S3.p1.keep h.2) (S3.p2.keep h.2) (S3.p3.keep h.2) (S3.p4.keep h.2) (S3.p5.keep h.2) (h.out S3.q6) (Yb S3.q6 h.2);clear h hh  S3;obtain ⟨xa,xb,-,-⟩:=S4.p2.facts;go_wp2_with fail;refine (DQ b S4.p5 (by have:=HB.out;omega)).mono ?_;rintro e w5 ⟨v5,rfl,h⟩;obtain ⟨pz,Az,lz,cz,rfl,-⟩:=h.parts;have S5:=Yh9 (S4.p0.keep h.below) (S4.p1.keep h.below) (S4.p2.keep h.below) (S4.p3.keep h.below) (S4.p4.keep h.below) (S4.p5.keep h.below) (S4.p6.keep h.below) (h.from S4.q7) (Yb S4.q7 h.below);clear h xa xb S4;obtain ⟨f0,f1,f2,f3,f4,f5⟩:=S5.p3.facts;go_wp2_with fail;refine BZ S5.p3 (fun W d0 d1 d2=>by simp [results,Tryz.results163,go_sem,d0,d1,d2];try rfl) rfl ?_;exact ⟨_,rfl,(S5.p7.q S5.p6).put3 BF S5.p3 Yo _ _ _⟩
theorem KC {w:World} {L:Nat} {b:Bool} {s d:Value} {n:Nat} (hd:Nm w L d n) (hL:L<=137438953472) (h0:n=0):
 Calls Tryz.prog 159 #[.agg #[.bool b,s,d]] w fun e w'=>∃ v,e=.returned v/\Nm w' 1 v 1/\Yg w w':=by
 have HL:=Lib.hid hL;have e0:nb n=0:=EE.2 h0;have S0:=Yh2 hd (Below.refl w.heap.size w);have HE:=Lib.hid e0;clear hd hL h0 e0;go_enter Tryz.func159,Tryz.ntmps159;go_upto_region 1 with (fail)
 have hX:=B3.new 36 w (.bool b) s d;have S1:=Yh3 (S0.p0.keep ((Ya w (.cells #[.bool b,s,d] 36)))) hX (Yb S0.q1 ((Ya w (.cells #[.bool b,s,d] 36))));clear hX S0;generalize w.alloc _=W0 at S1 ⊢;obtain ⟨xa,xb,xc,-,-,-⟩:=S1.p1.facts;go_wp2_with fail;refine (IF S1.p0 (by have:=HL.out;omega)).mono ?_;rintro e w2 ⟨rfl,hb⟩;rw [HE.out];have S2:=Yh3 (S1.p0.keep hb) (S1.p1.keep hb) (Yb S1.q2 hb);clear hb xa xb xc S1;go_wp2_with fail;refine (TK _).mono ?_;rintro e w3 ⟨v,rfl,h,hb⟩;have S3:=Yh4 (S2.p0.keep hb) (S2.p1.keep hb) h (Yb S2.q2 hb);clear h hb  S2;go_wp2_with fail;go_ret;exact ⟨_,rfl,S3.p2,S3.q3⟩
theorem Kj {w:World} {L:Nat} {b:Bool} {s d:Value} {n:Nat} (hd:Nm w L d n) (hL:L<=137438953472) (h0:n≠0):
 Calls Tryz.prog 159 #[.agg #[.bool b,s,d]] w fun e w'=>∃ v,e=.returned v/\Nm w' L v n/\Yg w w':=by
 have HL:=Lib.hid hL;obtain ⟨k,hk⟩:∃ k,k=nb n:=⟨_,rfl⟩;have hkn:k≠0:=by rw [hk];exact fun h=>h0 (EE.1 h)
 have hk0:((k:Int)==0)=false:=beq_eq_false_iff_ne.2 Yo;clear hkn;have S0:=Yh2 hd (Below.refl w.heap.size w);have HE:=Lib.hid hk;clear hd hL h0 hk;go_enter Tryz.func159,Tryz.ntmps159;go_upto_region 1 with (fail)
 have hX:=B3.new 36 w (.bool b) s d;have S1:=Yh3 (S0.p0.keep ((Ya w (.cells #[.bool b,s,d] 36)))) hX (Yb S0.q1 ((Ya w (.cells #[.bool b,s,d] 36))));clear hX S0;generalize w.alloc _=W0 at S1 ⊢;obtain ⟨xa,xb,xc,-,-,-⟩:=S1.p1.facts;go_wp2_with fail;refine (IF S1.p0 (by have:=HL.out;omega)).mono ?_;rintro e w2 ⟨rfl,hb⟩;rw [<- HE.out];have S2:=Yh3 (S1.p0.keep hb) (S1.p1.keep hb) (Yb S1.q2 hb);clear hb xa xb xc S1;obtain ⟨xa,xb,xc,-,-,-⟩:=S2.p1.facts;go_wp2_with fail;go_ret;exact ⟨_,rfl,S2.p0,S2.q2⟩
def den (n:Nat):Nat:=if n=0 then 1 else n
theorem BE (n:Nat):den n≠0:=by unfold den;split<;>omega
theorem C8 {n L:Nat} (h:n<WB ^ L) (hL:0<L):den n<WB ^ L:=by
 unfold den;split
 · exact Nat.one_lt_pow Yo Aw
 · exact h
theorem Nm.mono' {w:World} {L L' n:Nat} {v:Value} (h:Nm w L v n) (hL:L<=L'):Nm w L' v n:=h.mono hL
theorem Bj {w:World} {L:Nat} {b:Bool} {s d:Value} {n:Nat} (hd:Nm w L d n) (h1:0<L) (hL:L<=137438953472):
 Calls Tryz.prog 159 #[.agg #[.bool b,s,d]] w fun e w'=>∃ v,e=.returned v/\Nm w' L v (den n)/\Yg w w':=by
 unfold den;by_cases h0:n=0
 · rw [if_pos h0];refine (KC hd hL h0).mono ?_;rintro e w' ⟨v,he,h,hb⟩;exact ⟨v,he,h.mono' Yo,hb⟩
 · rw [if_neg h0];exact Kj hd hL h0
theorem R4 {w:World} {L:Nat} {a:Value} {b:Bool} {xs ds:List Nat} (ha:Ql w a b xs ds) (hx:xs.length<=L) (hd:ds.length<=L) (h1:0<L) (hL:L<=137438953472):
 Calls Tryz.prog 112 #[a] w fun e w'=>∃ v,e=.returned v/\Qs w w' v (qn (sg b (val WB xs)) (den (val WB ds))) (qd (sg b (val WB xs)) (den (val WB ds))):=by
 obtain ⟨s,d,rfl,hs,hdn⟩:=ha;have hz:Zn w L (.agg #[.bool b,s]) (sg b (val WB xs)):=⟨b,s,_,rfl,⟨xs,hs,hx,rfl⟩,rfl⟩;have hn:Nm w L d (val WB ds):=⟨ds,hdn,hd,rfl⟩;obtain ⟨z,ez⟩:∃ z,z=sg b (val WB xs):=⟨_,rfl⟩;obtain ⟨n,en⟩:∃ n,n=val WB ds:=⟨_,rfl⟩;rw [<- ez] at hz ⊢;rw [<- en] at hn ⊢;have HL:=Yh2 h1 hL;have S0:=Yh3 hz hn (Below.refl w.heap.size w);clear hz hn hs hdn hx hd h1 hL ez en;go_enter Tryz.func112,Tryz.ntmps112;go_upto_region 1 with (fail)
 have hb:=Yb (Ya w (.cells #[.bool b,s,d] 36)) (Ya _ (.cells #[.bool false,.slice none 0 0,.slice none 0 0] 36));have hX:=(B3.new 36 w (.bool b) s d).alloc (.cells #[.bool false,.slice none 0 0,.slice none 0 0] 36);have hR:=B3.new1 36 w (.cells #[.bool b,s,d] 36) (.bool false) (.slice none 0 0) (.slice none 0 0);have S1:=Yh5 (S0.p0.keep hb) (S0.p1.keep hb) hX hR (Yb S0.q2 hb);clear hb hX hR S0;generalize (w.alloc _).alloc _=W0 at S1 ⊢;go_upto_region 1 with (fail)
 have S2:=Yh5 (S1.p0.keep (Ai _ 1)) (S1.p1.keep (Ai _ 1)) (S1.p2.keep (Ai _ 1)) (S1.p3.keep (Ai _ 1)) (Yb S1.q4 (Ai _ 1));refine wp_region_held_drew (S:=fun W=>Ye3 W w.heap.size (.bool b) s d) (by kernel_rfl) ⟨S2.p2.facts.1,S2.p2.facts.2.1,S2.p2.facts.2.2.1⟩ (fun Hh=>?_);refine rgT 0 Hh ?_;refine rgT 1 Hh ?_;refine rgT 2 Hh ?_;refine rgO 3 fun K hK=>?_;go_simp;go_at_call 159;refine (Bj S2.p1 HL.p0 (by have:=HL.out;omega)).mono ?_;rintro e w3 ⟨v,rfl,h,hb⟩;have S3:=Yh6 (S2.p0.keep hb) (S2.p1.keep hb) (S2.p2.keep hb) (S2.p3.keep hb) h (Yb S2.q4 hb);clear h hb Hh;go_wp2_with fail;refine rgK hK ⟨S3.p2.facts.1,S3.p2.facts.2.1,S3.p2.facts.2.2.1⟩ fun Hh=>?_;clear hK K;refine rgO 4 fun K hK=>?_;go_simp;go_at_call 163;refine (DO S3.p0 S3.p4 (BE n) (by have:=HL.out;omega) (by have:=HL.out;omega)).mono ?_;rintro e w4 ⟨v,rfl,h⟩;obtain ⟨pq,Aq,lq,cq,Ae,le,ce,rfl⟩:=h.qo.parts;have S4:=Yh7 (S3.p0.keep h.below) (S3.p1.keep h.below) (S3.p2.keep h.below) (S3.p3.keep h.below) (S3.p4.keep h.below) (h.from S3.q5) (Yb S3.q5 h.below);clear h Hh;go_wp2_with fail;refine rgK hK ⟨S4.p2.facts.1,S4.p2.facts.2.1,S4.p2.facts.2.2.1⟩ fun Hh=>?_;clear hK K;obtain ⟨f0,f1,f2,f3,f4,f5⟩:=S4.p3.facts;refine rgO 5 fun K hK=>?_;go_simp;clear f0 f1 f2 f3 f4 f5;refine rgK hK ⟨AE _ S4.p2.facts.1 Yo,AE _ S4.p2.facts.2.1 Yo,AE _ S4.p2.facts.2.2.1 Yo⟩ fun Hh=>?_;clear hK K;refine Yw ?_;clear Hh;go_wp2_with fail;refine BZ S4.p3 (fun W d0 d1 d2=>by simp [results,Tryz.results112,go_sem,d0,d1,d2];try rfl) rfl ?_;exact ⟨_,rfl,S4.p5.put3 BF S4.p3 Yo _ _ _⟩
end
section
open Go Go.RowKit Go.Proofs Pl
namespace I
def Qd (w:World) (L:Nat) (v:Value) (z:Int) (n:Nat):Prop:=∃ s d,v=.agg #[.bool (decide (z<0)),s,d]/\Dn w L s z.natAbs/\Dn w L d n
theorem Qd.keep {w w':World} {L:Nat} {v:Value} {z:Int} {n:Nat} (h:Qd w L v z n) (hb:Below w.heap.size w w'):Qd w' L v z n:=by
 obtain ⟨s,d,h1,h2,h3⟩:=h;exact ⟨s,d,h1,h2.keep hb,h3.keep hb⟩
theorem Qd.parts {w:World} {L:Nat} {v:Value} {z:Int} {n:Nat} (h:Qd w L v z n):∃ p A l c A2 l2 c2,v=.agg #[.bool p,.slice A l c,.slice A2 l2 c2]:=by
 obtain ⟨s,d,rfl,⟨⟨A,c,rfl,-⟩,-⟩,⟨⟨A2,c2,rfl,-⟩,-⟩⟩:=h;exact ⟨_,A,_,c,A2,_,c2,rfl⟩
theorem Qd.put3 {t:TypeId} {w:World} {g L:Nat} {v:Value} {p0:Bool} {A0 A1:Option Addr} {l0 c0 l1 c1:Nat} {q:Int} {n:Nat} (h:Qd w L v q n) (X:B3 t w g (.bool p0) (.slice A0 l0 c0) (.slice A1 l1 c1)) (x y z:Value):
 Qd (((w.setCell ⟨g,0,none⟩ x).setCell ⟨g,1,none⟩ y).setCell ⟨g,2,none⟩ z) L v q n:=by
 obtain ⟨s,d,h1,h2,h3⟩:=h;exact ⟨s,d,h1,h2.put3 X x y z,h3.put3 X x y z⟩
theorem Dn.form {w:World} {L:Nat} {v:Value} {n:Nat} (h:Dn w L v n):∃ A l c,v=.slice A l c:=by
 obtain ⟨⟨A,c,rfl,-⟩,-⟩:=h;exact ⟨A,_,c,rfl⟩
theorem QH (w:World) (o o':Obj):Dn (((w.alloc o).alloc o').alloc (.cells #[.int .i64 1] 3)) 1 (.slice (some ⟨w.heap.size+1+1,0,none⟩) 1 1) 1:=by
 have:=IZ ((w.alloc o).alloc o')
 rwa [World.size_alloc,World.size_alloc] at this
theorem RN {z:Int} {m:Nat} (h:z≠0):decide (qn z m<0)=decide (z<0):=by
 have h1:0<z.natAbs / Nat.gcd z.natAbs m:=Nat.div_pos (Nat.gcd_le_left m Yo) (Nat.gcd_pos_of_pos_left m Yo);unfold qn;rw [KA,decide_eq_true (show z.natAbs / Nat.gcd z.natAbs m≠0 by omega),Bool.and_true]
theorem Jw {w:World} {L:Nat} {p:Bool} {s d:Value} {m n:Nat} {z:Int} (hs:Dn w L s n) (hd:Dn w L d m) (ez:z=sg p n) (h0:m≠0) (h1:0<L) (hL:L<=1073741824) (hz:n=0):
 Calls Tryz.prog 110 #[.agg #[.bool p,s],d] w fun e w'=>∃ v,e=.returned v/\Qd w' L v (qn z m) (qd z m)/\Yg w w':=by
 have e1:qn z m=0:=by rw [ez,<- Ru,hz];simp [sg]
 have e2:qd z m=1:=by unfold qd;rw [ez,Cb,hz,Nat.gcd_zero_left];exact Nat.div_self (U9 h0)
 rw [e1,e2];obtain ⟨⟨As,cs,rfl,-⟩,-⟩:=hs;rw [hz,BP,List.length_nil];have HL:=Lib.hid h1;clear e1 e2 hz h0 ez h1;have S0:=Lib.hid (Below.refl w.heap.size w);go_enter Tryz.func110,Tryz.ntmps110;go_wp2_with fail;refine bodyPost_ret (by simp [results,Tryz.results110,go_sem];try rfl) rfl ?_;exact ⟨_,rfl,⟨_,_,rfl,⟨by rw [show (0:Int).natAbs=0 from rfl,BP];exact NW _,Ve BN⟩,(QH w _ _).mono HL.out⟩,by go_grown⟩
theorem JS {w:World} {L:Nat} {p:Bool} {s d:Value} {m n:Nat} {z:Int} (hs:Dn w L s n) (hd:Dn w L d m) (ez:z=sg p n) (h0:m≠0) (h1:0<L) (hL:L<=1073741824) (hz:n≠0):
 Calls Tryz.prog 110 #[.agg #[.bool p,s],d] w fun e w'=>∃ v,e=.returned v/\Qd w' L v (qn z m) (qd z m)/\Yg w w':=by
 have e1:(qn z m).natAbs=n / Nat.gcd n m:=by rw [PA,ez,Cb]
 have e2:qd z m=m / Nat.gcd n m:=by unfold qd;rw [ez,Cb]
 have e3:decide (qn z m<0)=p:=by rw [ez,RN (by intro h;have:=congrArg Int.natAbs h;rw [Cb] at this;exact hz this),KA,decide_eq_true hz,Bool.and_true]
 have hg:Nat.gcd n m≠0:=by have:=Nat.gcd_pos_of_pos_right n (U9 h0);omega
 obtain ⟨k,hk⟩:∃ k,k=Nat.gcd n m:=⟨_,rfl⟩;rw [<- hk] at hg e1 e2;have HE:=Yh6 e1 e2 e3 hk hg hL;have hs0:=hs;obtain ⟨⟨As,cs,rfl,-⟩,-⟩:=hs0;obtain ⟨ls,hls⟩:∃ ls,ls=(dg TB n).length:=⟨_,rfl⟩;have hl0:((ls:Int)==0)=false:=beq_eq_false_iff_ne.2 (by have:ls≠0:=fun h=>hz ((BL AH n).1 (TN (hls ▸ h)));omega);rw [<- hls] at hs ⊢;have S0:=Yh3 hs hd (Below.refl w.heap.size w);clear hs hd e1 e2 e3 hg hk ez h0 h1 hL hz hls;go_enter Tryz.func110,Tryz.ntmps110;go_upto_region 1 with (fail)
 have hb:=Yb (Ya w (.cells #[.bool p,.slice As ls cs] 81)) (Ya _ (.cells #[.bool false,.slice none 0 0,.slice none 0 0] 83));have hX0:=(Bx.new 81 w  (.bool p) (.slice As ls cs)).alloc (.cells #[.bool false,.slice none 0 0,.slice none 0 0] 83);have hX1:=B3.new1 83 w (.cells #[.bool p,.slice As ls cs] 81) (.bool false) (.slice none 0 0) (.slice none 0 0);have S1:=Yh5 (S0.p0.keep hb) (S0.p1.keep hb) hX0 hX1 (Yb S0.q2 hb);clear hb hX0 hX1 S0;generalize ((w.alloc _).alloc _)=W0 at S1 ⊢;obtain ⟨xa,xb,-,-⟩:=S1.p2.facts;go_wp2_with fail;refine (SA S1.p0 S1.p1 (by have:=HE.out;omega)).mono ?_;rintro e w2 ⟨v1,rfl,h,hb⟩;rw [<- HE.p3] at h;have S2:=Yh6 (S1.p0.keep hb) (S1.p1.keep hb) (S1.p2.keep hb) (S1.p3.keep hb) h (Yb S1.q4 hb);clear h hb xa xb S1;obtain ⟨xa,xb,-,-⟩:=S2.p2.facts;go_wp2_with fail;refine (Hi S2.p0 S2.p4 HE.p4 (by have:=HE.out;omega) (by have:=HE.out;omega)).mono ?_;rintro e w3 ⟨v2,v3,rfl,h,hh,hb⟩;obtain ⟨A2,l2,c2,rfl⟩:=h.form;have S3:=Yh7 (S2.p0.keep hb) (S2.p1.keep hb) (S2.p2.keep hb) (S2.p3.keep hb) (S2.p4.keep hb) h (Yb S2.q5 hb);clear h hh hb xa xb S2;go_wp2_with fail;refine (Hi S3.p1 S3.p4 HE.p4 (by have:=HE.out;omega) (by have:=HE.out;omega)).mono ?_;rintro e w4 ⟨v4,v5,rfl,h,hh,hb⟩;obtain ⟨A3,l3,c3,rfl⟩:=h.form;have S4:=Yh8 (S3.p0.keep hb) (S3.p1.keep hb) (S3.p2.keep hb) (S3.p3.keep hb) (S3.p4.keep hb) (S3.p5.keep hb) h (Yb S3.q6 hb);clear h hh hb  S3;obtain ⟨xa,xb,-,-⟩:=S4.p2.facts;obtain ⟨f0,f1,f2,f3,f4,f5⟩:=S4.p3.facts;go_wp2_with fail;refine BZ S4.p3 (fun W d0 d1 d2=>by simp [results,Tryz.results110,go_sem,d0,d1,d2];try rfl) rfl ?_;exact ⟨_,rfl,⟨_,_,by rw [HE.p2],by rw [HE.p0];exact S4.p5.put3 S4.p3 _ _ _,by rw [HE.p1];exact S4.p6.put3 S4.p3 _ _ _⟩,S4.p3.below S4.q7 Yo _ _ _⟩
theorem EM {w:World} {L:Nat} {a d:Value} {z:Int} {m:Nat} (ha:Zd w L a z) (hd:Dn w L d m) (h0:m≠0) (h1:0<L) (hL:L<=1073741824):
 Calls Tryz.prog 110 #[a,d] w fun e w'=>∃ v,e=.returned v/\Qd w' L v (qn z m) (qd z m)/\Yg w w':=by
 obtain ⟨p,s,n,rfl,hs,ez⟩:=ha.open;by_cases hz:n=0
 · exact Jw hs hd ez h0 h1 hL hz
 · exact JS hs hd ez h0 h1 hL hz
theorem QG {w:World} {L:Nat} {b:Bool} {s d:Value} {z:Int} {ds:List Nat} (hz:Zn w L (.agg #[.bool b,s]) z) (hd:_root_.Go.Proofs.YtlblnmmfphiobaaGreat.Nl w d ds) (hl:ds.length<=L) (h1:0<L) (hL:L<=1048576) (h0:val WB ds=0):
 Calls Tryz.prog 37 #[.agg #[.bool b,s,d]] w fun e w'=>∃ v,e=.returned v/\Qd w' (5*L) v (qn z 1) (qd z 1)/\Yg w w':=by
 obtain ⟨n,hn⟩:∃ n,val WB ds=n:=⟨_,rfl⟩;rw [hn] at h0;have HL:=Yh5 hl h1 hL hn h0;have S0:=Yh3 hz hd (Below.refl w.heap.size w);clear hz hd hl h1 hL hn h0;go_enter Tryz.func37,Tryz.ntmps37;go_upto_region 1 with (fail)
 have hb:=Yb (Ya w (.cells #[.bool b,s,d] 36)) (Ya _ (.cells #[.bool false,.slice none 0 0,.slice none 0 0] 83));have hX0:=(B3.new 36 w  (.bool b) s d).alloc (.cells #[.bool false,.slice none 0 0,.slice none 0 0] 83);have hX1:=B3.new1 83 w (.cells #[.bool b,s,d] 36) (.bool false) (.slice none 0 0) (.slice none 0 0);have S1:=Yh5 (S0.p0.keep hb) (S0.p1.keep hb) hX0 hX1 (Yb S0.q2 hb);clear hb hX0 hX1 S0;generalize ((w.alloc _).alloc _)=W0 at S1 ⊢;obtain ⟨xa,xb,xc,-,-,-⟩:=S1.p2.facts;go_wp2_with fail;refine (OJ S1.p1 HL.p0 HL.p2 HL.p3).mono ?_;rintro e w2 ⟨v1,rfl,h,hb⟩;rw [HL.q4] at h;obtain ⟨⟨A1,c1,rfl,-⟩,-⟩:=h;rw [BP,List.length_nil];have S2:=Yh5 (S1.p0.keep hb) (S1.p1.keep hb) (S1.p2.keep hb) (S1.p3.keep hb) (Yb S1.q4 hb);clear hb xa xb xc S1;obtain ⟨xa,xb,xc,-,-,-⟩:=S2.p2.facts;go_upto_region 4 with (fail)
 have S3:=Yh6 (S2.p0.keep ((Ya w2 (.cells #[.int .i64 1] 3)))) (S2.p1.keep ((Ya w2 (.cells #[.int .i64 1] 3)))) (S2.p2.keep ((Ya w2 (.cells #[.int .i64 1] 3)))) (S2.p3.keep ((Ya w2 (.cells #[.int .i64 1] 3)))) ((IZ w2).mono (show 1<=5*L by have:=HL.out;omega)) (Yb S2.q4 ((Ya w2 (.cells #[.int .i64 1] 3))));clear xa xb xc S2;obtain ⟨gu,hgu⟩:∃ g,g=w2.heap.size:=⟨_,rfl⟩;generalize w2.alloc _=W1 at S3 ⊢;rw [<- hgu] at S3 ⊢;clear hgu;obtain ⟨xa,xb,xc,-,-,-⟩:=S3.p2.facts;go_wp2_with fail;refine (SX S3.p0 (by have:=HL.out;omega)).mono ?_;rintro e w4 ⟨v2,rfl,h,hb⟩;have S4:=Yh7 (S3.p0.keep hb) (S3.p1.keep hb) (S3.p2.keep hb) (S3.p3.keep hb) (S3.p4.keep hb) h (Yb S3.q5 hb);clear h hb xa xb xc S3;go_wp2_with fail;refine (EM S4.p5 S4.p4 Yd (by have:=HL.out;omega) (by have:=HL.out;omega)).mono ?_;rintro e w5 ⟨v3,rfl,h,hb⟩;obtain ⟨pq,Aq,lq,cq,Ae,le,ce,rfl⟩:=h.parts;have S5:=Yh8 (S4.p0.keep hb) (S4.p1.keep hb) (S4.p2.keep hb) (S4.p3.keep hb) (S4.p4.keep hb) (S4.p5.keep hb) h (Yb S4.q6 hb);clear h hb  S4;obtain ⟨f0,f1,f2,f3,f4,f5⟩:=S5.p3.facts;go_wp2_with fail;refine BZ S5.p3 (fun W d0 d1 d2=>by simp [results,Tryz.results37,go_sem,d0,d1,d2];try rfl) rfl ?_;exact ⟨_,rfl,S5.p6.put3 S5.p3 _ _ _,S5.p3.below S5.q7 Yo _ _ _⟩
theorem Qy {w:World} {L:Nat} {b:Bool} {s d:Value} {z:Int} {ds:List Nat} (hz:Zn w L (.agg #[.bool b,s]) z) (hd:_root_.Go.Proofs.YtlblnmmfphiobaaGreat.Nl w d ds) (hl:ds.length<=L) (h1:0<L) (hL:L<=1048576) (h0:val WB ds≠0):
 Calls Tryz.prog 37 #[.agg #[.bool b,s,d]] w fun e w'=>∃ v,e=.returned v/\Qd w' (5*L) v (qn z (val WB ds)) (qd z (val WB ds))/\Yg w w':=by
 obtain ⟨n,hn⟩:∃ n,val WB ds=n:=⟨_,rfl⟩;rw [hn] at h0 ⊢;have HL:=Yh5 hl h1 hL hn h0;have S0:=Yh3 hz hd (Below.refl w.heap.size w);clear hz hd hl h1 hL hn h0;go_enter Tryz.func37,Tryz.ntmps37;go_upto_region 1 with (fail)
 have hb:=Yb (Ya w (.cells #[.bool b,s,d] 36)) (Ya _ (.cells #[.bool false,.slice none 0 0,.slice none 0 0] 83));have hX0:=(B3.new 36 w  (.bool b) s d).alloc (.cells #[.bool false,.slice none 0 0,.slice none 0 0] 83);have hX1:=B3.new1 83 w (.cells #[.bool b,s,d] 36) (.bool false) (.slice none 0 0) (.slice none 0 0);have S1:=Yh5 (S0.p0.keep hb) (S0.p1.keep hb) hX0 hX1 (Yb S0.q2 hb);clear hb hX0 hX1 S0;generalize ((w.alloc _).alloc _)=W0 at S1 ⊢;obtain ⟨xa,xb,xc,-,-,-⟩:=S1.p2.facts;go_wp2_with fail;refine (OJ S1.p1 HL.p0 HL.p2 HL.p3).mono ?_;rintro e w2 ⟨v1,rfl,h,hb⟩;have h4:=h;obtain ⟨⟨A1,c1,rfl,-⟩,-⟩:=h4;obtain ⟨l1,hl1⟩:∃ l,l=(dg TB n).length:=⟨_,rfl⟩;have hl0:((l1:Int)==0)=false:=beq_eq_false_iff_ne.2 (by have:l1≠0:=fun h=>HL.q4 ((BL AH n).1 (TN (hl1 ▸ h)));omega);rw [<- hl1] at h ⊢;have S2:=Yh6 (S1.p0.keep hb) (S1.p1.keep hb) (S1.p2.keep hb) (S1.p3.keep hb) h (Yb S1.q4 hb);clear h hb xa xb xc S1;clear hl1;obtain ⟨xa,xb,xc,-,-,-⟩:=S2.p2.facts;go_wp2_with fail;refine (SX S2.p0 (by have:=HL.out;omega)).mono ?_;rintro e w3 ⟨v2,rfl,h,hb⟩;have S3:=Yh7 (S2.p0.keep hb) (S2.p1.keep hb) (S2.p2.keep hb) (S2.p3.keep hb) (S2.p4.keep hb) h (Yb S2.q5 hb);clear h hb xa xb xc S2;go_wp2_with fail;refine (EM S3.p5 S3.p4 HL.q4 (by have:=HL.out;omega) (by have:=HL.out;omega)).mono ?_;rintro e w4 ⟨v3,rfl,h,hb⟩;obtain ⟨pq,Aq,lq,cq,Ae,le,ce,rfl⟩:=h.parts;have S4:=Yh8 (S3.p0.keep hb) (S3.p1.keep hb) (S3.p2.keep hb) (S3.p3.keep hb) (S3.p4.keep hb) (S3.p5.keep hb) h (Yb S3.q6 hb);clear h hb  S3;obtain ⟨f0,f1,f2,f3,f4,f5⟩:=S4.p3.facts;go_wp2_with fail;refine BZ S4.p3 (fun W d0 d1 d2=>by simp [results,Tryz.results37,go_sem,d0,d1,d2];try rfl) rfl ?_;exact ⟨_,rfl,S4.p6.put3 S4.p3 _ _ _,S4.p3.below S4.q7 Yo _ _ _⟩
theorem of_q {w:World} {L:Nat} {a:Value} {b:Bool} {xs ds:List Nat} (ha:Ql w a b xs ds) (hx:xs.length<=L) (hd:ds.length<=L) (h1:0<L) (hL:L<=1048576):
 Calls Tryz.prog 37 #[a] w fun e w'=>∃ v,e=.returned v/\Qd w' (5*L) v (qn (sg b (val WB xs)) (den (val WB ds))) (qd (sg b (val WB xs)) (den (val WB ds)))/\Yg w w':=by
 obtain ⟨s,d,rfl,hs,hdn⟩:=ha;have hz:Zn w L (.agg #[.bool b,s]) (sg b (val WB xs)):=⟨b,s,_,rfl,⟨xs,hs,hx,rfl⟩,rfl⟩;unfold den;by_cases h0:val WB ds=0
 · rw [if_pos h0];exact QG hz hdn hd h1 hL h0
 · rw [if_neg h0];exact Qy hz hdn hd h1 hL h0
end I
end
section
open Go Go.RowKit Go.Proofs Pl
def upz (x y:Int):Int:=if y<0 then -x else x
theorem Sq (p q:Bool) (m:Nat) {n:Nat} (h:n≠0):sg (!(p==q)) m=upz (sg p m) (sg q n):=by
 unfold upz
 cases q
 · rw [if_neg (by simp [sg])];cases p<;>rfl
 · rw [if_pos (by simp [sg];omega)];cases p<;>simp [sg]
theorem Q9 {w:World} {L:Nat} {a c:Value} {x y:Int} (ha:Zn w L a x) (hc:Zn w L c y) (hL:L<=137438953472) (h0:y=0):
 Calls Tryz.prog 157 #[a,c] w fun e w'=>e=.returned (.tuple #[.agg #[.bool false,.slice none 0 0,.slice none 0 0],.int .i64 3])/\Yg w w':=by
 have hc0:=hc;obtain ⟨p,s,m,rfl,-,-⟩:=ha;obtain ⟨q,t,n,rfl,-,-⟩:=hc;have HE:=Yh2 hL (show BH y=0 by rw [h0];rfl);have S0:=Yh2 hc0 (Below.refl w.heap.size w);clear hc0 h0 hL;go_enter Tryz.func157,Tryz.ntmps157;go_upto_region 1 with (fail)
 have hb:=Yb (Yb (Ya w (.cells #[.bool p,s] 34)) (Ya _ (.cells #[.bool q,t] 34))) (Ya _ (.cells #[.bool false,.slice none 0 0,.slice none 0 0] 36));have hX0:=((Bx.new 34 w  (.bool p) s).alloc (.cells #[.bool q,t] 34)).alloc (.cells #[.bool false,.slice none 0 0,.slice none 0 0] 36);have hX1:=(Bx.new1 34 w (.cells #[.bool p,s] 34) (.bool q) t).alloc (.cells #[.bool false,.slice none 0 0,.slice none 0 0] 36);have hX2:=B3.new2 36 w (.cells #[.bool p,s] 34) (.cells #[.bool q,t] 34) (.bool false) (.slice none 0 0) (.slice none 0 0);have S1:=Yh5 (S0.p0.keep hb) hX0 hX1 hX2 (Yb S0.q1 hb);clear hb hX0 hX1 hX2 S0;generalize (((w.alloc _).alloc _).alloc _)=W0 at S1 ⊢;obtain ⟨ya,yb,-,-⟩:=S1.p2.facts;go_wp2_with fail;refine (PN HE.q1 S1.p0 (by have:=HE.out;omega)).mono ?_;rintro e w2 ⟨rfl,hb⟩;have S2:=Yh5 (S1.p0.keep hb) (S1.p1.keep hb) (S1.p2.keep hb) (S1.p3.keep hb) (Yb S1.q4 hb);clear hb ya yb S1;obtain ⟨f0,f1,f2,f3,f4,f5⟩:=S2.p3.facts;go_wp2_with fail;refine BZ S2.p3 (fun W d0 d1 d2=>by simp [results,Tryz.results157,go_sem,d0,d1,d2];try rfl) rfl ?_;exact ⟨rfl,S2.p3.below S2.q4 Yo _ _ _⟩
theorem R8 {w:World} {L:Nat} {a c:Value} {x y:Int} (ha:Zn w L a x) (hc:Zn w L c y) (hL:L<=137438953472) (h0:y≠0):
 Calls Tryz.prog 157 #[a,c] w fun e w'=>∃ v,e=.returned (.tuple #[v,.int .i64 0])/\Qs w w' v (qn (upz x y) y.natAbs) (qd (upz x y) y.natAbs):=by
 have hc0:=hc;obtain ⟨p,s,m,rfl,hs,rfl⟩:=ha;obtain ⟨q,t,n,rfl,ht,ey⟩:=hc;have hn:y.natAbs=n:=by rw [ey,Cb]
 have hn0:n≠0:=fun h=>h0 (by rw [ey,h,Iw]);rw [hn,ey,<- Sq p q m hn0];obtain ⟨k,hk⟩:∃ k,BH y=k:=⟨_,rfl⟩;have hk0:(k==0)=false:=beq_eq_false_iff_ne.2 (by rw [<- hk];unfold BH;rw [if_neg h0];split<;>decide);have HE:=Yh3 hL hk hn0;have S0:=Yh4 hc0 hs ht (Below.refl w.heap.size w);clear hc0 h0 hL hs ht hn ey hk hn0;go_enter Tryz.func157,Tryz.ntmps157;go_upto_region 1 with (fail)
 have hb:=Yb (Yb (Ya w (.cells #[.bool p,s] 34)) (Ya _ (.cells #[.bool q,t] 34))) (Ya _ (.cells #[.bool false,.slice none 0 0,.slice none 0 0] 36));have hX0:=((Bx.new 34 w  (.bool p) s).alloc (.cells #[.bool q,t] 34)).alloc (.cells #[.bool false,.slice none 0 0,.slice none 0 0] 36);have hX1:=(Bx.new1 34 w (.cells #[.bool p,s] 34) (.bool q) t).alloc (.cells #[.bool false,.slice none 0 0,.slice none 0 0] 36);have hX2:=B3.new2 36 w (.cells #[.bool p,s] 34) (.cells #[.bool q,t] 34) (.bool false) (.slice none 0 0) (.slice none 0 0);have S1:=Yh7 (S0.p0.keep hb) (S0.p1.keep hb) (S0.p2.keep hb) hX0 hX1 hX2 (Yb S0.q3 hb);clear hb hX0 hX1 hX2 S0;generalize (((w.alloc _).alloc _).alloc _)=W0 at S1 ⊢;obtain ⟨ya,yb,-,-⟩:=S1.p4.facts;go_wp2_with fail;refine (PN HE.p1 S1.p0 (by have:=HE.out;omega)).mono ?_;rintro e w2 ⟨rfl,hb⟩;have S2:=Yh7 (S1.p0.keep hb) (S1.p1.keep hb) (S1.p2.keep hb) (S1.p3.keep hb) (S1.p4.keep hb) (S1.p5.keep hb) (Yb S1.q6 hb);clear hb ya yb S1;go_upto_region 3 with (fail)
 have S3:=Yh7 (S2.p0.keep (Ai _ 1)) (S2.p1.keep (Ai _ 1)) (S2.p2.keep (Ai _ 1)) (S2.p3.keep (Ai _ 1)) (S2.p4.keep (Ai _ 1)) (S2.p5.keep (Ai _ 1)) (Yb S2.q6 (Ai _ 1));refine wp_region_held_drew (S:=fun W=>W.cell? ⟨w.heap.size,0,none⟩=some (.bool p)/\W.cell? ⟨w.heap.size,1,none⟩=some (s)/\W.cell? ⟨w.heap.size+1,0,none⟩=some (.bool q)/\W.cell? ⟨w.heap.size+1,1,none⟩=some t) (by kernel_rfl) ⟨S3.p3.facts.1,S3.p3.facts.2.1,S3.p4.facts.1,S3.p4.facts.2.1⟩ (fun Hh=>?_);refine AL 9 [0,1,2,3,4,5,6,8,9] Hh fun K hK=>?_
 repeat refine rgA ?_
 refine hK _ _ ?_;clear hK K;refine rgO 7 fun K hK=>?_;go_simp;go_at_call 214;refine (DQ (!(p==q)) S3.p1 (by have:=HE.out;omega)).mono ?_;rintro e w4 ⟨v,rfl,h⟩;have S4:=Yh8 (S3.p0.keep h.below) (S3.p1.keep h.below) (S3.p2.keep h.below) (S3.p3.keep h.below) (S3.p4.keep h.below) (S3.p5.keep h.below) (h.zn (by rw [Cb];exact S3.p1.lt)) (Yb S3.q6 h.below);clear h Hh;go_wp2_with fail;refine rgK hK ⟨S4.p3.facts.1,S4.p3.facts.2.1,S4.p4.facts.1,S4.p4.facts.2.1⟩ fun Hh=>?_;clear hK K;refine rgO 10 fun K hK=>?_;go_simp;go_at_call 163;refine (DO S4.p6 S4.p2 HE.q2 (by have:=HE.out;omega) (by have:=HE.out;omega)).mono ?_;rintro e w5 ⟨v,rfl,h⟩;obtain ⟨pq,Aq,lq,cq,Ae,le,ce,rfl⟩:=h.qo.parts;have S5:=Yh9 (S4.p0.keep h.below) (S4.p1.keep h.below) (S4.p2.keep h.below) (S4.p3.keep h.below) (S4.p4.keep h.below) (S4.p5.keep h.below) (S4.p6.keep h.below) (h.from S4.q7) (Yb S4.q7 h.below);clear h Hh;go_wp2_with fail;refine rgK hK ⟨S5.p3.facts.1,S5.p3.facts.2.1,S5.p4.facts.1,S5.p4.facts.2.1⟩ fun Hh=>?_;clear hK K;obtain ⟨f0,f1,f2,f3,f4,f5⟩:=S5.p5.facts;refine rgO 11 fun K hK=>?_;go_simp;clear f0 f1 f2 f3 f4 f5;refine rgK hK ⟨AE _ S5.p3.facts.1 Yo,AE _ S5.p3.facts.2.1 Yo,AE _ S5.p4.facts.1 Yo,AE _ S5.p4.facts.2.1 Yo⟩ fun Hh=>?_;clear hK K;refine rgT 12 Hh ?_;refine Yw ?_;clear Hh;go_wp2_with fail;refine BZ S5.p5 (fun W d0 d1 d2=>by simp [results,Tryz.results157,go_sem,d0,d1,d2];try rfl) rfl ?_;exact ⟨_,rfl,S5.p7.put3 BF S5.p5 Yo _ _ _⟩
end
section
open Go Go.RowKit Go.Proofs Pl
def rest (l:List UInt8):List UInt8:=l.dropWhile digB
end
section
open Go Go.RowKit Go.Proofs Pl
def B6 (t:TypeId) (w:World) (g:Nat) (a b c d e f:Value):Prop:=w.heap[g]?=some (.cells #[a,b,c,d,e,f] t (0,0))
end
section
open Go Go.RowKit Go.Proofs Pl
theorem Gt (z:Int) {n:Nat} (h:n≠0):(mkRat z n).num=qn z n:=by
 rw [Rat.num_mkRat,if_neg h,Nat.gcd_comm];unfold qn sg;have hd:Nat.gcd z.natAbs n ∣ z.natAbs:=Nat.gcd_dvd_left _ _
 rcases Int.natAbs_eq z with e | e
 · obtain ⟨m,hm⟩:∃ m,z.natAbs=m:=⟨_,rfl⟩;rw [hm] at e hd ⊢;have hn:decide (z<0)=false:=decide_eq_false Yo;rw [hn,e];rfl
 · obtain ⟨m,hm⟩:∃ m,z.natAbs=m:=⟨_,rfl⟩;rw [hm] at e hd ⊢;rw [e,Int.neg_ediv_of_dvd (Int.ofNat_dvd.2 hd)]
   rcases TQ m with h0 | h0
   · subst h0;simp
   · have hn:decide (-(m:Int)<0)=true:=decide_eq_true Yo;rw [hn];rfl
theorem IX (z:Int) {n:Nat} (h:n≠0):(mkRat z n).den=qd z n:=by
 rw [Rat.den_mkRat,if_neg h,Nat.gcd_comm];rfl
def rv (b:Bool) (xs ds:List Nat):Rat:=mkRat (sg b (val WB xs)) (den (val WB ds))
abbrev Tms:=List (Int × Rat)
def AF:Tms->Int->Rat
 | [],_=>0
 | (k,q)::l,c=>(if k=c then q else 0)+AF l c
theorem Hv (a b:Tms) (c:Int):AF (a++b) c=AF a c+AF b c:=by
 induction a with
 | nil=>simp [AF,Vn]
 | cons t a ih=>obtain ⟨k,q⟩:=t;simp only [Vl,AF,ih,Rat.add_assoc]
theorem KH {a b:Tms} (h:a.Perm b) (c:Int):AF a c=AF b c:=by
 induction h with
 | nil=>rfl
 | cons t _ ih=>obtain ⟨k,q⟩:=t;simp only [AF,ih]
 | swap t u l=>obtain ⟨k,q⟩:=t;obtain ⟨j,r⟩:=u;simp only [AF];rw [Rat.add_left_comm]
 | trans _ _ h1 h2=>exact h1.trans h2
theorem DD {l:Tms} {c:Int} (h:∀ t∈l,t.1≠c):AF l c=0:=by
 induction l with
 | nil=>rfl
 | cons t l ih=>
  obtain ⟨k,q⟩:=t;have:=h (k,q) (by simp);simp only [AF];rw [if_neg this,ih fun t ht=>h t (by simp [ht]),Vn]
structure Vec (l:Tms):Prop where
 up:l.Pairwise fun a b=>a.1<b.1
 pos:∀ t∈l,0<=t.1
 ne:∀ t∈l,t.2≠0
theorem Vec.nil:Vec []:=⟨List.Pairwise.nil,by simp,by simp⟩
theorem Vec.tail {t:Int × Rat} {l:Tms} (h:Vec (t::l)):Vec l:=⟨h.up.tail,fun u hu=>h.pos u (by simp [hu]),fun u hu=>h.ne u (by simp [hu])⟩
theorem C0 {k:Int} {q:Rat} {l:Tms} (h:((k,q)::l).Pairwise fun a b=>a.1<b.1):AF ((k,q)::l) k=q:=by
 show (if k=k then q else 0)+AF l k=q;rw [if_pos rfl,DD fun t ht=>Int.ne_of_gt (UZ h ht),VN]
theorem FZ {l:Tms} {c:Int} (h:∀ t∈l,c<t.1):AF l c=0:=DD fun t ht=>Int.ne_of_gt (h t ht)
theorem Vec.ext {a b:Tms} (ha:Vec a) (hb:Vec b) (h:∀ c,0<=c->AF a c=AF b c):a=b:=by
 induction a generalizing b with
 | nil=>
  cases b with
  | nil=>rfl
  | cons t b=>
   exfalso;obtain ⟨k,q⟩:=t;have:=h k (hb.pos (k,q) (by simp));rw [C0 hb.up] at this;exact hb.ne (k,q) (by simp) this.symm
 | cons t a ih=>
  obtain ⟨k,q⟩:=t
  cases b with
  | nil=>
   exfalso;have:=h k (ha.pos (k,q) (by simp));rw [C0 ha.up] at this;exact ha.ne (k,q) (by simp) this
  | cons u b=>
   obtain ⟨j,r⟩:=u;have gt:∀ {x:Tms} {t:Int × Rat},(t::x).Pairwise (fun a b=>a.1<b.1)->∀ u∈x,t.1<u.1:=fun h u hu=>UZ h hu;have hk:=h k (ha.pos (k,q) (by simp));have hj:=h j (hb.pos (j,r) (by simp));rw [C0 ha.up] at hk;rw [C0 hb.up] at hj
   have e:k=j:=by
    rcases Int.lt_trichotomy k j with hl | he | hl
    · exfalso
      have:AF ((j,r)::b) k=0:=FZ fun t ht=>by
       rcases Ue.1 ht with rfl | ht
       · exact hl
       · exact Int.lt_trans hl (gt hb.up t ht)
      rw [this] at hk;exact ha.ne (k,q) (by simp) hk
    · exact he
    · exfalso
      have:AF ((k,q)::a) j=0:=FZ fun t ht=>by
       rcases Ue.1 ht with rfl | ht
       · exact hl
       · exact Int.lt_trans hl (gt ha.up t ht)
      rw [this] at hj;exact hb.ne (j,r) (by simp) hj.symm
   subst e;rw [C0 hb.up] at hk;subst hk
   congr 1
   refine ih ha.tail hb.tail fun c hc=>?_;have:=h c hc;simp only [AF] at this;exact Rat.add_left_cancel _ this
def GU (k:Int) (q:Rat):Tms->Tms
 | []=>if q=0 then [] else [(k,q)]
 | (c,x)::r=>if k<c then (if q=0 then (c,x)::r else (k,q)::(c,x)::r) else if k=c then (if q+x=0 then r else (c,q+x)::r) else (c,x)::GU k q r
def mkV:Tms->Tms
 | []=>[]
 | (k,q)::l=>if k<0 then mkV l else GU k q (mkV l)
theorem Ov {k:Int} {q:Rat} {l:Tms} {t:Int × Rat} (h:t∈GU k q l):t.1=k∨∃ u∈l,u.1=t.1:=by
 induction l with
 | nil=>
  unfold GU at h
  split at h
  · simp at h
  · simp at h;exact .inl (by rw [h])
 | cons u l ih=>
  obtain ⟨c,x⟩:=u;unfold GU at h
  split at h
  · split at h
    · exact .inr ⟨t,h,rfl⟩
    · rcases Ue.1 h with rfl | h
      · exact .inl rfl
      · exact .inr ⟨t,h,rfl⟩
  · split at h
    · split at h
      · exact .inr ⟨t,UR _ h,rfl⟩
      · rcases Ue.1 h with rfl | h
        · exact .inr ⟨(c,x),by simp,rfl⟩
        · exact .inr ⟨t,UR _ h,rfl⟩
    · rcases Ue.1 h with rfl | h
      · exact .inr ⟨(c,x),by simp,rfl⟩
      · rcases ih h with h | ⟨v,hv,he⟩
        · exact .inl h
        · exact .inr ⟨v,UR _ hv,he⟩
theorem Vec.put {k:Int} {q:Rat} {l:Tms} (hk:0<=k) (h:Vec l):Vec (GU k q l):=by
 induction l with
 | nil=>
  unfold GU
  split
  · exact Vec.nil
  · exact ⟨by simp,by simp;exact hk,by simp;assumption⟩
 | cons u l ih=>
  obtain ⟨c,x⟩:=u;have hl:∀ u∈l,c<u.1:=fun u hu=>UZ h.up hu;have hc:=h.pos (c,x) (by simp);have hx:=h.ne (c,x) (by simp);unfold GU
  split
  · rename_i hlt
    split
    · exact h
    · refine ⟨List.Pairwise.cons (fun u hu=>?_) h.up,fun u hu=>?_,fun u hu=>?_⟩
      · rcases Ue.1 hu with rfl | hu
        · exact hlt
        · exact Int.lt_trans hlt (hl u hu)
      · rcases Ue.1 hu with rfl | hu
        · exact hk
        · exact h.pos u hu
      · rcases Ue.1 hu with rfl | hu
        · assumption
        · exact h.ne u hu
  · split
    · split
      · exact h.tail
      · refine ⟨List.Pairwise.cons hl h.tail.up,fun u hu=>?_,fun u hu=>?_⟩
        · rcases Ue.1 hu with rfl | hu
          · exact hc
          · exact h.tail.pos u hu
        · rcases Ue.1 hu with rfl | hu
          · assumption
          · exact h.tail.ne u hu
    · have hkc:c<k:=by omega
      have hp:=ih h.tail;refine ⟨List.Pairwise.cons (fun u hu=>?_) hp.up,fun u hu=>?_,fun u hu=>?_⟩
      · rcases Ov hu with e | ⟨v,hv,e⟩
        · show c<u.1;rw [e];exact hkc
        · show c<u.1;rw [<- e];exact hl v hv
      · rcases Ue.1 hu with rfl | hu
        · exact hc
        · exact hp.pos u hu
      · rcases Ue.1 hu with rfl | hu
        · exact hx
        · exact hp.ne u hu
theorem NA (k:Int) (q:Rat) (l:Tms) (c:Int):AF (GU k q l) c=(if k=c then q else 0)+AF l c:=by
 induction l with
 | nil=>
  unfold GU
  split
  · rename_i h;simp [AF,h,VN]
  · simp [AF]
 | cons u l ih=>
  obtain ⟨j,x⟩:=u;unfold GU
  split
  · split
    · rename_i h;simp [AF,h,Vn]
    · rfl
  · split
    · rename_i _ hj;subst hj
      split
      · rename_i h0;simp only [AF]
        split
        · rw [<- Rat.add_assoc,h0,Vn]
        · rw [Vn,Vn]
      · simp only [AF]
        split
        · rw [Rat.add_assoc]
        · rw [Vn,Vn]
    · simp only [AF,ih];rw [Rat.add_left_comm]
theorem NQ (l:Tms):Vec (mkV l):=by
 induction l with
 | nil=>exact Vec.nil
 | cons t l ih=>
  obtain ⟨k,q⟩:=t;unfold mkV
  split
  · exact ih
  · exact Vec.put Yo ih
theorem Jh (l:Tms) (c:Int) (hc:0<=c):AF (mkV l) c=AF l c:=by
 induction l with
 | nil=>rfl
 | cons t l ih=>
  obtain ⟨k,q⟩:=t;unfold mkV
  split
  · rw [ih];simp only [AF];rw [if_neg (by omega),Vn]
  · rw [NA,ih];rfl
theorem PB {l m:Tms} (h:Vec m) (hs:∀ c,0<=c->AF m c=AF l c):m=mkV l:=
 Vec.ext h (NQ l) fun c hc=>by rw [hs c hc,Jh l c hc]
theorem QD {a b:Tms} (h:a.Perm b):mkV a=mkV b:=PB (NQ a) fun c hc=>by rw [Jh a c hc,KH h]
end
end Go.Proofs.YtlblnmmfphiobaaGreat
