import Derived.Test.YtlblnmmfphiobaaGreatPNA7
import Derived.Lib.Strings
set_option maxRecDepth 100000
set_option maxHeartbeats 8000000
set_option linter.unusedVariables false
set_option linter.unusedSimpArgs false
namespace Go.Proofs.YtlblnmmfphiobaaGreat
section
open Go Go.RowKit Go.Proofs Pl
theorem QR {B m n p q:Nat} (hB:1<B) (hm:m<B ^ p) (hn:n<B ^ q):m+n<B ^ (p+q+1):=by
 have h1:B ^ p<=B ^ (p+q):=Ua Yo Yo;have h2:B ^ q<=B ^ (p+q):=Ua Yo Yo;have h3:B ^ (p+q)*2<=B ^ (p+q)*B:=TY _ hB;rw [UD];omega
theorem pow_mul {B m n p q:Nat} (hm:m<B ^ p) (hn:n<B ^ q):m*n<B ^ (p+q):=by
 rw [UF];exact UG hm hn
theorem Em (p:Bool) {L:Nat} (hL:L<=274877906944) {n:Nat} (hn:n<WB ^ L) {w w1:World} {s:Value} (h:Rs w w1 s n) (W:World) (hb:Below w1.heap.size w1 W):
 Calls Tryz.prog 214 #[.bool p,s] W fun e w'=>∃ v,e=.returned v/\Zs w w' v (sg p n)/\Yg W w':=
 (DQ p ((h.nm hn).keep hb) hL).mono fun e w' ⟨v,he,hz⟩=>⟨v,he,hz.from (Yb h.2 hb),hz.below⟩
theorem J5 {w:World} {L1 L2 m n:Nat} {s t:Value} (p q:Bool) (epq:p=q) (hs:Nm w L1 s m) (ht:Nm w L2 t n) (h1:L1<=68719476736) (h2:L2<=68719476736):
 Calls Tryz.prog 164 #[.agg #[.bool p,s],.agg #[.bool q,t]] w fun e w'=>∃ v,e=.returned v/\Zs w w' v (sg p (m+n)):=by
 have hadd:=fun W (hb:Yg w W)=>G7 (hs.keep hb) (ht.keep hb) Yo Yo;have hlt:=QR Aw hs.lt ht.lt;have hmk:=fun w1 w2 v1 (hb:Yg w w1) (h:Rs w1 w2 v1 (m+n))=>Em p (L:=L1+L2+1) Yo hlt (h.out hb);have HA:=Yh2 hadd hmk;have N0:=new3 34 34 34 w (.bool p) s (.bool q) t (.bool false) (.slice none 0 0);have hpq:(p==q)=true:=by simp [epq]
 clear hadd hmk hlt hs ht h1 h2 epq;go_enter Tryz.func164,Tryz.ntmps164;go_upto_region 2 with (fail)
 generalize ((w.alloc _).alloc _).alloc _=W0 at N0 ⊢;have HN:=Lib.hid N0;have HS0:=N0.ld;clear N0 hpq
 go_region_held3 (fun W=>W.cell? ⟨w.heap.size,0,none⟩=some (.bool p)/\W.cell? ⟨w.heap.size,1,none⟩=some s/\W.cell? ⟨w.heap.size+1,0,none⟩=some (.bool q)/\W.cell? ⟨w.heap.size+1,1,none⟩=some t) (first | exact HS0 | exact HS1 | exact HS2 | exact (H2.p0.st _ _).ld)
  (first
   | (go_at_call 219;refine (HA.p0 _ (by exact Yb HN.q3 (Ai _ 1))).mono ?_;rintro e w1 ⟨v1,rfl,h1⟩;have N1:=(HN.out.drew 1).keep h1.2;have HS1:=N1.ld;have H1:=Yh2 N1 (HA.q1 _ _ _ (Yb HN.q3 (Ai _ 1)) h1);clear N1 h1)
   | (go_at_call 214;refine (H1.q1 _ (Below.refl _ _)).mono ?_;rintro e w2 ⟨v2,rfl,h2,hb2⟩;obtain ⟨pz,A,la,c,rfl,H2'⟩:=h2.parts;have N2:=H1.p0.keep hb2;have HS2:=N2.ld;obtain ⟨k0,k1,k2,k3⟩:=N2.2.2.1.facts;have H2:=Yh2 N2 h2;clear N2 h2 H2' hb2))
 go_wp2_with fail;refine Bm H2.p0.2.2.1 (fun W d0 d1=>by simp [results,Tryz.results164,go_sem,d0,d1]) rfl ?_;exact ⟨_,rfl,H2.q1.put Bs H2.p0.2.2.1 Yo _ _⟩
theorem Ki {w:World} {L1 L2 m n:Nat} {s t:Value} (p q:Bool) (epq:q=!p) (hs:Nm w L1 s m) (ht:Nm w L2 t n) (h1:L1<=68719476736) (hle:n<=m):
 Calls Tryz.prog 164 #[.agg #[.bool p,s],.agg #[.bool q,t]] w fun e w'=>∃ v,e=.returned v/\Zs w w' v (sg p (m - n)):=by
 have hsub:=fun W (hb:Yg w W)=>J6 (hs.keep hb) (ht.keep hb) Yo;rw [show CQ m n=0 from by simp [CQ];omega] at hsub;have hmk:=fun w1 w2 v1 (hb:Yg w w1) (h:Rs w1 w2 v1 (m - n))=>Em p (L:=L1) Yo (Ug (Nat.sub_le _ _) hs.lt) (h.out hb);have HA:=Yh2 hsub hmk;have hpq:(p==q)=false:=by subst epq;cases p<;>rfl
 clear hsub hmk hs ht h1 hle epq;go_enter Tryz.func164,Tryz.ntmps164;go_wp2_with fail;refine (HA.p0 _ (by go_grown)).mono ?_;rintro e w1 ⟨v1,rfl,h1⟩;have N1:=(new3 34 34 34 w (.bool p) s (.bool q) t (.bool false) (.slice none 0 0)).keep h1.2;obtain ⟨c0,c1,c2,c3⟩:=N1.ld;have H1:=Yh2 N1 (HA.q1 _ _ _ (by go_grown) h1);clear N1 h1;go_wp2_with fail;refine (H1.q1 _ (Below.refl _ _)).mono ?_;rintro e w2 ⟨v2,rfl,h2,hb2⟩;obtain ⟨pz,A,la,c,rfl,H2'⟩:=h2.parts;have N2:=H1.p0.keep hb2;obtain ⟨k0,k1,k2,k3⟩:=N2.2.2.1.facts;have H2:=Yh2 N2 h2;clear N2 h2 H2' hb2 c0 c1 c2 c3;go_wp2_with fail;refine Bm H2.p0.2.2.1 (fun W d0 d1=>by simp [results,Tryz.results164,go_sem,d0,d1]) rfl ?_;exact ⟨_,rfl,H2.q1.put Bs H2.p0.2.2.1 Yo _ _⟩
theorem Kk {w:World} {L1 L2 m n:Nat} {s t:Value} (p q:Bool) (epq:q=!p) (hs:Nm w L1 s m) (ht:Nm w L2 t n) (h1:L1<=68719476736) (h2:L2<=68719476736) (hlt:m<n):
 Calls Tryz.prog 164 #[.agg #[.bool p,s],.agg #[.bool q,t]] w fun e w'=>∃ v,e=.returned v/\Zs w w' v (sg q (n - m)):=by
 have hsub:=fun W (hb:Yg w W)=>J6 (hs.keep hb) (ht.keep hb) Yo;rw [show CQ m n=4 from by simp [CQ,hlt]] at hsub;have hsub2:=fun W (hb:Yg w W)=>J6 (ht.keep hb) (hs.keep hb) Yo;rw [show CQ n m=0 from by simp [CQ];omega] at hsub2;have hmk:=fun w1 w2 v1 (hb:Yg w w1) (h:Rs w1 w2 v1 (n - m))=>Em q (L:=L2) Yo (Ug (Nat.sub_le _ _) ht.lt) (h.out hb);have HA:=Yh3 hsub hsub2 hmk;have hpq:(p==q)=false:=by subst epq;cases p<;>rfl
 clear hsub hsub2 hmk hs ht h1 h2 hlt epq;go_enter Tryz.func164,Tryz.ntmps164;go_wp2_with fail;refine (HA.p0 _ (by go_grown)).mono ?_;rintro e w1 ⟨v1,rfl,h1⟩;have N1:=(new3 34 34 34 w (.bool p) s (.bool q) t (.bool false) (.slice none 0 0)).keep h1.2;obtain ⟨c0,c1,c2,c3⟩:=N1.ld;have H1:=Lib.hid N1;clear N1 h1;go_wp2_with fail;refine (HA.p1 _ H1.q3).mono ?_;rintro e w2 ⟨v2,rfl,h2⟩;have N2:=H1.out.keep h2.2;have H2:=Yh2 N2 (HA.q2 _ _ _ H1.q3 h2);clear c0 c1 c2 c3;obtain ⟨c0,c1,c2,c3⟩:=N2.ld;clear N2 h2 H1 HA;go_wp2_with fail;refine (H2.q1 _ (Below.refl _ _)).mono ?_;rintro e w3 ⟨v3,rfl,h3,hb3⟩;obtain ⟨pz,A,la,c,rfl,H3'⟩:=h3.parts;have N3:=H2.p0.keep hb3;obtain ⟨k0,k1,k2,k3⟩:=N3.2.2.1.facts;have H3:=Yh2 N3 h3;clear N3 h3 H3' hb3 c0 c1 c2 c3 H2;go_wp2_with fail;refine Bm H3.p0.2.2.1 (fun W d0 d1=>by simp [results,Tryz.results164,go_sem,d0,d1]) rfl ?_;exact ⟨_,rfl,H3.q1.put Bs H3.p0.2.2.1 Yo _ _⟩
theorem Rl {w:World} {L1 L2:Nat} {a b:Value} {x y:Int} (ha:Zn w L1 a x) (hb:Zn w L2 b y) (h1:L1<=68719476736) (h2:L2<=68719476736):
 Calls Tryz.prog 164 #[a,b] w fun e w'=>∃ v,e=.returned v/\Zs w w' v (x+y):=by
 obtain ⟨p,s,m,rfl,hs,rfl⟩:=ha;obtain ⟨q,t,n,rfl,ht,rfl⟩:=hb;by_cases hpq:p=q
 · subst hpq;rw [Pu];exact J5 p p rfl hs ht h1 h2
 · obtain rfl:q=!p:=by cases p<;>cases q<;>simp_all
   by_cases hle:n<=m
   · rw [OL p m n hle];exact Ki p _ rfl hs ht h1 hle
   · rw [Lz p m n (by omega)];exact Kk p _ rfl hs ht h1 h2 Yo
theorem Q3 {x y:Int} {B p q:Nat} (hx:x.natAbs<B ^ p) (hy:y.natAbs<B ^ q):(x*y).natAbs<B ^ (p+q):=by
 rw [UL];exact pow_mul hx hy
theorem Rz {w:World} {L1 L2:Nat} {a b:Value} {x y:Int} (ha:Zn w L1 a x) (hb:Zn w L2 b y) (h1:L1<=68719476736) (h2:L2<=68719476736):
 Calls Tryz.prog 253 #[a,b] w fun e w'=>∃ v,e=.returned v/\Zs w w' v (x - y):=by
 have hn:=fun W (hw:Yg w W)=>Pc (hb.keep hw) Yo
 have hadd:=fun w1 w2 v1 (hw:Yg w w1) (h:Zs w1 w2 v1 (-y)) W (hw2:Yg w2 W)=>
  (Rl (ha.keep (Yb (Yb hw h.below) hw2)) ((h.zn (L:=L2) (by rw [Wj];exact hb.lt)).keep hw2) h1 h2).mono (R':=fun e w'=>∃ v,e=.returned v/\Zs w w' v (x - y)/\Yg W w') fun e w' ⟨v,he,hz⟩=>⟨v,he,by rw [Int.sub_eq_add_neg];exact hz.from (Yb (Yb hw h.below) hw2),hz.below⟩
 have HA:=Yh2 hn hadd;clear hn hadd h1 h2;obtain ⟨p,s,m,rfl,-,-⟩:=ha;obtain ⟨q,t,n,rfl,-,-⟩:=hb;have N0:=new3 34 34 34 w (.bool p) s (.bool q) t (.bool false) (.slice none 0 0);have hpq:True:=trivial;go_enter Tryz.func253,Tryz.ntmps253;go_upto_region 1 with (fail)
 generalize ((w.alloc _).alloc _).alloc _=W0 at N0 ⊢;have HN:=Lib.hid N0;have HS0:=N0.ld;clear N0 hpq
 go_region_held3 (fun W=>W.cell? ⟨w.heap.size,0,none⟩=some (.bool p)/\W.cell? ⟨w.heap.size,1,none⟩=some s/\W.cell? ⟨w.heap.size+1,0,none⟩=some (.bool q)/\W.cell? ⟨w.heap.size+1,1,none⟩=some t) (first | exact HS0 | exact HS1 | exact HS2 | exact (H2.p0.st _ _).ld)
  (first
   | (go_at_call 167;refine (HA.p0 _ (by exact Yb HN.q3 (Ai _ 1))).mono ?_;rintro e w1 ⟨v1,rfl,h1⟩;have N1:=(HN.out.drew 1).keep h1.below;have HS1:=N1.ld;have H1:=Yh2 N1 (HA.q1 _ _ _ (Yb HN.q3 (Ai _ 1)) h1);clear N1 h1)
   | (go_at_call 164;refine (H1.q1 _ (Below.refl _ _)).mono ?_;rintro e w2 ⟨v2,rfl,h2,hb2⟩;obtain ⟨pz,A,la,c,rfl,H2'⟩:=h2.parts;have N2:=H1.p0.keep hb2;have HS2:=N2.ld;obtain ⟨k0,k1,k2,k3⟩:=N2.2.2.1.facts;have H2:=Yh2 N2 h2;clear N2 h2 H2' hb2))
 go_wp2_with fail;refine Bm H2.p0.2.2.1 (fun W d0 d1=>by simp [results,Tryz.results253,go_sem,d0,d1]) rfl ?_;exact ⟨_,rfl,H2.q1.put Bs H2.p0.2.2.1 Yo _ _⟩
theorem RA {w:World} {L1 L2:Nat} {a b:Value} {x y:Int} (ha:Zn w L1 a x) (hb:Zn w L2 b y) (h1:L1<=68719476736) (h2:L2<=68719476736):
 Calls Tryz.prog 166 #[a,b] w fun e w'=>∃ v,e=.returned v/\Zs w w' v (x*y):=by
 obtain ⟨p,s,m,rfl,hs,rfl⟩:=ha;obtain ⟨q,t,n,rfl,ht,rfl⟩:=hb;rw [Kz];obtain ⟨r,hr⟩:∃ r,(p !=q)=r:=⟨_,rfl⟩;rw [hr];have hr:(!(p==q))=r:=hr;have hmul:=fun W (hb:Yg w W)=>Dj (hs.keep hb) (ht.keep hb) Yo Yo;have hlt:=pow_mul hs.lt ht.lt;have hmk:=fun w1 w2 v1 (hb:Yg w w1) (h:Rs w1 w2 v1 (m*n))=>Em r (L:=L1+L2) Yo hlt (h.out hb);have HA:=Yh2 hmul hmk;have N0:=new3 34 34 34 w (.bool p) s (.bool q) t (.bool false) (.slice none 0 0);have hpq:True:=trivial;clear hmul hmk hs ht h1 h2 hlt;go_enter Tryz.func166,Tryz.ntmps166;go_upto_region 1 with (fail)
 generalize ((w.alloc _).alloc _).alloc _=W0 at N0 ⊢;have HN:=Lib.hid N0;have HS0:=N0.ld;clear N0 hpq
 go_region_held3 (fun W=>W.cell? ⟨w.heap.size,0,none⟩=some (.bool p)/\W.cell? ⟨w.heap.size,1,none⟩=some s/\W.cell? ⟨w.heap.size+1,0,none⟩=some (.bool q)/\W.cell? ⟨w.heap.size+1,1,none⟩=some t) (first | exact HS0 | exact HS1 | exact HS2 | exact (H2.p0.st _ _).ld)
  (first
   | (go_at_call 165;refine (HA.p0 _ (by exact Yb HN.q3 (Ai _ 1))).mono ?_;rintro e w1 ⟨v1,rfl,h1⟩;have N1:=(HN.out.drew 1).keep h1.2;have HS1:=N1.ld;have H1:=Yh2 N1 (HA.q1 _ _ _ (Yb HN.q3 (Ai _ 1)) h1);clear N1 h1)
   | (go_at_call 214;refine (H1.q1 _ (Below.refl _ _)).mono ?_;rintro e w2 ⟨v2,rfl,h2,hb2⟩;obtain ⟨pz,A,la,c,rfl,H2'⟩:=h2.parts;have N2:=H1.p0.keep hb2;have HS2:=N2.ld;obtain ⟨k0,k1,k2,k3⟩:=N2.2.2.1.facts;have H2:=Yh2 N2 h2;clear N2 h2 H2' hb2))
 go_wp2_with fail;refine Bm H2.p0.2.2.1 (fun W d0 d1=>by simp [results,Tryz.results166,go_sem,d0,d1]) rfl ?_;exact ⟨_,rfl,H2.q1.put Bs H2.p0.2.2.1 Yo _ _⟩
end
section
open Go Go.RowKit Go.Proofs Pl
section
variable {t:TypeId} {w:World} {g:Nat} {p0:Bool} {A0:Option Addr} {l0 c0:Nat}
theorem Bx.int_cell (X:Bx t w g (.bool p0) (.slice A0 l0 c0)) {b o:Nat} {k:IntKind} {n:Int} (h:w.cell? ⟨b,o,none⟩=some (.int k n)) (x y:Value):
 ((w.setCell ⟨g,0,none⟩ x).setCell ⟨g,1,none⟩ y).cell? ⟨b,o,none⟩=some (.int k n):=by
 have hne:b≠g:=by
  rintro rfl;have X':w.heap[b]?=_:=X
  match o,h with
  | 0,h=>simp [World.cell?,X'] at h
  | 1,h=>simp [World.cell?,X'] at h
  | o+2,h=>simp [World.cell?,X'] at h
 have e:((w.setCell ⟨g,0,none⟩ x).setCell ⟨g,1,none⟩ y).heap[b]?=w.heap[b]?:=
  (Below.heap_setCell _ _ _ _ (by exact hne)).trans (Below.heap_setCell _ _ _ _ (by exact hne))
 exact (World.cell?_of_block (w:=w) (a:=⟨b,o,none⟩) e).trans h
variable {xs:List Nat} {A:Option Addr} {s v:Value} {L n:Nat} {z:Int}
theorem Rd.put (h:Rd w A xs) (X:Bx t w g (.bool p0) (.slice A0 l0 c0)) (x y:Value):Rd ((w.setCell ⟨g,0,none⟩ x).setCell ⟨g,1,none⟩ y) A xs:=by
 rcases h with ⟨h1,h2⟩
 refine ⟨h1,?_⟩
 rcases h2 with h2 | ⟨b,o,h3,h4⟩
 · exact .inl h2
 · exact .inr ⟨b,o,h3,fun j k hj=>X.int_cell (h4 j k hj) x y⟩
theorem Nl.put (h:Nl w s xs) (X:Bx t w g (.bool p0) (.slice A0 l0 c0)) (x y:Value):Nl ((w.setCell ⟨g,0,none⟩ x).setCell ⟨g,1,none⟩ y) s xs:=by
 obtain ⟨A,c,h1,h2,h3⟩:=h;exact ⟨A,c,h1,h2.put X x y,h3⟩
namespace I
theorem Rd.put (h:Rd w A xs) (X:Bx t w g (.bool p0) (.slice A0 l0 c0)) (x y:Value):Rd ((w.setCell ⟨g,0,none⟩ x).setCell ⟨g,1,none⟩ y) A xs:=by
 rcases h with ⟨h1,h2⟩
 refine ⟨h1,?_⟩
 rcases h2 with h2 | ⟨b,o,h3,h4⟩
 · exact .inl h2
 · exact .inr ⟨b,o,h3,fun j k hj=>X.int_cell (h4 j k hj) x y⟩
theorem Nl.put (h:Nl w s xs) (X:Bx t w g (.bool p0) (.slice A0 l0 c0)) (x y:Value):Nl ((w.setCell ⟨g,0,none⟩ x).setCell ⟨g,1,none⟩ y) s xs:=by
 obtain ⟨A,c,h1,h2,h3⟩:=h;exact ⟨A,c,h1,h2.put X x y,h3⟩
theorem Dn.put (h:Dn w L s n) (X:Bx t w g (.bool p0) (.slice A0 l0 c0)) (x y:Value):Dn ((w.setCell ⟨g,0,none⟩ x).setCell ⟨g,1,none⟩ y) L s n:=⟨h.1.put X x y,h.2⟩
end I
end
end
section
open Go Go.RowKit Go.Proofs Pl
theorem IL (x:Int):BH x=-1/\x<0∨BH x=0/\x=0∨BH x=1/\0<x:=by
 unfold BH;split
 · exact .inr (.inl ⟨rfl,‹_›⟩)
 · split
   · exact .inl ⟨rfl,‹_›⟩
   · exact .inr (.inr ⟨rfl,Yo⟩)
theorem IV {x y:Int} (hx:x<0) (hy:y<0):Bk y.natAbs x.natAbs=Bp x y:=by unfold Bk Bp;split<;>(try split)<;>(try split)<;>(try split)<;>omega
theorem Jb {x y:Int} (hx:0<=x) (hy:0<=y):Bk x.natAbs y.natAbs=Bp x y:=by unfold Bk Bp;split<;>(try split)<;>(try split)<;>(try split)<;>omega
theorem Tt {w:World} {L1 L2:Nat} {a b:Value} {x y:Int} (ha:Zn w L1 a x) (hb:Zn w L2 b y) (h1:L1<=274877906944) (h2:L2<=274877906944):
 Calls Tryz.prog 226 #[a,b] w fun e w'=>e=.returned (.int .i64 (Bp x y))/\Yg w w':=by
 have hsx:=fun w1 (hb1:Yg w w1)=>Is (ha.keep hb1) h1;have hsy:=fun w1 (hb1:Yg w w1)=>Is (hb.keep hb1) h2;obtain ⟨p,s,m,rfl,hs,ex⟩:=ha;obtain ⟨q,t,n,rfl,ht,ey⟩:=hb;have em:x.natAbs=m:=by rw [ex,Cb]
 have en:y.natAbs=n:=by rw [ey,Cb]
 have hc:=fun w1 (hb1:Yg w w1)=>Gr (hs.keep hb1) (ht.keep hb1);have hd:=fun w1 (hb1:Yg w w1)=>Gr (ht.keep hb1) (hs.keep hb1);simp only [<- em,<- en] at hc hd
 have key:∀ i j:Int,BH x=i->BH y=j->(i<j/\Bp x y=-1∨j<i/\Bp x y=1∨i=j/\j<0/\Bk y.natAbs x.natAbs=Bp x y∨i=j/\¬ j<0/\Bk x.natAbs y.natAbs=Bp x y):=by
  intro i j hi hj
  rcases IL x with ⟨e1,h1⟩ | ⟨e1,h1⟩ | ⟨e1,h1⟩<;>rcases IL y with ⟨e2,h2⟩ | ⟨e2,h2⟩ | ⟨e2,h2⟩<;>rw [e1] at hi<;>rw [e2] at hj<;>subst hi<;>subst hj
  · exact .inr (.inr (.inl ⟨rfl,Yd,IV h1 h2⟩))
  · exact .inl ⟨Yd,by unfold Bp;rw [if_pos (by omega)]⟩
  · exact .inl ⟨Yd,by unfold Bp;rw [if_pos (by omega)]⟩
  · exact .inr (.inl ⟨Yd,by unfold Bp;rw [if_neg (by omega),if_neg (by omega)]⟩)
  · exact .inr (.inr (.inr ⟨rfl,Yd,Jb Yo Yo⟩))
  · exact .inl ⟨Yd,by unfold Bp;rw [if_pos (by omega)]⟩
  · exact .inr (.inl ⟨Yd,by unfold Bp;rw [if_neg (by omega),if_neg (by omega)]⟩)
  · exact .inr (.inl ⟨Yd,by unfold Bp;rw [if_neg (by omega),if_neg (by omega)]⟩)
  · exact .inr (.inr (.inr ⟨rfl,Yd,Jb Yo Yo⟩))
 obtain ⟨i,hi⟩:∃ i,BH x=i:=⟨_,rfl⟩;obtain ⟨j,hj⟩:∃ j,BH y=j:=⟨_,rfl⟩;have key:=key i j hi hj;simp only [hi] at hsx;simp only [hj] at hsy;obtain ⟨z,hz⟩:∃ z,Bp x y=z:=⟨_,rfl⟩;obtain ⟨c1,e1⟩:∃ z,Bk x.natAbs y.natAbs=z:=⟨_,rfl⟩;obtain ⟨c2,e2⟩:∃ z,Bk y.natAbs x.natAbs=z:=⟨_,rfl⟩;rw [hz,e1,e2] at key;simp only [e1] at hc;simp only [e2] at hd;rw [hz];have H:=Yh4 hsx hsy hc hd;clear hsx hsy hc hd hs ht ex ey em en hi hj hz e1 e2 h1 h2;have N0:=new2 34 34 w (.bool p) s (.bool q) t;go_enter Tryz.func226,Tryz.ntmps226;go_upto_region 1 with (fail)
 generalize (w.alloc _).alloc _=W0 at N0 ⊢;have HN:=Lib.hid N0;have KEY:=Lib.hid key;have HS0:=N0.ld2;clear N0 key
 go_region_held3 (fun W=>W.cell? ⟨w.heap.size,0,none⟩=some (.bool p)/\W.cell? ⟨w.heap.size,1,none⟩=some s/\W.cell? ⟨w.heap.size+1,0,none⟩=some (.bool q)/\W.cell? ⟨w.heap.size+1,1,none⟩=some t) (first | exact HS0 | exact HS1 | exact HS2)
  (first
   | (go_at_call 162;refine (H.p1 _ H1.q2).mono ?_;rintro e w2 ⟨rfl,hb2⟩;have N2:=H1.out.keep hb2;have HS2:=N2.ld2;have H2:=Lib.hid N2;clear N2 hb2)
   | (go_at_call 162;refine (H.p0 _ (by exact Yb HN.q2 (Ai _ 1))).mono ?_;rintro e w1 ⟨rfl,hb1⟩;have N1:=(HN.out.drew 1).keep hb1;have HS1:=N1.ld2;have H1:=Lib.hid N1;clear N1 hb1))
 obtain ⟨c0,c1,c2,c3⟩:=HS2;clear HS0 HS1
 rcases KEY.out with ⟨k1,k2⟩ | ⟨k1,k2⟩ | ⟨k1,k2,k3⟩ | ⟨k1,k2,k3⟩
 · have hne:i≠j:=by omega
   have HK:=Lib.hid k2;clear k2 KEY;go_wp2_with fail;go_ret;exact ⟨by rw [HK.out];rfl,H2.q2⟩
 · have hne:i≠j:=by omega
   have hnl:¬ i<j:=Yo;have HK:=Lib.hid k2;clear k2 KEY;go_wp2_with fail;go_ret;exact ⟨by rw [HK.out];rfl,H2.q2⟩
 · subst k1;have hse:(i !=i)=false:=by simp
   have HK:=Lib.hid k3;clear k3 KEY;go_wp2_with fail;refine (H.q3 _ H2.q2).mono ?_;rintro e w3 ⟨rfl,hb3⟩;have HD:=Lib.hid (Yb H2.q2 hb3);clear hb3;go_wp2_with fail;go_ret;exact ⟨by rw [<- HK.out];rfl,HD.out⟩
 · subst k1;have hse:(i !=i)=false:=by simp
   have HK:=Lib.hid k3;clear k3 KEY;go_wp2_with fail;refine (H.p2 _ H2.q2).mono ?_;rintro e w3 ⟨rfl,hb3⟩;have HD:=Lib.hid (Yb H2.q2 hb3);clear hb3;go_wp2_with fail;go_ret;exact ⟨by rw [<- HK.out];rfl,HD.out⟩
end
section
namespace I
open Go Go.RowKit Go.Proofs Pl
def Zd (w:World) (L:Nat) (v:Value) (z:Int):Prop:=∃ s,v=.agg #[.bool (decide (z<0)),s]/\Dn w L s z.natAbs
section
variable {w w':World} {L L' n:Nat} {v s:Value} {z:Int} {b:Bool}
theorem Zd.keep (h:Zd w L v z) (hb:Below w.heap.size w w'):Zd w' L v z:=by
 obtain ⟨s,h1,h2⟩:=h;exact ⟨s,h1,h2.keep hb⟩
theorem Zd.lt (h:Zd w L v z):z.natAbs<TB ^ L:=by
 obtain ⟨s,h1,h2⟩:=h;exact h2.2
theorem Zd.thin (h:Zd w L v z) (hz:z.natAbs<TB ^ L'):Zd w L' v z:=by
 obtain ⟨s,h1,h2⟩:=h;exact ⟨s,h1,h2.1,hz⟩
theorem Zd.put {t:TypeId} {g:Nat} {p0:Bool} {A0:Option Addr} {l0 c0:Nat} (h:Zd w L v z) (X:Bx t w g (.bool p0) (.slice A0 l0 c0)) (x y:Value):Zd ((w.setCell ⟨g,0,none⟩ x).setCell ⟨g,1,none⟩ y) L v z:=by
 obtain ⟨s,h1,h2⟩:=h;exact ⟨s,h1,h2.put X x y⟩
theorem Th {t:TypeId} {g:Nat} {p0 p:Bool} {A0:Option Addr} {l0 c0:Nat} (h:Dn w L s n) (X:Bx t w g (.bool p0) (.slice A0 l0 c0)) (hp:p=decide (z<0)) (hn:z.natAbs=n) (x y:Value):Zd ((w.setCell ⟨g,0,none⟩ x).setCell ⟨g,1,none⟩ y) L (.agg #[.bool p,s]) z:=by
 subst hp;subst hn;exact ⟨s,rfl,h.put X x y⟩
theorem Zd.parts (h:Zd w L v z):∃ p A n c,v=.agg #[.bool p,.slice A n c]/\Hid (Zd w L (.agg #[.bool p,.slice A n c]) z):=by
 have h':=h;obtain ⟨s,rfl,h2⟩:=h;obtain ⟨⟨A,c,rfl,-⟩,-⟩:=h2;exact ⟨_,A,_,c,rfl,h'⟩
theorem Zd.open (h:Zd w L v z):∃ p s n,v=.agg #[.bool p,s]/\Dn w L s n/\z=sg p n:=by
 obtain ⟨s,h1,h2⟩:=h;exact ⟨_,s,_,h1,h2,(EZ z).symm⟩
end
theorem Dn.trim {w:World} {L n:Nat} {s:Value} (hs:Dn w L s n) (hL:L<=1099511627776):Calls Tryz.prog 193 #[s] w fun e w'=>∃ v,e=.returned v/\Dn w' L v n/\Below w.heap.size w w':=by
 refine (Cu hs.nm hL).mono ?_;rintro e w' ⟨v,he,h⟩;exact ⟨v,he,h.dn hs.2,h.2⟩
theorem D0 {w:World} {L n:Nat} {s:Value} (b:Bool) (hs:Dn w L s n) (hL:L<=1099511627776):
 Calls Tryz.prog 192 #[.bool b,s] w fun e w'=>∃ v,e=.returned v/\Zd w' L v (sg b n)/\Yg w w':=by
 have ht:=fun W (hb:Yg w W)=>(hs.keep hb).trim hL;have HT:=Lib.hid ht;clear ht hs
 cases b
 all_goals
  go_enter Tryz.func192,Tryz.ntmps192;go_wp2_with fail;refine (HT.out _ (by go_grown)).mono ?_;rintro e w1 ⟨v1,rfl,h1,hb1⟩;have h1':=h1;obtain ⟨⟨A,c,rfl,-⟩,-⟩:=h1;have X:=(Bx.new 81 w (.bool false) (.slice none 0 0)).keep hb1;obtain ⟨la,hla⟩:∃ la,la=(dg TB n).length:=⟨_,rfl⟩;rw [<- hla] at h1' ⊢;have hl0:la=0↔n=0:=by rw [hla];exact ⟨fun h=>(BL AH n).1 (TN h),fun h=>by rw [h,BP];rfl⟩
  obtain ⟨c0,c1,f0,f1⟩:=X.facts;have HX:=Yh4 X h1' hl0 (Yb (Ya w _) hb1);clear X h1' hl0 hla HT hb1;go_wp2_with fail;refine Bm HX.p0 (fun W d0 d1=>by simp [results,Tryz.results192,go_sem,d0,d1]) rfl ?_;refine ⟨_,rfl,Th HX.p1 HX.p0 ?_ (Cb _ _) _ _,HX.p0.below HX.q3 (TL _) (TL _) _ _⟩;have hl0:=HX.p2
  first
  | exact (decide_eq_false (by simp [sg])).symm
  | (simp only [sg,if_true];exact decide_eq_decide.2 Yo)
theorem SX {w:World} {L:Nat} {a:Value} {x:Int} (ha:Zn w L a x) (hL:L<=1048576):
 Calls Tryz.prog 111 #[a] w fun e w'=>∃ v,e=.returned v/\Zd w' (5*L) v x/\Yg w w':=by
 obtain ⟨p,s,n,rfl,⟨xs,hs,hl,hv⟩,rfl⟩:=ha;have hof:=fun W (hb:Yg w W)=>OJ (hs.keep hb) hl hL hv;have hf:=fun w1 v1 (h:Dn w1 (5*L) v1 n)=>D0 p h Yo;have HF:=Yh2 hof hf;clear hof hf hs hl hv;have N0:=new2 34 81 w (.bool p) s (.bool false) (.slice none 0 0);go_enter Tryz.func111,Tryz.ntmps111;go_upto_region 1 with (fail)
 generalize (w.alloc _).alloc _=W0 at N0 ⊢;have HN:=Lib.hid N0;have HS0:=(N0.drew 1).ld;have HS1:=HS0;have HS2:=HS0;have HS3:=HS0;clear N0
 go_region_held3 (fun W=>W.cell? ⟨w.heap.size,0,none⟩=some (.bool p)/\W.cell? ⟨w.heap.size,1,none⟩=some s) (first | with_reducible exact HS1 | with_reducible exact HS2 | with_reducible exact HS3 | exact HS0)
  (first
   | (go_at_call 192;refine H1.q1.mono ?_;rintro e w2 ⟨v2,rfl,h2,hb2⟩;obtain ⟨pz,A,la,c,rfl,H2'⟩:=h2.parts;have N2:=H1.p0.keep hb2;have HS2:=N2.ld;have HS3:=(N2.st (.bool pz) (.slice A la c)).ld;obtain ⟨k0,k1,k2,k3⟩:=N2.2.1.facts;have H2:=Yh2 N2 h2;clear N2 h2 H2' hb2)
   | (go_at_call 109;refine (HF.p0 _ (by exact Yb HN.q2 (Ai _ 1))).mono ?_;rintro e w1 ⟨v1,rfl,h1,hb1⟩;have N1:=(HN.out.drew 1).keep hb1;have HS1:=N1.ld;have H1:=Yh2 N1 (HF.q1 _ _ h1);clear N1 h1 hb1))
 go_wp2_with fail;refine Bm H2.p0.2.1 (fun W d0 d1=>by simp [results,Tryz.results111,go_sem,d0,d1]) rfl ?_;exact ⟨_,rfl,H2.q1.put H2.p0.2.1 _ _,(H2.p0.st _ _).2.2⟩
theorem TJ {w:World} {L:Nat} {a:Value} {x:Int} (ha:Zd w L a x) (hL:L<=1099511627776):
 Calls Tryz.prog 113 #[a] w fun e w'=>∃ v,e=.returned v/\Zd w' L v (-x)/\Yg w w':=by
 obtain ⟨b,s,n,rfl,hs,rfl⟩:=ha.open;have hm:=fun W (hb:Yg w W)=>D0 (!b) (hs.keep hb) hL;simp only [OM] at hm;have HM:=Lib.hid hm;clear hm hs;go_enter Tryz.func113,Tryz.ntmps113;go_wp2_with fail;refine (HM.out _ (by go_grown)).mono ?_;rintro e w2 ⟨v2,rfl,h2,hb2⟩;obtain ⟨p,A,la,c,rfl,H2⟩:=h2.parts;have N2:=(new2 81 81 w (.bool b) s (.bool false) (.slice none 0 0)).keep hb2;obtain ⟨c0,c1,f0,f1⟩:=N2.2.1.facts;have HX:=Yh2 N2 h2;clear N2 h2 H2 HM hb2;go_wp2_with fail;refine Bm HX.p0.2.1 (fun W d0 d1=>by simp [results,Tryz.results113,go_sem,d0,d1]) rfl ?_;exact ⟨_,rfl,HX.q1.put HX.p0.2.1 _ _,(HX.p0.st _ _).2.2⟩
theorem Pb {w:World} {L:Nat} {a:Value} {x:Int} (ha:Zd w L a x):
 Calls Tryz.prog 120 #[a] w fun e w'=>e=.returned (.int .i64 (BH x))/\Yg w w':=by
 obtain ⟨s,rfl,hs⟩:=ha;obtain ⟨⟨A,c,rfl,-,-,-,-⟩,-⟩:=hs;obtain ⟨la,hla⟩:∃ la,la=(dg TB x.natAbs).length:=⟨_,rfl⟩;rw [<- hla];have hl0:la=0↔x.natAbs=0:=by rw [hla];exact ⟨fun h=>(BL AH _).1 (TN h),fun h=>by rw [h,BP];rfl⟩
 rcases IL x with ⟨e1,h1⟩ | ⟨e1,h1⟩ | ⟨e1,h1⟩
 · rw [decide_eq_true h1,e1];have hpos:¬ (la:Int)=0:=Yo;clear hla hl0 h1 e1;go_enter Tryz.func120,Tryz.ntmps120;go_wp2_with fail;go_ret;exact ⟨rfl,by go_grown⟩
 · have hla0:la=0:=hl0.2 Yo;rw [e1];obtain ⟨b,hb⟩:∃ b,b=decide (x<0):=⟨_,rfl⟩;rw [<- hb];clear hla hl0 h1 e1 hb;subst hla0;go_enter Tryz.func120,Tryz.ntmps120;go_wp2_with fail;go_ret;exact ⟨rfl,by go_grown⟩
 · rw [decide_eq_false (by omega),e1];have hpos:¬ (la:Int)=0:=Yo;clear hla hl0 h1 e1;go_enter Tryz.func120,Tryz.ntmps120;go_wp2_with fail;go_ret;exact ⟨rfl,by go_grown⟩
theorem J5 {w:World} {L1 L2 m n:Nat} {s t:Value} (p q:Bool) (epq:p=q) (hs:Dn w L1 s m) (ht:Dn w L2 t n) (h1:L1<=1073741824) (h2:L2<=1073741824):
 Calls Tryz.prog 151 #[.agg #[.bool p,s],.agg #[.bool q,t]] w fun e w'=>∃ v,e=.returned v/\Zd w' (L1+L2+1) v (sg p (m+n))/\Yg w w':=by
 have hadd:=fun W (hb:Yg w W)=>OR (hs.keep hb) (ht.keep hb) h1 h2;have hmk:=fun w1 v1 (hb:Yg w w1) (h:Dn w1 (L1+L2+1) v1 (m+n))=>D0 p h Yo;have HA:=Yh2 hadd hmk;have N0:=new3 81 81 81 w (.bool p) s (.bool q) t (.bool false) (.slice none 0 0);have hpq:(p==q)=true:=by simp [epq]
 clear hadd hmk hs ht h1 h2 epq;go_enter Tryz.func151,Tryz.ntmps151;go_upto_region 2 with (fail)
 generalize ((w.alloc _).alloc _).alloc _=W0 at N0 ⊢;have HN:=Lib.hid N0;have HS0:=(N0.drew 1).ld;have HS1:=HS0;have HS2:=HS0;have HS3:=HS0;clear N0 hpq
 go_region_held3 (fun W=>W.cell? ⟨w.heap.size,0,none⟩=some (.bool p)/\W.cell? ⟨w.heap.size,1,none⟩=some s/\W.cell? ⟨w.heap.size+1,0,none⟩=some (.bool q)/\W.cell? ⟨w.heap.size+1,1,none⟩=some t) (first | with_reducible exact HS1 | with_reducible exact HS2 | with_reducible exact HS3 | exact HS0)
  (first
   | (go_at_call 192;refine H1.q1.mono ?_;rintro e w2 ⟨v2,rfl,h2,hb2⟩;obtain ⟨pz,A,la,c,rfl,H2'⟩:=h2.parts;have N2:=H1.p0.keep hb2;have HS2:=N2.ld;have HS3:=(N2.st (.bool pz) (.slice A la c)).ld;obtain ⟨k0,k1,k2,k3⟩:=N2.2.2.1.facts;have H2:=Yh2 N2 h2;clear N2 h2 H2' hb2)
   | (go_at_call 189;refine (HA.p0 _ (by exact Yb HN.q3 (Ai _ 1))).mono ?_;rintro e w1 ⟨v1,rfl,h1,hb1⟩;have N1:=(HN.out.drew 1).keep hb1;have HS1:=N1.ld;have H1:=Yh2 N1 (HA.q1 _ _ (Yb HN.q3 (Yb (Ai _ 1) hb1)) h1);clear N1 h1 hb1))
 go_wp2_with fail;refine Bm H2.p0.2.2.1 (fun W d0 d1=>by simp [results,Tryz.results151,go_sem,d0,d1]) rfl ?_;exact ⟨_,rfl,H2.q1.put H2.p0.2.2.1 _ _,(H2.p0.st _ _).2.2.2⟩
end I
end
section
namespace I
open Go Go.RowKit Go.Proofs Pl
theorem Ki {w:World} {L1 L2 m n:Nat} {s t:Value} (p q:Bool) (epq:q=!p) (hs:Dn w L1 s m) (ht:Dn w L2 t n) (h1:L1<=1073741824) (h2:L2<=1073741824) (hle:n<=m):
 Calls Tryz.prog 151 #[.agg #[.bool p,s],.agg #[.bool q,t]] w fun e w'=>∃ v,e=.returned v/\Zd w' (L1+L2+1) v (sg p (m - n))/\Yg w w':=by
 have hcmp:=fun W (hb:Yg w W)=>NM (hs.keep hb) (ht.keep hb) h1 h2;have hz:¬ Bk m n<0:=by unfold Bk;split<;>(try split)<;>omega
 obtain ⟨z,ez⟩:∃ z,Bk m n=z:=⟨_,rfl⟩;rw [ez] at hcmp hz;have hsub:=fun W (hb:Yg w W)=>Od (hs.keep hb) (ht.keep hb) h1 Yo;have hmk:=fun w1 v1 (hb:Yg w w1) (h:Dn w1 L1 v1 (m - n))=>D0 p (h.mono (show L1<=L1+L2+1 by omega)) Yo;have HC:=Lib.hid hcmp;have HA:=Yh2 hsub hmk;have N0:=new3 81 81 81 w (.bool p) s (.bool q) t (.bool false) (.slice none 0 0);have hpq:(p==q)=false:=by subst epq;cases p<;>rfl
 clear hcmp hsub hmk hs ht h1 h2 epq hle ez;go_enter Tryz.func151,Tryz.ntmps151;go_wp2_with fail;refine (HC.out _ (by go_grown)).mono ?_;rintro e w' ⟨rfl,rfl⟩;go_upto_region 4 with (fail)
 generalize ((w.alloc _).alloc _).alloc _=W0 at N0 ⊢;have HN:=Lib.hid N0;have HS0:=(N0.drew 1).ld;have HS1:=HS0;have HS2:=HS0;have HS3:=HS0;clear N0 hpq
 go_region_held3 (fun W=>W.cell? ⟨w.heap.size,0,none⟩=some (.bool p)/\W.cell? ⟨w.heap.size,1,none⟩=some s/\W.cell? ⟨w.heap.size+1,0,none⟩=some (.bool q)/\W.cell? ⟨w.heap.size+1,1,none⟩=some t) (first | with_reducible exact HS1 | with_reducible exact HS2 | with_reducible exact HS3 | exact HS0)
  (first
   | (go_at_call 192;refine H1.q1.mono ?_;rintro e w2 ⟨v2,rfl,h2,hb2⟩;obtain ⟨pz,A,la,c,rfl,H2'⟩:=h2.parts;have N2:=H1.p0.keep hb2;have HS2:=N2.ld;have HS3:=(N2.st (.bool pz) (.slice A la c)).ld;obtain ⟨k0,k1,k2,k3⟩:=N2.2.2.1.facts;have H2:=Yh2 N2 h2;clear N2 h2 H2' hb2)
   | (go_at_call 208;refine (HA.p0 _ (by exact Yb HN.q3 (Ai _ 1))).mono ?_;rintro e w1 ⟨v1,rfl,h1,hb1⟩;have N1:=(HN.out.drew 1).keep hb1;have HS1:=N1.ld;have H1:=Yh2 N1 (HA.q1 _ _ (Yb HN.q3 (Yb (Ai _ 1) hb1)) h1);clear N1 h1 hb1))
 go_wp2_with fail;refine Bm H2.p0.2.2.1 (fun W d0 d1=>by simp [results,Tryz.results151,go_sem,d0,d1]) rfl ?_;exact ⟨_,rfl,H2.q1.put H2.p0.2.2.1 _ _,(H2.p0.st _ _).2.2.2⟩
theorem Kk {w:World} {L1 L2 m n:Nat} {s t:Value} (p q:Bool) (epq:q=!p) (hs:Dn w L1 s m) (ht:Dn w L2 t n) (h1:L1<=1073741824) (h2:L2<=1073741824) (hle:m<n):
 Calls Tryz.prog 151 #[.agg #[.bool p,s],.agg #[.bool q,t]] w fun e w'=>∃ v,e=.returned v/\Zd w' (L1+L2+1) v (sg q (n - m))/\Yg w w':=by
 have hcmp:=fun W (hb:Yg w W)=>NM (hs.keep hb) (ht.keep hb) h1 h2;rw [show Bk m n=-1 from by simp [Bk,hle]] at hcmp;have hsub:=fun W (hb:Yg w W)=>Od (ht.keep hb) (hs.keep hb) h2 Yo;have hmk:=fun w1 v1 (hb:Yg w w1) (h:Dn w1 L2 v1 (n - m))=>D0 q (h.mono (show L2<=L1+L2+1 by omega)) Yo;have HC:=Lib.hid hcmp;have HA:=Yh2 hsub hmk;have N0:=new3 81 81 81 w (.bool p) s (.bool q) t (.bool false) (.slice none 0 0);have hpq:(p==q)=false:=by subst epq;cases p<;>rfl
 clear hcmp hsub hmk hs ht h1 h2 epq hle;go_enter Tryz.func151,Tryz.ntmps151;go_wp2_with fail;refine (HC.out _ (by go_grown)).mono ?_;rintro e w' ⟨rfl,rfl⟩;go_upto_region 5 with (fail)
 generalize ((w.alloc _).alloc _).alloc _=W0 at N0 ⊢;have HN:=Lib.hid N0;have HS0:=(N0.drew 1).ld;have HS1:=HS0;have HS2:=HS0;have HS3:=HS0;clear N0 hpq
 go_region_held3 (fun W=>W.cell? ⟨w.heap.size,0,none⟩=some (.bool p)/\W.cell? ⟨w.heap.size,1,none⟩=some s/\W.cell? ⟨w.heap.size+1,0,none⟩=some (.bool q)/\W.cell? ⟨w.heap.size+1,1,none⟩=some t) (first | with_reducible exact HS1 | with_reducible exact HS2 | with_reducible exact HS3 | exact HS0)
  (first
   | (go_at_call 192;refine H1.q1.mono ?_;rintro e w2 ⟨v2,rfl,h2,hb2⟩;obtain ⟨pz,A,la,c,rfl,H2'⟩:=h2.parts;have N2:=H1.p0.keep hb2;have HS2:=N2.ld;have HS3:=(N2.st (.bool pz) (.slice A la c)).ld;obtain ⟨k0,k1,k2,k3⟩:=N2.2.2.1.facts;have H2:=Yh2 N2 h2;clear N2 h2 H2' hb2)
   | (go_at_call 208;refine (HA.p0 _ (by exact Yb HN.q3 (Ai _ 1))).mono ?_;rintro e w1 ⟨v1,rfl,h1,hb1⟩;have N1:=(HN.out.drew 1).keep hb1;have HS1:=N1.ld;have H1:=Yh2 N1 (HA.q1 _ _ (Yb HN.q3 (Yb (Ai _ 1) hb1)) h1);clear N1 h1 hb1))
 go_wp2_with fail;refine Bm H2.p0.2.2.1 (fun W d0 d1=>by simp [results,Tryz.results151,go_sem,d0,d1]) rfl ?_;exact ⟨_,rfl,H2.q1.put H2.p0.2.2.1 _ _,(H2.p0.st _ _).2.2.2⟩
theorem RE {w:World} {L1 L2:Nat} {a b:Value} {x y:Int} (ha:Zd w L1 a x) (hb:Zd w L2 b y) (h1:L1<=1073741824) (h2:L2<=1073741824):
 Calls Tryz.prog 151 #[a,b] w fun e w'=>∃ v,e=.returned v/\Zd w' (L1+L2+1) v (x+y)/\Yg w w':=by
 obtain ⟨p,s,m,rfl,hs,rfl⟩:=ha.open;obtain ⟨q,t,n,rfl,ht,rfl⟩:=hb.open;by_cases hpq:p=q
 · subst hpq;rw [Pu];exact J5 p p rfl hs ht h1 h2
 · obtain rfl:q=!p:=by cases p<;>cases q<;>simp_all
   by_cases hle:n<=m
   · rw [OL p m n hle];exact Ki p _ rfl hs ht h1 h2 hle
   · rw [Lz p m n (by omega)];exact Kk p _ rfl hs ht h1 h2 Yo
theorem SS {w:World} {L1 L2:Nat} {a b:Value} {x y:Int} (ha:Zd w L1 a x) (hb:Zd w L2 b y) (h1:L1<=1073741824) (h2:L2<=1073741824):
 Calls Tryz.prog 187 #[a,b] w fun e w'=>∃ v,e=.returned v/\Zd w' (L1+L2+1) v (x - y)/\Yg w w':=by
 have hn:=fun W (hw:Yg w W)=>TJ (hb.keep hw) Yo;have hadd:=fun w1 v1 (hw:Yg w w1) (h:Zd w1 L2 v1 (-y))=>RE (ha.keep hw) h h1 h2;have HA:=Yh2 hn hadd;clear hn hadd h1 h2;rw [Int.sub_eq_add_neg];obtain ⟨p,s,m,rfl,-,-⟩:=ha.open;obtain ⟨q,t,n,rfl,-,-⟩:=hb.open;have N0:=new3 81 81 81 w (.bool p) s (.bool q) t (.bool false) (.slice none 0 0);have hpq:True:=trivial;clear ha hb;go_enter Tryz.func187,Tryz.ntmps187;go_upto_region 1 with (fail)
 generalize ((w.alloc _).alloc _).alloc _=W0 at N0 ⊢;have HN:=Lib.hid N0;have HS0:=(N0.drew 1).ld;have HS1:=HS0;have HS2:=HS0;have HS3:=HS0;clear N0 hpq
 go_region_held3 (fun W=>W.cell? ⟨w.heap.size,0,none⟩=some (.bool p)/\W.cell? ⟨w.heap.size,1,none⟩=some s/\W.cell? ⟨w.heap.size+1,0,none⟩=some (.bool q)/\W.cell? ⟨w.heap.size+1,1,none⟩=some t) (first | with_reducible exact HS1 | with_reducible exact HS2 | with_reducible exact HS3 | exact HS0)
  (first
   | (go_at_call 151;refine H1.q1.mono ?_;rintro e w2 ⟨v2,rfl,h2,hb2⟩;obtain ⟨pz,A,la,c,rfl,H2'⟩:=h2.parts;have N2:=H1.p0.keep hb2;have HS2:=N2.ld;have HS3:=(N2.st (.bool pz) (.slice A la c)).ld;obtain ⟨k0,k1,k2,k3⟩:=N2.2.2.1.facts;have H2:=Yh2 N2 h2;clear N2 h2 H2' hb2)
   | (go_at_call 113;refine (HA.p0 _ (by exact Yb HN.q3 (Ai _ 1))).mono ?_;rintro e w1 ⟨v1,rfl,h1,hb1⟩;have N1:=(HN.out.drew 1).keep hb1;have HS1:=N1.ld;have H1:=Yh2 N1 (HA.q1 _ _ (Yb HN.q3 (Yb (Ai _ 1) hb1)) h1);clear N1 h1 hb1))
 go_wp2_with fail;refine Bm H2.p0.2.2.1 (fun W d0 d1=>by simp [results,Tryz.results187,go_sem,d0,d1]) rfl ?_;exact ⟨_,rfl,H2.q1.put H2.p0.2.2.1 _ _,(H2.p0.st _ _).2.2.2⟩
theorem TF {w:World} {L1 L2:Nat} {a b:Value} {x y:Int} (ha:Zd w L1 a x) (hb:Zd w L2 b y) (h1:L1<=1073741824) (h2:L2<=1073741824):
 Calls Tryz.prog 116 #[a,b] w fun e w'=>∃ v,e=.returned v/\Zd w' (L1+L2) v (x*y)/\Yg w w':=by
 obtain ⟨p,s,m,rfl,hs,rfl⟩:=ha.open;obtain ⟨q,t,n,rfl,ht,rfl⟩:=hb.open;rw [Kz];obtain ⟨r,hr⟩:∃ r,(p !=q)=r:=⟨_,rfl⟩;rw [hr];have hr:(!(p==q))=r:=hr;have hmul:=fun W (hb:Yg w W)=>N5 (hs.keep hb) (ht.keep hb) h1 h2;have hmk:=fun w1 v1 (hb:Yg w w1) (h:Dn w1 (L1+L2) v1 (m*n))=>D0 r h Yo;have HA:=Yh2 hmul hmk;have N0:=new3 81 81 81 w (.bool p) s (.bool q) t (.bool false) (.slice none 0 0);have hpq:True:=trivial;clear hmul hmk hs ht h1 h2 ha hb;go_enter Tryz.func116,Tryz.ntmps116;go_upto_region 1 with (fail)
 generalize ((w.alloc _).alloc _).alloc _=W0 at N0 ⊢;have HN:=Lib.hid N0;have HS0:=(N0.drew 1).ld;have HS1:=HS0;have HS2:=HS0;have HS3:=HS0;clear N0 hpq
 go_region_held3 (fun W=>W.cell? ⟨w.heap.size,0,none⟩=some (.bool p)/\W.cell? ⟨w.heap.size,1,none⟩=some s/\W.cell? ⟨w.heap.size+1,0,none⟩=some (.bool q)/\W.cell? ⟨w.heap.size+1,1,none⟩=some t) (first | with_reducible exact HS1 | with_reducible exact HS2 | with_reducible exact HS3 | exact HS0)
  (first
   | (go_at_call 192;refine H1.q1.mono ?_;rintro e w2 ⟨v2,rfl,h2,hb2⟩;obtain ⟨pz,A,la,c,rfl,H2'⟩:=h2.parts;have N2:=H1.p0.keep hb2;have HS2:=N2.ld;have HS3:=(N2.st (.bool pz) (.slice A la c)).ld;obtain ⟨k0,k1,k2,k3⟩:=N2.2.2.1.facts;have H2:=Yh2 N2 h2;clear N2 h2 H2' hb2)
   | (go_at_call 117;refine (HA.p0 _ (by exact Yb HN.q3 (Ai _ 1))).mono ?_;rintro e w1 ⟨v1,rfl,h1,hb1⟩;have N1:=(HN.out.drew 1).keep hb1;have HS1:=N1.ld;have H1:=Yh2 N1 (HA.q1 _ _ (Yb HN.q3 (Yb (Ai _ 1) hb1)) h1);clear N1 h1 hb1))
 go_wp2_with fail;refine Bm H2.p0.2.2.1 (fun W d0 d1=>by simp [results,Tryz.results116,go_sem,d0,d1]) rfl ?_;exact ⟨_,rfl,H2.q1.put H2.p0.2.2.1 _ _,(H2.p0.st _ _).2.2.2⟩
theorem Te {w:World} {L1 L2:Nat} {a b:Value} {x y:Int} (ha:Zd w L1 a x) (hb:Zd w L2 b y) (h1:L1<=1073741824) (h2:L2<=1073741824):
 Calls Tryz.prog 107 #[a,b] w fun e w'=>e=.returned (.int .i64 (Bp x y))/\Yg w w':=by
 have hs:=fun W (hw:Yg w W)=>SS (ha.keep hw) (hb.keep hw) h1 h2;have hg:=fun w1 v1 (h:Zd w1 (L1+L2+1) v1 (x - y))=>Pb h;simp only [Pr] at hg;have HA:=Yh2 hs hg;obtain ⟨p,s,m,rfl,-,-⟩:=ha.open;obtain ⟨q,t,n,rfl,-,-⟩:=hb.open;clear hs hg ha hb h1 h2;go_enter Tryz.func107,Tryz.ntmps107;go_wp2_with fail;refine (HA.p0 _ (by go_grown)).mono ?_;rintro e w1 ⟨v1,rfl,h1,hb1⟩;have HM:=Yh2 (HA.q1 _ _ h1) (Yb (Yb (Ya w _) (Ya _ _)) hb1);clear h1 HA hb1;go_wp2_with fail;refine HM.p0.mono ?_;rintro e w2 ⟨rfl,hb2⟩;have HB:=Lib.hid (Yb HM.q1 hb2);clear hb2 HM;go_wp2_with fail;go_ret;exact ⟨rfl,HB.out⟩
end I
end
section
open Go Go.RowKit Go.Proofs Pl
theorem JR (w:World) (o:Obj) (x:Nat) (hx:x<WB):Nm ((w.alloc o).alloc (.cells #[.int .u64 (x:Int)] 146)) 1 (.slice (some ⟨w.heap.size+1,0,none⟩) 1 1) x:=
 ⟨_,QE (w.alloc o) x _ (by simp) hx,by simp,by simp [val]⟩
theorem Se {w:World} {n:Nat} (h:n<9223372036854775808):
 Calls Tryz.prog 161 #[.int .i64 (n:Int)] w fun e w'=>∃ v,e=.returned v/\Zs w w' v (n:Int):=by
 have h0:(0:Int)<=(n:Int):=Yo;have hu:IntKind.u64.wrap (n:Int)=(n:Int):=IntWalk.u64_in _ Yo;have HH:=Lib.hid h;clear h;go_enter Tryz.func161,Tryz.ntmps161;go_wp2_with fail;refine (DQ false (JR w _ _ (by rw [Bz];have:=HH.out;omega)) Yd).mono ?_;rintro e w2 ⟨v2,rfl,h2⟩;obtain ⟨p,A,la,c,rfl,H2⟩:=h2.parts;have X:=((Bx.new 34 w (.bool false) (.slice none 0 0)).alloc _).keep h2.below;obtain ⟨c0,c1,f0,f1⟩:=X.facts;have HX:=Yh2 X (h2.from (Yb (Ya w _) (Ya _ _)));clear X h2 H2;go_wp2_with fail;refine Bm HX.p0 (fun W d0 d1=>by simp [results,Tryz.results161,go_sem,d0,d1]) rfl ?_;have hz:=HX.q1.put Bs HX.p0 (TL _);rw [show sg false n=(n:Int) from rfl] at hz;exact ⟨_,rfl,hz _ _⟩
theorem Si {w:World} {n:Nat} (h:n<9223372036854775808):
 Calls Tryz.prog 161 #[.int .i64 (-(n:Int) - 1)] w fun e w'=>∃ v,e=.returned v/\Zs w w' v (-(n:Int) - 1):=by
 obtain ⟨k,hk⟩:∃ k:Int,k=-(n:Int) - 1:=⟨_,rfl⟩;obtain ⟨k1,hk1⟩:∃ k1:Int,k1=-(n:Int):=⟨_,rfl⟩;obtain ⟨m,hm⟩:∃ m:Nat,m=n+1:=⟨_,rfl⟩;rw [<- hk];have h0:k<0:=Yo;have h1:IntKind.i64.wrap (k+1)=k1:=by rw [show k+1=k1 by omega];exact IntWalk.i64_in _ Yo
 have h2:IntKind.i64.wrap (-k1)=(n:Int):=by rw [show -k1=n by omega];exact IntWalk.i64_in _ Yo
 have h3:IntKind.u64.wrap (n:Int)=(n:Int):=IntWalk.u64_in _ Yo;have h4:IntKind.u64.wrap ((n:Int)+1)=(m:Int):=by rw [show (n:Int)+1=m by omega];exact IntWalk.u64_in _ Yo
 have HK:=Yh3 hk hm h;clear h hk hk1 hm;go_enter Tryz.func161,Tryz.ntmps161;go_wp2_with fail;refine (DQ true (JR w _ _ (by rw [Bz];have:=HK.out;omega)) Yd).mono ?_;rintro e w2 ⟨v2,rfl,h2⟩;obtain ⟨p,A,la,c,rfl,H2⟩:=h2.parts;have X:=((Bx.new 34 w (.bool false) (.slice none 0 0)).alloc _).keep h2.below;obtain ⟨c0,c1,f0,f1⟩:=X.facts;have HX:=Yh2 X (h2.from (Yb (Ya w _) (Ya _ _)));clear X h2 H2;go_wp2_with fail;refine Bm HX.p0 (fun W d0 d1=>by simp [results,Tryz.results161,go_sem,d0,d1]) rfl ?_;have hz:=HX.q1.put Bs HX.p0 (TL _);rw [show sg true m=k from by have:=HK.out;simp only [sg,if_true];omega] at hz;exact ⟨_,rfl,hz _ _⟩
def Bu (z:Int):Prop:=-9223372036854775808<=z/\z<=9223372036854775807
theorem Tk {w:World} {z:Int} (h:Bu z):Calls Tryz.prog 161 #[.int .i64 z] w fun e w'=>∃ v,e=.returned v/\Zs w w' v z:=by
 unfold Bu at h;by_cases h0:0<=z
 · obtain ⟨n,rfl⟩:∃ n:Nat,z=(n:Int):=⟨z.toNat,Yo⟩;exact Se Yo
 · obtain ⟨n,rfl⟩:∃ n:Nat,z=-(n:Int) - 1:=⟨(-z - 1).toNat,Yo⟩;exact Si Yo
end
section
namespace I
open Go Go.RowKit Go.Proofs Pl
theorem Q8 (w:World) {x:Nat} (hx:x<TB):Ow (w.alloc (.cells #[.int .i64 (x:Int)] 3)) w.heap.size (.slice (some ⟨w.heap.size,0,none⟩) 1 1) [x]:=by
 refine ⟨fun y hy=>by rw [Uj] at hy;subst hy;exact hx,rfl,.inr ⟨w.heap.size,1,#[.int .i64 (x:Int)],rfl,TL _,heap_alloc_new _ _,TL _,Yd,rfl,rfl⟩⟩
theorem RK (w:World) {x L:Nat} (hx:x<TB) (h0:x≠0) (hL:1<=L):Dn (w.alloc (.cells #[.int .i64 (x:Int)] 3)) L (.slice (some ⟨w.heap.size,0,none⟩) 1 1) x:=by
 have h:=Q8 w hx
 have e:dg TB x=[x]:=by
  have h2:=FG AH h.1 (show Cw [x] by have:=GN (ys:=[]) h0;exact this)
  simpa [val] using h2
 refine ⟨by rw [e];exact h.nl,TV hx ?_⟩;have:=Ua BN hL
 rwa [Nat.pow_one] at this
end I
end
section
open Go Go.RowKit Go.Proofs Pl
namespace I
def b8 (l:List UInt8):List Value:=l.map fun (b:UInt8)=>Value.int .u8 (b.toNat:Int)
end I
end
section
namespace I
open Go Go.RowKit Go.Proofs Pl
theorem IZ (w:World):Dn (w.alloc (.cells #[.int .i64 1] 3)) 1 (.slice (some ⟨w.heap.size,0,none⟩) 1 1) 1:=by
 exact RK w (x:=1) (L:=1) (by rw [BD];decide) Yd (TL _)
theorem MM {w:World} {n:Nat} (h:n<9223372036854775808):
 Calls Tryz.prog 150 #[.int .i64 (n:Int)] w fun e w'=>∃ v,e=.returned v/\Zd w' 7 v (n:Int)/\Yg w w':=by
 have hs:=fun W=>CY n W h;have hf:=fun w1 v1 (h1:Dn w1 7 v1 n)=>D0 false h1 Yd;have hlt:n<TB ^ 7:=by rw [BD];omega
 have HA:=Yh3 hs hf hlt;have h0:(0:Int)<=(n:Int):=Yo;have hw:IntKind.i64.wrap (n:Int)=(n:Int):=IntWalk.i64_in _ Yo;clear hs hf h hlt;go_enter Tryz.func150,Tryz.ntmps150;go_wp2_with fail;refine (HA.p0 _).mono ?_;rintro e w1 ⟨v1,rfl,h1⟩;have X:=(Bx.new 81 w (.bool false) (.slice none 0 0)).keep h1.2;have H1:=Yh3 X (HA.p1 _ _ (h1.dn HA.q2)) (Yb (Ya w _) h1.2);clear X h1 HA;go_wp2_with fail;refine H1.p1.mono ?_;rintro e w2 ⟨v2,rfl,h2,hb2⟩;obtain ⟨p,A,la,c,rfl,H2'⟩:=h2.parts;have X:=H1.p0.keep hb2;obtain ⟨c0,c1,f0,f1⟩:=X.facts;have H2:=Yh3 X h2 (Yb H1.q2 hb2);clear X h2 H2' hb2 H1;go_wp2_with fail;refine Bm H2.p0 (fun W d0 d1=>by simp [results,Tryz.results150,go_sem,d0,d1]) rfl ?_;exact ⟨_,rfl,H2.p1.put H2.p0 _ _,H2.p0.below H2.q2 (TL _) (TL _) _ _⟩
theorem Mu {w:World} {n:Nat} (h:n<9223372036854775808):
 Calls Tryz.prog 150 #[.int .i64 (-(n:Int) - 1)] w fun e w'=>∃ v,e=.returned v/\Zd w' 7 v (-(n:Int) - 1)/\Yg w w':=by
 have hs:=fun W=>CY n W h;have ha:=fun w1 v1 (h1:Dn w1 5 v1 n)=>OR (h1.keep (Ya w1 _)) (IZ w1) Yd Yd;have hf:=fun w1 v1 (h1:Dn w1 7 v1 (n+1))=>D0 true h1 Yd;have hlt:n<TB ^ 5:=by rw [BD];omega
 have hz:sg true (n+1)=-(n:Int) - 1:=by simp only [sg,if_true];omega
 rw [hz] at hf;have HA:=Yh4 hs ha hf hlt;obtain ⟨k,hk⟩:∃ k:Int,k=-(n:Int) - 1:=⟨_,rfl⟩;obtain ⟨k1,hk1⟩:∃ k1:Int,k1=-(n:Int):=⟨_,rfl⟩;rw [<- hk] at HA ⊢;have h0:¬ 0<=k:=Yo;have h1:IntKind.i64.wrap (k+1)=k1:=by rw [show k+1=k1 by omega];exact IntWalk.i64_in _ Yo
 have h2:IntKind.i64.wrap (-k1)=(n:Int):=by rw [show -k1=n by omega];exact IntWalk.i64_in _ Yo
 have h3:IntKind.i64.wrap (n:Int)=(n:Int):=IntWalk.i64_in _ Yo;clear h hk hk1 hs ha hf hlt hz;go_enter Tryz.func150,Tryz.ntmps150;go_wp2_with fail;refine (HA.p0 _).mono ?_;rintro e w1 ⟨v1,rfl,h1⟩;have X:=(Bx.new 81 w (.bool false) (.slice none 0 0)).keep h1.2;have H1:=Yh3 X (HA.p1 _ _ (h1.dn HA.q3)) (Yb (Ya w _) h1.2);clear X h1;go_wp2_with fail;refine H1.p1.mono ?_;rintro e w2 ⟨v2,rfl,h2,hb2⟩;have X:=(H1.p0.alloc _).keep hb2;have H2:=Yh3 X (HA.p2 _ _ h2) (Yb H1.q2 (Yb (Ya _ _) hb2));clear X h2 hb2 H1 HA;go_wp2_with fail;refine H2.p1.mono ?_;rintro e w3 ⟨v3,rfl,h3,hb3⟩;obtain ⟨p,A,la,c,rfl,H3'⟩:=h3.parts;have X:=H2.p0.keep hb3;obtain ⟨c0,c1,f0,f1⟩:=X.facts;have H3:=Yh3 X h3 (Yb H2.q2 hb3);clear X h3 H3' hb3 H2;go_wp2_with fail;refine Bm H3.p0 (fun W d0 d1=>by simp [results,Tryz.results150,go_sem,d0,d1]) rfl ?_;exact ⟨_,rfl,H3.p1.put H3.p0 _ _,H3.p0.below H3.q2 (TL _) (TL _) _ _⟩
theorem Qg {w:World} {z:Int} (h:Bu z):Calls Tryz.prog 150 #[.int .i64 z] w fun e w'=>∃ v,e=.returned v/\Zd w' 7 v z/\Below w.heap.size w w':=by
 unfold Bu at h;by_cases h0:0<=z
 · obtain ⟨n,rfl⟩:∃ n:Nat,z=(n:Int):=⟨z.toNat,Yo⟩;exact MM Yo
 · obtain ⟨n,rfl⟩:∃ n:Nat,z=-(n:Int) - 1:=⟨(-z - 1).toNat,Yo⟩;exact Mu Yo
end I
end
section
open Go Go.RowKit Go.Proofs Pl
def Zl (w:World) (v:Value) (b:Bool) (xs:List Nat):Prop:=∃ s,v=.agg #[.bool b,s]/\Nl w s xs
section
variable {w w':World} {v:Value} {b:Bool} {xs:List Nat} {L:Nat} {z:Int}
theorem Zl.keep (h:Zl w v b xs) (hb:Below w.heap.size w w'):Zl w' v b xs:=by
 obtain ⟨s,h1,h2⟩:=h;exact ⟨s,h1,h2.keep hb⟩
end
end
section
open Go Go.RowKit Go.Proofs
section
variable {P:Program} {md:Region.Mode} {ops:Array Oper} {Q:Exit->Act->World->Prop} {S:World->Prop} {oi:Oper} {v:Value} {fuel:Nat} {listed:Array Bool} {a:Act} {w:World} {rs:List Nat} {i:Nat}
theorem PY (i:Nat) (hS:S w) (h:wpAnyH P md ops Q S fuel (listed.setIfInBounds i true) (a.put oi.dst v) w)
 (hi:ops[i]?=some oi:=by simp only [List.getElem?_toArray,List.getElem?_cons_succ,List.getElem?_cons_zero];rfl)
 (hs:Region.noSelect ops=true:=by kernel_rfl) (hf:Region.free md ops listed i=true:=by kernel_rfl) (hr:(Region.ready md ops listed).contains i=true:=by kernel_rfl)
 (hw:Region.wanted oi (yielded ops a.tmps)=true:=by rfl)
 (hy:∀ w,S w->(execOp a.eval oi).run P w=.ok (.value v) w:=by (intro w hSw;(try dsimp only at hSw);(first | (go_simp;done) | (go_simp;with_reducible rfl) | (go_simp;rw [if_neg (by omega)]))))
 (hQ:∀ c a w,Q (.panic c) (a.put oi.dst v) w->Q (.panic c) a w:=by exact fun _ _ _ h=>h):wpAnyH P md ops Q S (fuel+1) listed a w:=
 wpAnyH_take hi hs hf hr hQ (.inl ⟨hw,hy⟩) hS h
theorem rgSkip (i:Nat) (hS:S w) (h:wpAnyH P md ops Q S fuel (listed.setIfInBounds i true) (a.put oi.dst undef) w)
 (hi:ops[i]?=some oi:=by simp only [List.getElem?_toArray,List.getElem?_cons_succ,List.getElem?_cons_zero];rfl)
 (hs:Region.noSelect ops=true:=by kernel_rfl) (hf:Region.free md ops listed i=true:=by kernel_rfl) (hr:(Region.ready md ops listed).contains i=true:=by kernel_rfl)
 (hw:Region.wanted oi (yielded ops a.tmps)=false:=by rfl)
 (hQ:∀ c a w,Q (.panic c) (a.put oi.dst undef) w->Q (.panic c) a w:=by exact fun _ _ _ h=>h):wpAnyH P md ops Q S (fuel+1) listed a w:=
 wpAnyH_take hi hs hf hr hQ (.inr ⟨hw,rfl⟩) hS h
theorem Br (rs:List Nat) (h:AllReadyH P md ops Q S fuel listed a w rs) (hr:Region.ready md ops listed=rs:=by kernel_rfl) (hne:rs≠[]:=by simp):wpAnyH P md ops Q S (fuel+1) listed a w:=
 wpAnyH_ready hr hne h
theorem AX (h:∀ K':Act->World->Prop,Shut (∀ a w,S w->(S w->wpAnyH P md ops Q S fuel (listed.setIfInBounds i true) a w)->K' a w)->if Region.wanted oi (yielded ops a.tmps)=true then Oper.wp P oi a w K' Q else K' (a.put oi.dst undef) w)
 (hs:AllReadyH P md ops Q S fuel listed a w rs) (ho:ops[i]?=some oi:=by simp only [List.getElem?_toArray,List.getElem?_cons_succ,List.getElem?_cons_zero];rfl):AllReadyH P md ops Q S fuel listed a w (i::rs):=
 AllReadyH.cons ho h hs
theorem CP:AllReadyH P md ops Q S fuel listed a w []:=AllReadyH.nil
def Gi (P:Program) (ops:Array Oper) (Q:Exit->Act->World->Prop) (S:World->Prop) (ds:List Deferred):List Nat->List Bool->List Value->(List Bool->List Value->Prop)->Prop
 | [],bl,l,K=>K bl l
 | i::r,bl,l,K=>∃ o d v,ops[i]?=some o/\o.dst=some d/\YieldsIf P ops S o v ⟨l.toArray,ds⟩/\(∀ c a w,Q (.panic c) (Act.put a (some d) v) w->Q (.panic c) a w)/\Gi P ops Q S ds r (bl.set i true) (l.set d v) K
def Gg (md:Region.Mode) (ops:Array Oper):List Nat->List Bool->Bool
 | [],_=>true
 | i::r,bl=>Region.free md ops bl.toArray i && (Region.ready md ops bl.toArray).contains i && Gg md ops r (bl.set i true)
theorem Jf {ds:List Deferred} (hs:Region.noSelect ops=true) (hS:S w):∀ (is:List Nat) (bl:List Bool) (l:List Value),Gg md ops is bl=true->Gi P ops Q S ds is bl l (fun bl l=>wpAnyH P md ops Q S fuel bl.toArray ⟨l.toArray,ds⟩ w)->wpAnyH P md ops Q S (fuel+is.length) bl.toArray ⟨l.toArray,ds⟩ w
 | [],_,_,_,h=>h
 | i::r,bl,l,hc,h=>by
  obtain ⟨o,d,v,h1,h2,h3,h4,h5⟩:=h;simp only [Gg,TZ] at hc;have:=Jf hs hS r _ _ hc.2 h5;rw [U7,<- Vc];refine wpAnyH_take h1 hs hc.1.1 hc.1.2 (by rw [h2];exact h4) h3 hS ?_;rw [h2,US];show wpAnyH P md ops Q S _ _ ⟨l.toArray.setIfInBounds d v,ds⟩ w;rw [US];exact this
theorem AL (k:Nat) (is:List Nat) {bl:List Bool} {l:List Value} {ds:List Deferred} (hS:S w) (h:∀ K:List Bool->List Value->Prop,(∀ bl l,wpAnyH P md ops Q S fuel bl.toArray ⟨l.toArray,ds⟩ w->K bl l)->Gi P ops Q S ds is bl l K)
 (hk:is.length=k:=by rfl) (hl:listed=bl.toArray:=by exact rfl) (hs:Region.noSelect ops=true:=by as_aux_lemma=>kernel_rfl) (hc:Gg md ops is bl=true:=by as_aux_lemma=>kernel_rfl):wpAnyH P md ops Q S (fuel+k) listed ⟨l.toArray,ds⟩ w:=by
 subst hk;subst hl;exact Jf hs hS is bl l hc (h _ fun _ _ h=>h)
theorem rgA {ds:List Deferred} {r:List Nat} {bl bl':List Bool} {l l':List Value} {d:Tmp} {K:List Bool->List Value->Prop} (h:Gi P ops Q S ds r bl' l' K)
 (hi:ops[i]?=some oi:=by simp only [List.getElem?_toArray,List.getElem?_cons_succ,List.getElem?_cons_zero];rfl) (hd:oi.dst=some d:=by rfl)
 (hw:Region.wanted oi (yielded ops l.toArray)=true:=by rfl)
 (hy:∀ w,S w->(execOp (Act.eval ⟨l.toArray,ds⟩) oi).run P w=.ok (.value v) w:=by (intro w hSw;(try dsimp only at hSw);(first | (go_simp;done) | (go_simp;with_reducible rfl) | (go_simp;rw [if_neg (by omega)]))))
 (hQ:∀ c a w,Q (.panic c) (Act.put a (some d) v) w->Q (.panic c) a w:=by exact fun _ _ _ h=>h)
 (e1:bl.set i true=bl':=by first | (dsimp only [Ys,Yt];done) | (dsimp only [Ys,Yt];exact rfl) | exact rfl | kernel_rfl) (e2:l.set d v=l':=by first | (dsimp only [Ys,Yt];done) | (dsimp only [Ys,Yt];exact rfl) | exact rfl | kernel_rfl):Gi P ops Q S ds (i::r) bl l K:=by
 subst e1;subst e2;exact ⟨oi,d,v,hi,hd,.inl ⟨hw,hy⟩,hQ,h⟩
theorem rgB {ds:List Deferred} {r:List Nat} {bl bl':List Bool} {l l':List Value} {d:Tmp} {K:List Bool->List Value->Prop} (h:Gi P ops Q S ds r bl' l' K)
 (hi:ops[i]?=some oi:=by simp only [List.getElem?_toArray,List.getElem?_cons_succ,List.getElem?_cons_zero];rfl) (hd:oi.dst=some d:=by rfl)
 (hw:Region.wanted oi (yielded ops l.toArray)=false:=by rfl)
 (hQ:∀ c a w,Q (.panic c) (Act.put a (some d) undef) w->Q (.panic c) a w:=by exact fun _ _ _ h=>h)
 (e1:bl.set i true=bl':=by first | (dsimp only [Ys,Yt];done) | (dsimp only [Ys,Yt];exact rfl) | exact rfl | kernel_rfl) (e2:l.set d undef=l':=by first | (dsimp only [Ys,Yt];done) | (dsimp only [Ys,Yt];exact rfl) | exact rfl | kernel_rfl):Gi P ops Q S ds (i::r) bl l K:=by
 subst e1;subst e2;exact ⟨oi,d,undef,hi,hd,.inr ⟨hw,rfl⟩,hQ,h⟩
theorem rgT (i:Nat) {listed':Array Bool} {a':Act} (hS:S w) (h:wpAnyH P md ops Q S fuel listed' a' w)
 (hi:ops[i]?=some oi:=by simp only [List.getElem?_toArray,List.getElem?_cons_succ,List.getElem?_cons_zero];rfl)
 (hs:Region.noSelect ops=true:=by kernel_rfl) (hf:Region.free md ops listed i=true:=by kernel_rfl) (hr:(Region.ready md ops listed).contains i=true:=by kernel_rfl)
 (hw:Region.wanted oi (yielded ops a.tmps)=true:=by rfl)
 (hy:∀ w,S w->(execOp a.eval oi).run P w=.ok (.value v) w:=by (intro w hSw;(try dsimp only at hSw);(first | (go_simp;done) | (go_simp;with_reducible rfl) | (go_simp;rw [if_neg (by omega)]))))
 (hQ:∀ c a w,Q (.panic c) (a.put oi.dst v) w->Q (.panic c) a w:=by exact fun _ _ _ h=>h)
 (e1:listed.setIfInBounds i true=listed':=by first | (simp only [Yp];done) | (simp only [Yp];exact rfl) | exact rfl | kernel_rfl) (e2:a.put oi.dst v=a':=by first | (simp only [Yp];done) | (simp only [Yp];exact rfl) | exact rfl | kernel_rfl):wpAnyH P md ops Q S (fuel+1) listed a w:=by
 subst e1;subst e2;exact wpAnyH_take hi hs hf hr hQ (.inl ⟨hw,hy⟩) hS h
theorem rgO (i:Nat) (h:∀ K':Act->World->Prop,Shut (∀ a w,S w->(S w->wpAnyH P md ops Q S fuel (listed.setIfInBounds i true) a w)->K' a w)->if Region.wanted oi (yielded ops a.tmps)=true then Oper.wp P oi a w K' Q else K' (a.put oi.dst undef) w)
 (hr:Region.ready md ops listed=[i]:=by kernel_rfl) (ho:ops[i]?=some oi:=by simp only [List.getElem?_toArray,List.getElem?_cons_succ,List.getElem?_cons_zero];rfl):wpAnyH P md ops Q S (fuel+1) listed a w:=
 wpAnyH_ready hr (List.cons_ne_nil _ _) (AllReadyH.cons ho h AllReadyH.nil)
theorem rgK {K:Act->World->Prop} {listed':Array Bool} {a':Act} {w':World} (hK:Shut (∀ a w,S w->(S w->wpAnyH P md ops Q S fuel listed a w)->K a w)) (hS:S w') (h:S w'->wpAnyH P md ops Q S fuel listed' a' w')
 (e1:listed=listed':=by first | (simp only [Yp];done) | (simp only [Yp];exact rfl) | exact rfl | kernel_rfl) (e2:a=a':=by first | (simp only [Yp];done) | (simp only [Yp];exact rfl) | exact rfl | kernel_rfl):K a w':=by
 subst e1;subst e2;exact hK.out _ _ hS h
theorem Gk {n:Nat} {l:Array Bool} (h:∀ F:Nat->Array Bool->Act->World->Prop,(∀ n l a w,F n l a w↔wpAnyH P md ops Q S n l a w)->F n l a w):wpAnyH P md ops Q S n l a w:=
 h _ (fun _ _ _ _=>Iff.rfl)
end
theorem rgF {P:Program} {md:Region.Mode} {ops:Array Oper} {Q:Exit->Act->World->Prop} {S:World->Prop} {F:Nat->Array Bool->Act->World->Prop} {n:Nat} {l l':Array Bool} {a a':Act} {w:World} (HF:Hid (∀ n l a w,F n l a w↔wpAnyH P md ops Q S n l a w)) (h:wpAnyH P md ops Q S n l' a' w) (e1:l=l':=by exact rfl)
 (e2:a=a':=by rewrite [HACT.out];first | (simp only [Yp];done) | (simp only [Yp];exact rfl) | exact rfl | kernel_rfl):F n l a w:=by
 subst e1;subst e2;exact (HF.out _ _ _ _).2 h
theorem rgG {P:Program} {md:Region.Mode} {ops:Array Oper} {Q:Exit->Act->World->Prop} {S:World->Prop} {F:Nat->Array Bool->Act->World->Prop} {n:Nat} {l l':Array Bool} {a a':Act} {w:World} (HF:Hid (∀ n l a w,F n l a w↔wpAnyH P md ops Q S n l a w)) (h:F n l a w) (e1:l=l':=by first | kernel_rfl | exact rfl)
 (e2:a=a':=by rewrite [HACT.out];first | (simp only [Yp];done) | (simp only [Yp];exact rfl) | exact rfl | kernel_rfl):wpAnyH P md ops Q S n l' a' w:=by
 subst e1;subst e2;exact (HF.out _ _ _ _).1 h
theorem Mb {G:Act->Prop} {a:Act} (h:∀ a0,a0=a->G a0):G a:=h a rfl
end
end Go.Proofs.YtlblnmmfphiobaaGreat
