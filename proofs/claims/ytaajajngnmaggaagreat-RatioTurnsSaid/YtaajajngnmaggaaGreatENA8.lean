import Derived.Test.YtaajajngnmaggaaGreatENA7
import Derived.Lib.Strings
set_option maxRecDepth 100000
set_option maxHeartbeats 8000000
set_option linter.unusedVariables false
set_option linter.unusedSimpArgs false
namespace Go.Proofs.YtaajajngnmaggaaGreat
section
open Go Go.RowKit Go.Proofs Pl
def Zn (w:World) (L:Nat) (v:Value) (z:Int):Prop:=∃ b s n,v=.agg #[.bool b,s]/\Nm w L s n/\z=sg b n
def Zo (w:World) (v:Value) (z:Int):Prop:=∃ s,v=.agg #[.bool (decide (z<0)),s]/\Nl w s (dg WB z.natAbs)
def Zs (w w':World) (v:Value) (z:Int):Prop:=∃ s,v=.agg #[.bool (decide (z<0)),s]/\Rs w w' s z.natAbs
section
variable {w w':World} {L L' n:Nat} {v s:Value} {z:Int} {b:Bool}
theorem Zn.keep (h:Zn w L v z) (hb:Below w.heap.size w w'):Zn w' L v z:=by
 obtain ⟨b,s,n,h1,h2,h3⟩:=h
 exact ⟨b,s,n,h1,h2.keep hb,h3⟩
theorem Zn.mono (h:Zn w L v z) (hL:L<=L'):Zn w L' v z:=by
 obtain ⟨b,s,n,h1,h2,h3⟩:=h
 exact ⟨b,s,n,h1,h2.mono hL,h3⟩
theorem Zn.lt (h:Zn w L v z):z.natAbs<WB ^ L:=by
 obtain ⟨b,s,n,h1,h2,rfl⟩:=h
 rw [sg_abs];exact h2.lt
theorem Zo.zn (h:Zo w v z) (hz:z.natAbs<WB ^ L):Zn w L v z:=by
 obtain ⟨s,h1,h2⟩:=h
 exact ⟨_,s,_,h1,⟨_,h2,dg_length_le WB_one hz,val_dg WB_one _⟩,(sg_form z).symm⟩
theorem Zs.zo (h:Zs w w' v z):Zo w' v z:=by
 obtain ⟨s,h1,h2⟩:=h
 exact ⟨s,h1,h2.nl⟩
theorem Zs.zn (h:Zs w w' v z) (hz:z.natAbs<WB ^ L):Zn w' L v z:=h.zo.zn hz
theorem Zs.below (h:Zs w w' v z):Below w.heap.size w w':=by
 obtain ⟨s,h1,h2⟩:=h
 exact h2.2
theorem Zs.from (h:Zs w' w v z) {w0:World} (hb:Below w0.heap.size w0 w'):Zs w0 w v z:=by
 obtain ⟨s,h1,h2⟩:=h
 exact ⟨s,h1,h2.1.mono hb.size,Yb hb h2.2⟩
theorem Zs.then (h:Zs w w' v z) {w2:World} (hb:Below w'.heap.size w' w2):Zs w w2 v z:=by
 obtain ⟨s,h1,h2⟩:=h
 exact ⟨s,h1,h2.1.keep hb,Yb h2.2 hb⟩
end
theorem int_word:(34:TypeId)≠125:=by decide
theorem Rs.put {t:TypeId} {w w1:World} {g n:Nat} {a b s:Value} (ht:t≠125) (X:Bx t w1 g a b) (hg:w.heap.size<=g) (h:Rs w w1 s n) (x y:Value):
 Rs w ((w1.setCell ⟨g,0,none⟩ x).setCell ⟨g,1,none⟩ y) s n:=
 ⟨⟨h.1.1,own_keepT h.1.2 (X.keepT ht x y)⟩,X.below h.2 hg (Nat.le_refl _) x y⟩
theorem Rs.out {w w0 w1:World} {n:Nat} {s:Value} (h:Rs w0 w1 s n) (hb:Below w.heap.size w w0):Rs w w1 s n:=⟨h.1.mono hb.size,Yb hb h.2⟩
theorem zs_ret {t:TypeId} {w w1:World} {g n:Nat} {a b s:Value} {p:Bool} {z:Int} (ht:t≠125) (X:Bx t w1 g a b) (hg:w.heap.size<=g) (h:Rs w w1 s n) (hp:p=decide (z<0)) (hn:z.natAbs=n) (x y:Value):
 Zs w ((w1.setCell ⟨g,0,none⟩ x).setCell ⟨g,1,none⟩ y) (.agg #[.bool p,s]) z:=by
 subst hp;subst hn
 exact ⟨s,rfl,h.put ht X hg x y⟩
theorem Zs.put {t:TypeId} {w w1:World} {g:Nat} {a b v:Value} {z:Int} (ht:t≠125) (X:Bx t w1 g a b) (hg:w.heap.size<=g) (h:Zs w w1 v z) (x y:Value):
 Zs w ((w1.setCell ⟨g,0,none⟩ x).setCell ⟨g,1,none⟩ y) v z:=by
 obtain ⟨s,h1,h2⟩:=h
 exact ⟨s,h1,h2.put ht X hg x y⟩
theorem Zs.parts {w w':World} {v:Value} {z:Int} (h:Zs w w' v z):∃ p A n c,v=.agg #[.bool p,.slice A n c]/\Hid (Zs w w' (.agg #[.bool p,.slice A n c]) z):=by
 have h':=h
 obtain ⟨s,rfl,h2⟩:=h
 obtain ⟨A,c,rfl,-,-⟩:=h2.1.slice
 exact ⟨_,A,_,c,rfl,h'⟩
theorem make_z {w:World} {L n:Nat} {s:Value} (b:Bool) (hs:Nm w L s n) (hL:L<=274877906944):
 Calls Tryz.prog 159 #[.bool b,s] w fun e w'=>∃ v,e=.returned v/\Zs w w' v (sg b n):=by
 have ht:=fun W (hb:Yg w W)=>trim_nm (hs.keep hb) hL
 have HT:=Lib.hid ht
 clear ht hs
 cases b
 all_goals
  go_enter Tryz.func159,Tryz.ntmps159
  go_wp2_with fail
  refine (HT.out _ (by go_grown)).mono ?_;rintro e w1 ⟨v1,rfl,h1⟩
  obtain ⟨A,c,rfl,-,-⟩:=h1.1.slice
  have X:=(Bx.new 34 w (.bool false) (.slice none 0 0)).keep h1.2
  obtain ⟨la,hla⟩:∃ la,la=(dg WB n).length:=⟨_,rfl⟩
  rw [<- hla] at h1 ⊢
  have hl0:la=0↔n=0:=by rw [hla];exact ⟨fun h=>(dg_eq_nil WB_one n).1 (List.eq_nil_of_length_eq_zero h),fun h=>by rw [h,dg_zero];rfl⟩
  obtain ⟨c0,c1,f0,f1⟩:=X.facts
  have HX:=Yh3 X (h1.out (Ya w _)) hl0
  clear X h1 hl0 hla HT
  go_wp2_with fail
  refine ret_bx HX.p0 (fun W d0 d1=>by simp [results,Tryz.results159,go_sem,d0,d1]) rfl ?_
  refine ⟨_,rfl,zs_ret int_word HX.p0 (Nat.le_refl _) HX.p1 ?_ (sg_abs _ _) _ _⟩
  have hl0:=HX.q2
  first
  | exact (decide_eq_false (by simp [sg])).symm
  | (simp only [sg,if_true];exact decide_eq_decide.2 Yo)
theorem neg_z {w:World} {L:Nat} {a:Value} {x:Int} (ha:Zn w L a x) (hL:L<=274877906944):
 Calls Tryz.prog 122 #[a] w fun e w'=>∃ v,e=.returned v/\Zs w w' v (-x):=by
 obtain ⟨b,s,n,rfl,hs,rfl⟩:=ha
 have hm:=fun W (hb:Yg w W)=>make_z (!b) (hs.keep hb) hL
 simp only [sg_not] at hm
 have HM:=Lib.hid hm
 clear hm hs
 go_enter Tryz.func122,Tryz.ntmps122
 go_wp2_with fail
 refine (HM.out _ (by go_grown)).mono ?_;rintro e w2 ⟨v2,rfl,h2⟩
 obtain ⟨p,A,la,c,rfl,H2⟩:=h2.parts
 have X:=(Bx.new1 34 w (.cells #[.bool b,s] 34) (.bool false) (.slice none 0 0)).keep h2.below
 obtain ⟨c0,c1,f0,f1⟩:=X.facts
 have HX:=Yh2 X (h2.from (Yb (Ya w _) (Ya _ _)))
 clear X h2 H2 HM
 go_wp2_with fail
 refine ret_bx HX.p0 (fun W d0 d1=>by simp [results,Tryz.results122,go_sem,d0,d1]) rfl ?_
 exact ⟨_,rfl,HX.q1.put int_word HX.p0 Yo _ _⟩
theorem signZ_zero {b:Bool} {n:Nat} (h:n=0):signZ (sg b n)=0:=by subst h;rw [sg_zero];rfl
theorem signZ_neg {n:Nat} (h:n≠0):signZ (sg true n)=-1:=by simp [signZ,sg];omega
theorem signZ_pos {n:Nat} (h:n≠0):signZ (sg false n)=1:=by simp [signZ,sg];omega
theorem sign_z {w:World} {L:Nat} {a:Value} {x:Int} (ha:Zn w L a x) (hL:L<=274877906944):
 Calls Tryz.prog 117 #[a] w fun e w'=>e=.returned (.int .i64 (signZ x))/\Yg w w':=by
 obtain ⟨b,s,n,rfl,hs,rfl⟩:=ha
 have hm:=fun W (hb:Yg w W)=>bits_nm (hs.keep hb) hL
 obtain ⟨k,hk⟩:∃ k,k=nb n:=⟨_,rfl⟩
 rw [<- hk] at hm
 have hk0:k=0↔n=0:=by rw [hk];exact nb_eq_zero
 have HM:=Lib.hid hm
 clear hm hs hk
 by_cases h0:n=0
 · have h1:k=0:=hk0.2 h0
   have HS:=Lib.hid (signZ_zero (b:=b) h0)
   clear hk0 h0
   subst h1
   go_enter Tryz.func117,Tryz.ntmps117
   go_wp2_with fail
   refine (HM.out _ (by go_grown)).mono ?_;rintro e w1 ⟨rfl,hb⟩
   have HB:=Lib.hid (Yb (Ya w _) hb)
   clear hb HM
   go_wp2_with fail
   go_ret
   exact ⟨by rw [HS.out];rfl,HB.out⟩
 · have h1:(k:Int)≠0:=by omega
   have HS:=Yh2 (signZ_neg h0) (signZ_pos h0)
   clear hk0 h0
   cases b
   all_goals
    go_enter Tryz.func117,Tryz.ntmps117
    go_wp2_with fail
    refine (HM.out _ (by go_grown)).mono ?_;rintro e w1 ⟨rfl,hb⟩
    obtain ⟨c0,c1,f0,f1⟩:=((Bx.new 34 w _ s).keep hb).facts
    have HB:=Lib.hid (Yb (Ya w _) hb)
    clear hb HM
    go_wp2_with fail
    go_ret
    first
    | exact ⟨by rw [HS.q1];rfl,HB.out⟩
    | exact ⟨by rw [HS.p0];rfl,HB.out⟩
end
section
open Go Go.RowKit Go.Proofs Pl
theorem pow_sum {B m n p q:Nat} (hB:1<B) (hm:m<B ^ p) (hn:n<B ^ q):m+n<B ^ (p+q+1):=by
 have h1:B ^ p<=B ^ (p+q):=Nat.pow_le_pow_right Yo Yo
 have h2:B ^ q<=B ^ (p+q):=Nat.pow_le_pow_right Yo Yo
 have h3:B ^ (p+q)*2<=B ^ (p+q)*B:=Nat.mul_le_mul_left _ hB
 rw [Nat.pow_succ]
 omega
theorem pow_mul {B m n p q:Nat} (hm:m<B ^ p) (hn:n<B ^ q):m*n<B ^ (p+q):=by
 rw [Nat.pow_add];exact Nat.mul_lt_mul'' hm hn
theorem make_rs (p:Bool) {L:Nat} (hL:L<=274877906944) {n:Nat} (hn:n<WB ^ L) {w w1:World} {s:Value} (h:Rs w w1 s n) (W:World) (hb:Below w1.heap.size w1 W):
 Calls Tryz.prog 159 #[.bool p,s] W fun e w'=>∃ v,e=.returned v/\Zs w w' v (sg p n)/\Yg W w':=
 (make_z p ((h.nm hn).keep hb) hL).mono fun e w' ⟨v,he,hz⟩=>⟨v,he,hz.from (Yb h.2 hb),hz.below⟩
theorem add_eq {w:World} {L1 L2 m n:Nat} {s t:Value} (p q:Bool) (epq:p=q) (hs:Nm w L1 s m) (ht:Nm w L2 t n) (h1:L1<=68719476736) (h2:L2<=68719476736):
 Calls Tryz.prog 119 #[.agg #[.bool p,s],.agg #[.bool q,t]] w fun e w'=>∃ v,e=.returned v/\Zs w w' v (sg p (m+n)):=by
 have hadd:=fun W (hb:Yg w W)=>add_nm (hs.keep hb) (ht.keep hb) Yo Yo
 have hlt:=pow_sum WB_one hs.lt ht.lt
 have hmk:=fun w1 w2 v1 (hb:Yg w w1) (h:Rs w1 w2 v1 (m+n))=>make_rs p (L:=L1+L2+1) Yo hlt (h.out hb)
 have HA:=Yh2 hadd hmk
 have N0:=new3 34 34 34 w (.bool p) s (.bool q) t (.bool false) (.slice none 0 0)
 have hpq:(p==q)=true:=by simp [epq]
 clear hadd hmk hlt hs ht h1 h2 epq
 go_enter Tryz.func119,Tryz.ntmps119
 go_upto_region 2 with (fail)
 generalize ((w.alloc _).alloc _).alloc _=W0 at N0 ⊢
 have HN:=Lib.hid N0
 have HS0:=N0.ld
 clear N0 hpq
 go_region_held3 (fun W=>W.cell? ⟨w.heap.size,0,none⟩=some (.bool p)/\W.cell? ⟨w.heap.size,1,none⟩=some s/\W.cell? ⟨w.heap.size+1,0,none⟩=some (.bool q)/\W.cell? ⟨w.heap.size+1,1,none⟩=some t) (first | exact HS0 | exact HS1 | exact HS2 | exact (H2.p0.st _ _).ld)
  (first
   | (go_at_call 164;refine (HA.p0 _ (by exact Yb HN.q3 (below_dr _ 1))).mono ?_;rintro e w1 ⟨v1,rfl,h1⟩;have N1:=(HN.out.drew 1).keep h1.2;have HS1:=N1.ld;have H1:=Yh2 N1 (HA.q1 _ _ _ (Yb HN.q3 (below_dr _ 1)) h1);clear N1 h1)
   | (go_at_call 159;refine (H1.q1 _ (Below.refl _ _)).mono ?_;rintro e w2 ⟨v2,rfl,h2,hb2⟩;obtain ⟨pz,A,la,c,rfl,H2'⟩:=h2.parts;have N2:=H1.p0.keep hb2;have HS2:=N2.ld;obtain ⟨k0,k1,k2,k3⟩:=N2.2.2.1.facts;have H2:=Yh2 N2 h2;clear N2 h2 H2' hb2))
 go_wp2_with fail
 refine ret_bx H2.p0.2.2.1 (fun W d0 d1=>by simp [results,Tryz.results119,go_sem,d0,d1]) rfl ?_
 exact ⟨_,rfl,H2.q1.put int_word H2.p0.2.2.1 Yo _ _⟩
theorem add_ge {w:World} {L1 L2 m n:Nat} {s t:Value} (p q:Bool) (epq:q=!p) (hs:Nm w L1 s m) (ht:Nm w L2 t n) (h1:L1<=68719476736) (hle:n<=m):
 Calls Tryz.prog 119 #[.agg #[.bool p,s],.agg #[.bool q,t]] w fun e w'=>∃ v,e=.returned v/\Zs w w' v (sg p (m - n)):=by
 have hsub:=fun W (hb:Yg w W)=>sub_nm (hs.keep hb) (ht.keep hb) Yo
 rw [show subErr m n=0 from by simp [subErr];omega] at hsub
 have hmk:=fun w1 w2 v1 (hb:Yg w w1) (h:Rs w1 w2 v1 (m - n))=>make_rs p (L:=L1) Yo (Nat.lt_of_le_of_lt (Nat.sub_le _ _) hs.lt) (h.out hb)
 have HA:=Yh2 hsub hmk
 have hpq:(p==q)=false:=by subst epq;cases p<;>rfl
 clear hsub hmk hs ht h1 hle epq
 go_enter Tryz.func119,Tryz.ntmps119
 go_wp2_with fail
 refine (HA.p0 _ (by go_grown)).mono ?_;rintro e w1 ⟨v1,rfl,h1⟩
 have N1:=(new3 34 34 34 w (.bool p) s (.bool q) t (.bool false) (.slice none 0 0)).keep h1.2
 obtain ⟨c0,c1,c2,c3⟩:=N1.ld
 have H1:=Yh2 N1 (HA.q1 _ _ _ (by go_grown) h1)
 clear N1 h1
 go_wp2_with fail
 refine (H1.q1 _ (Below.refl _ _)).mono ?_;rintro e w2 ⟨v2,rfl,h2,hb2⟩
 obtain ⟨pz,A,la,c,rfl,H2'⟩:=h2.parts
 have N2:=H1.p0.keep hb2
 obtain ⟨k0,k1,k2,k3⟩:=N2.2.2.1.facts
 have H2:=Yh2 N2 h2
 clear N2 h2 H2' hb2 c0 c1 c2 c3
 go_wp2_with fail
 refine ret_bx H2.p0.2.2.1 (fun W d0 d1=>by simp [results,Tryz.results119,go_sem,d0,d1]) rfl ?_
 exact ⟨_,rfl,H2.q1.put int_word H2.p0.2.2.1 Yo _ _⟩
theorem add_lt {w:World} {L1 L2 m n:Nat} {s t:Value} (p q:Bool) (epq:q=!p) (hs:Nm w L1 s m) (ht:Nm w L2 t n) (h1:L1<=68719476736) (h2:L2<=68719476736) (hlt:m<n):
 Calls Tryz.prog 119 #[.agg #[.bool p,s],.agg #[.bool q,t]] w fun e w'=>∃ v,e=.returned v/\Zs w w' v (sg q (n - m)):=by
 have hsub:=fun W (hb:Yg w W)=>sub_nm (hs.keep hb) (ht.keep hb) Yo
 rw [show subErr m n=4 from by simp [subErr,hlt]] at hsub
 have hsub2:=fun W (hb:Yg w W)=>sub_nm (ht.keep hb) (hs.keep hb) Yo
 rw [show subErr n m=0 from by simp [subErr];omega] at hsub2
 have hmk:=fun w1 w2 v1 (hb:Yg w w1) (h:Rs w1 w2 v1 (n - m))=>make_rs q (L:=L2) Yo (Nat.lt_of_le_of_lt (Nat.sub_le _ _) ht.lt) (h.out hb)
 have HA:=Yh3 hsub hsub2 hmk
 have hpq:(p==q)=false:=by subst epq;cases p<;>rfl
 clear hsub hsub2 hmk hs ht h1 h2 hlt epq
 go_enter Tryz.func119,Tryz.ntmps119
 go_wp2_with fail
 refine (HA.p0 _ (by go_grown)).mono ?_;rintro e w1 ⟨v1,rfl,h1⟩
 have N1:=(new3 34 34 34 w (.bool p) s (.bool q) t (.bool false) (.slice none 0 0)).keep h1.2
 obtain ⟨c0,c1,c2,c3⟩:=N1.ld
 have H1:=Lib.hid N1
 clear N1 h1
 go_wp2_with fail
 refine (HA.p1 _ H1.q3).mono ?_;rintro e w2 ⟨v2,rfl,h2⟩
 have N2:=H1.out.keep h2.2
 have H2:=Yh2 N2 (HA.q2 _ _ _ H1.q3 h2)
 clear c0 c1 c2 c3
 obtain ⟨c0,c1,c2,c3⟩:=N2.ld
 clear N2 h2 H1 HA
 go_wp2_with fail
 refine (H2.q1 _ (Below.refl _ _)).mono ?_;rintro e w3 ⟨v3,rfl,h3,hb3⟩
 obtain ⟨pz,A,la,c,rfl,H3'⟩:=h3.parts
 have N3:=H2.p0.keep hb3
 obtain ⟨k0,k1,k2,k3⟩:=N3.2.2.1.facts
 have H3:=Yh2 N3 h3
 clear N3 h3 H3' hb3 c0 c1 c2 c3 H2
 go_wp2_with fail
 refine ret_bx H3.p0.2.2.1 (fun W d0 d1=>by simp [results,Tryz.results119,go_sem,d0,d1]) rfl ?_
 exact ⟨_,rfl,H3.q1.put int_word H3.p0.2.2.1 Yo _ _⟩
theorem add_z {w:World} {L1 L2:Nat} {a b:Value} {x y:Int} (ha:Zn w L1 a x) (hb:Zn w L2 b y) (h1:L1<=68719476736) (h2:L2<=68719476736):
 Calls Tryz.prog 119 #[a,b] w fun e w'=>∃ v,e=.returned v/\Zs w w' v (x+y):=by
 obtain ⟨p,s,m,rfl,hs,rfl⟩:=ha
 obtain ⟨q,t,n,rfl,ht,rfl⟩:=hb
 by_cases hpq:p=q
 · subst hpq
   rw [sg_add]
   exact add_eq p p rfl hs ht h1 h2
 · obtain rfl:q=!p:=by cases p<;>cases q<;>simp_all
   by_cases hle:n<=m
   · rw [sg_sub p m n hle];exact add_ge p _ rfl hs ht h1 hle
   · rw [sg_sub' p m n (by omega)];exact add_lt p _ rfl hs ht h1 h2 Yo
theorem mul_z {w:World} {L1 L2:Nat} {a b:Value} {x y:Int} (ha:Zn w L1 a x) (hb:Zn w L2 b y) (h1:L1<=68719476736) (h2:L2<=68719476736):
 Calls Tryz.prog 121 #[a,b] w fun e w'=>∃ v,e=.returned v/\Zs w w' v (x*y):=by
 obtain ⟨p,s,m,rfl,hs,rfl⟩:=ha
 obtain ⟨q,t,n,rfl,ht,rfl⟩:=hb
 rw [sg_mul]
 obtain ⟨r,hr⟩:∃ r,(p !=q)=r:=⟨_,rfl⟩
 rw [hr]
 have hr:(!(p==q))=r:=hr
 have hmul:=fun W (hb:Yg w W)=>mul_nm (hs.keep hb) (ht.keep hb) Yo Yo
 have hlt:=pow_mul hs.lt ht.lt
 have hmk:=fun w1 w2 v1 (hb:Yg w w1) (h:Rs w1 w2 v1 (m*n))=>make_rs r (L:=L1+L2) Yo hlt (h.out hb)
 have HA:=Yh2 hmul hmk
 have N0:=new3 34 34 34 w (.bool p) s (.bool q) t (.bool false) (.slice none 0 0)
 have hpq:True:=trivial
 clear hmul hmk hs ht h1 h2 hlt
 go_enter Tryz.func121,Tryz.ntmps121
 go_upto_region 1 with (fail)
 generalize ((w.alloc _).alloc _).alloc _=W0 at N0 ⊢
 have HN:=Lib.hid N0
 have HS0:=N0.ld
 clear N0 hpq
 go_region_held3 (fun W=>W.cell? ⟨w.heap.size,0,none⟩=some (.bool p)/\W.cell? ⟨w.heap.size,1,none⟩=some s/\W.cell? ⟨w.heap.size+1,0,none⟩=some (.bool q)/\W.cell? ⟨w.heap.size+1,1,none⟩=some t) (first | exact HS0 | exact HS1 | exact HS2 | exact (H2.p0.st _ _).ld)
  (first
   | (go_at_call 120;refine (HA.p0 _ (by exact Yb HN.q3 (below_dr _ 1))).mono ?_;rintro e w1 ⟨v1,rfl,h1⟩;have N1:=(HN.out.drew 1).keep h1.2;have HS1:=N1.ld;have H1:=Yh2 N1 (HA.q1 _ _ _ (Yb HN.q3 (below_dr _ 1)) h1);clear N1 h1)
   | (go_at_call 159;refine (H1.q1 _ (Below.refl _ _)).mono ?_;rintro e w2 ⟨v2,rfl,h2,hb2⟩;obtain ⟨pz,A,la,c,rfl,H2'⟩:=h2.parts;have N2:=H1.p0.keep hb2;have HS2:=N2.ld;obtain ⟨k0,k1,k2,k3⟩:=N2.2.2.1.facts;have H2:=Yh2 N2 h2;clear N2 h2 H2' hb2))
 go_wp2_with fail
 refine ret_bx H2.p0.2.2.1 (fun W d0 d1=>by simp [results,Tryz.results121,go_sem,d0,d1]) rfl ?_
 exact ⟨_,rfl,H2.q1.put int_word H2.p0.2.2.1 Yo _ _⟩
end
section
open Go Go.RowKit Go.Proofs Pl
section
variable {t:TypeId} {w:World} {g:Nat} {p0:Bool} {A0:Option Addr} {l0 c0:Nat}
theorem Bx.int_cell (X:Bx t w g (.bool p0) (.slice A0 l0 c0)) {b o:Nat} {k:IntKind} {n:Int} (h:w.cell? ⟨b,o,none⟩=some (.int k n)) (x y:Value):
 ((w.setCell ⟨g,0,none⟩ x).setCell ⟨g,1,none⟩ y).cell? ⟨b,o,none⟩=some (.int k n):=by
 have hne:b≠g:=by
  rintro rfl
  have X':w.heap[b]?=_:=X
  match o,h with
  | 0,h=>simp [World.cell?,X'] at h
  | 1,h=>simp [World.cell?,X'] at h
  | o+2,h=>simp [World.cell?,X'] at h
 have e:((w.setCell ⟨g,0,none⟩ x).setCell ⟨g,1,none⟩ y).heap[b]?=w.heap[b]?:=
  (Below.heap_setCell _ _ _ _ (by exact hne)).trans (Below.heap_setCell _ _ _ _ (by exact hne))
 exact (World.cell?_of_block (w:=w) (a:=⟨b,o,none⟩) e).trans h
variable {xs:List Nat} {A:Option Addr} {s v:Value} {L n:Nat} {z:Int}
theorem Rd.put (h:Rd w A xs) (X:Bx t w g (.bool p0) (.slice A0 l0 c0)) (x y:Value):Rd ((w.setCell ⟨g,0,none⟩ x).setCell ⟨g,1,none⟩ y) A xs:=by
 rcases h with ⟨h1,h2⟩
 refine ⟨h1,?_⟩
 rcases h2 with h2 | ⟨b,o,h3,h4⟩
 · exact .inl h2
 · exact .inr ⟨b,o,h3,fun j k hj=>X.int_cell (h4 j k hj) x y⟩
theorem Nl.put (h:Nl w s xs) (X:Bx t w g (.bool p0) (.slice A0 l0 c0)) (x y:Value):Nl ((w.setCell ⟨g,0,none⟩ x).setCell ⟨g,1,none⟩ y) s xs:=by
 obtain ⟨A,c,h1,h2,h3⟩:=h
 exact ⟨A,c,h1,h2.put X x y,h3⟩
namespace I
theorem Rd.put (h:Rd w A xs) (X:Bx t w g (.bool p0) (.slice A0 l0 c0)) (x y:Value):Rd ((w.setCell ⟨g,0,none⟩ x).setCell ⟨g,1,none⟩ y) A xs:=by
 rcases h with ⟨h1,h2⟩
 refine ⟨h1,?_⟩
 rcases h2 with h2 | ⟨b,o,h3,h4⟩
 · exact .inl h2
 · exact .inr ⟨b,o,h3,fun j k hj=>X.int_cell (h4 j k hj) x y⟩
theorem Nl.put (h:Nl w s xs) (X:Bx t w g (.bool p0) (.slice A0 l0 c0)) (x y:Value):Nl ((w.setCell ⟨g,0,none⟩ x).setCell ⟨g,1,none⟩ y) s xs:=by
 obtain ⟨A,c,h1,h2,h3⟩:=h
 exact ⟨A,c,h1,h2.put X x y,h3⟩
theorem Dn.put (h:Dn w L s n) (X:Bx t w g (.bool p0) (.slice A0 l0 c0)) (x y:Value):Dn ((w.setCell ⟨g,0,none⟩ x).setCell ⟨g,1,none⟩ y) L s n:=⟨h.1.put X x y,h.2⟩
end I
end
end
section
open Go Go.RowKit Go.Proofs Pl
theorem sign_is (x:Int):signZ x=-1/\x<0∨signZ x=0/\x=0∨signZ x=1/\0<x:=by
 unfold signZ;split
 · exact .inr (.inl ⟨rfl,‹_›⟩)
 · split
   · exact .inl ⟨rfl,‹_›⟩
   · exact .inr (.inr ⟨rfl,Yo⟩)
theorem cmpZ_abs_neg {x y:Int} (hx:x<0) (hy:y<0):cmpN y.natAbs x.natAbs=cmpZ x y:=by unfold cmpN cmpZ;split<;>(try split)<;>(try split)<;>(try split)<;>omega
theorem cmpZ_abs {x y:Int} (hx:0<=x) (hy:0<=y):cmpN x.natAbs y.natAbs=cmpZ x y:=by unfold cmpN cmpZ;split<;>(try split)<;>(try split)<;>(try split)<;>omega
theorem cmp_z {w:World} {L1 L2:Nat} {a b:Value} {x y:Int} (ha:Zn w L1 a x) (hb:Zn w L2 b y) (h1:L1<=274877906944) (h2:L2<=274877906944):
 Calls Tryz.prog 146 #[a,b] w fun e w'=>e=.returned (.int .i64 (cmpZ x y))/\Yg w w':=by
 have hsx:=fun w1 (hb1:Yg w w1)=>sign_z (ha.keep hb1) h1
 have hsy:=fun w1 (hb1:Yg w w1)=>sign_z (hb.keep hb1) h2
 obtain ⟨p,s,m,rfl,hs,ex⟩:=ha
 obtain ⟨q,t,n,rfl,ht,ey⟩:=hb
 have em:x.natAbs=m:=by rw [ex,sg_abs]
 have en:y.natAbs=n:=by rw [ey,sg_abs]
 have hc:=fun w1 (hb1:Yg w w1)=>cmp_nm (hs.keep hb1) (ht.keep hb1)
 have hd:=fun w1 (hb1:Yg w w1)=>cmp_nm (ht.keep hb1) (hs.keep hb1)
 simp only [<- em,<- en] at hc hd
 have key:∀ i j:Int,signZ x=i->signZ y=j->(i<j/\cmpZ x y=-1∨j<i/\cmpZ x y=1∨i=j/\j<0/\cmpN y.natAbs x.natAbs=cmpZ x y∨i=j/\¬ j<0/\cmpN x.natAbs y.natAbs=cmpZ x y):=by
  intro i j hi hj
  rcases sign_is x with ⟨e1,h1⟩ | ⟨e1,h1⟩ | ⟨e1,h1⟩<;>rcases sign_is y with ⟨e2,h2⟩ | ⟨e2,h2⟩ | ⟨e2,h2⟩<;>rw [e1] at hi<;>rw [e2] at hj<;>subst hi<;>subst hj
  · exact .inr (.inr (.inl ⟨rfl,Yd,cmpZ_abs_neg h1 h2⟩))
  · exact .inl ⟨Yd,by unfold cmpZ;rw [if_pos (by omega)]⟩
  · exact .inl ⟨Yd,by unfold cmpZ;rw [if_pos (by omega)]⟩
  · exact .inr (.inl ⟨Yd,by unfold cmpZ;rw [if_neg (by omega),if_neg (by omega)]⟩)
  · exact .inr (.inr (.inr ⟨rfl,Yd,cmpZ_abs Yo Yo⟩))
  · exact .inl ⟨Yd,by unfold cmpZ;rw [if_pos (by omega)]⟩
  · exact .inr (.inl ⟨Yd,by unfold cmpZ;rw [if_neg (by omega),if_neg (by omega)]⟩)
  · exact .inr (.inl ⟨Yd,by unfold cmpZ;rw [if_neg (by omega),if_neg (by omega)]⟩)
  · exact .inr (.inr (.inr ⟨rfl,Yd,cmpZ_abs Yo Yo⟩))
 obtain ⟨i,hi⟩:∃ i,signZ x=i:=⟨_,rfl⟩
 obtain ⟨j,hj⟩:∃ j,signZ y=j:=⟨_,rfl⟩
 have key:=key i j hi hj
 simp only [hi] at hsx
 simp only [hj] at hsy
 obtain ⟨z,hz⟩:∃ z,cmpZ x y=z:=⟨_,rfl⟩
 obtain ⟨c1,e1⟩:∃ z,cmpN x.natAbs y.natAbs=z:=⟨_,rfl⟩
 obtain ⟨c2,e2⟩:∃ z,cmpN y.natAbs x.natAbs=z:=⟨_,rfl⟩
 rw [hz,e1,e2] at key
 simp only [e1] at hc
 simp only [e2] at hd
 rw [hz]
 have H:=Yh4 hsx hsy hc hd
 clear hsx hsy hc hd hs ht ex ey em en hi hj hz e1 e2 h1 h2
 have N0:=new2 34 34 w (.bool p) s (.bool q) t
 go_enter Tryz.func146,Tryz.ntmps146
 go_upto_region 1 with (fail)
 generalize (w.alloc _).alloc _=W0 at N0 ⊢
 have HN:=Lib.hid N0
 have KEY:=Lib.hid key
 have HS0:=N0.ld2
 clear N0 key
 go_region_held3 (fun W=>W.cell? ⟨w.heap.size,0,none⟩=some (.bool p)/\W.cell? ⟨w.heap.size,1,none⟩=some s/\W.cell? ⟨w.heap.size+1,0,none⟩=some (.bool q)/\W.cell? ⟨w.heap.size+1,1,none⟩=some t) (first | exact HS0 | exact HS1 | exact HS2)
  (first
   | (go_at_call 117;refine (H.p1 _ H1.q2).mono ?_;rintro e w2 ⟨rfl,hb2⟩;have N2:=H1.out.keep hb2;have HS2:=N2.ld2;have H2:=Lib.hid N2;clear N2 hb2)
   | (go_at_call 117;refine (H.p0 _ (by exact Yb HN.q2 (below_dr _ 1))).mono ?_;rintro e w1 ⟨rfl,hb1⟩;have N1:=(HN.out.drew 1).keep hb1;have HS1:=N1.ld2;have H1:=Lib.hid N1;clear N1 hb1))
 obtain ⟨c0,c1,c2,c3⟩:=HS2
 clear HS0 HS1
 rcases KEY.out with ⟨k1,k2⟩ | ⟨k1,k2⟩ | ⟨k1,k2,k3⟩ | ⟨k1,k2,k3⟩
 · have hne:i≠j:=by omega
   have HK:=Lib.hid k2
   clear k2 KEY
   go_wp2_with fail
   go_ret
   exact ⟨by rw [HK.out];rfl,H2.q2⟩
 · have hne:i≠j:=by omega
   have hnl:¬ i<j:=Yo
   have HK:=Lib.hid k2
   clear k2 KEY
   go_wp2_with fail
   go_ret
   exact ⟨by rw [HK.out];rfl,H2.q2⟩
 · subst k1
   have hse:(i !=i)=false:=by simp
   have HK:=Lib.hid k3
   clear k3 KEY
   go_wp2_with fail
   refine (H.q3 _ H2.q2).mono ?_;rintro e w3 ⟨rfl,hb3⟩
   have HD:=Lib.hid (Yb H2.q2 hb3)
   clear hb3
   go_wp2_with fail
   go_ret
   exact ⟨by rw [<- HK.out];rfl,HD.out⟩
 · subst k1
   have hse:(i !=i)=false:=by simp
   have HK:=Lib.hid k3
   clear k3 KEY
   go_wp2_with fail
   refine (H.p2 _ H2.q2).mono ?_;rintro e w3 ⟨rfl,hb3⟩
   have HD:=Lib.hid (Yb H2.q2 hb3)
   clear hb3
   go_wp2_with fail
   go_ret
   exact ⟨by rw [<- HK.out];rfl,HD.out⟩
end
section
namespace I
open Go Go.RowKit Go.Proofs Pl
def Zd (w:World) (L:Nat) (v:Value) (z:Int):Prop:=∃ s,v=.agg #[.bool (decide (z<0)),s]/\Dn w L s z.natAbs
section
variable {w w':World} {L L' n:Nat} {v s:Value} {z:Int} {b:Bool}
theorem Zd.keep (h:Zd w L v z) (hb:Below w.heap.size w w'):Zd w' L v z:=by
 obtain ⟨s,h1,h2⟩:=h
 exact ⟨s,h1,h2.keep hb⟩
theorem Zd.lt (h:Zd w L v z):z.natAbs<TB ^ L:=by
 obtain ⟨s,h1,h2⟩:=h
 exact h2.2
theorem Zd.thin (h:Zd w L v z) (hz:z.natAbs<TB ^ L'):Zd w L' v z:=by
 obtain ⟨s,h1,h2⟩:=h
 exact ⟨s,h1,h2.1,hz⟩
theorem Zd.put {t:TypeId} {g:Nat} {p0:Bool} {A0:Option Addr} {l0 c0:Nat} (h:Zd w L v z) (X:Bx t w g (.bool p0) (.slice A0 l0 c0)) (x y:Value):Zd ((w.setCell ⟨g,0,none⟩ x).setCell ⟨g,1,none⟩ y) L v z:=by
 obtain ⟨s,h1,h2⟩:=h
 exact ⟨s,h1,h2.put X x y⟩
theorem zd_of {t:TypeId} {g:Nat} {p0 p:Bool} {A0:Option Addr} {l0 c0:Nat} (h:Dn w L s n) (X:Bx t w g (.bool p0) (.slice A0 l0 c0)) (hp:p=decide (z<0)) (hn:z.natAbs=n) (x y:Value):Zd ((w.setCell ⟨g,0,none⟩ x).setCell ⟨g,1,none⟩ y) L (.agg #[.bool p,s]) z:=by
 subst hp;subst hn
 exact ⟨s,rfl,h.put X x y⟩
theorem Zd.parts (h:Zd w L v z):∃ p A n c,v=.agg #[.bool p,.slice A n c]/\Hid (Zd w L (.agg #[.bool p,.slice A n c]) z):=by
 have h':=h
 obtain ⟨s,rfl,h2⟩:=h
 obtain ⟨⟨A,c,rfl,-⟩,-⟩:=h2
 exact ⟨_,A,_,c,rfl,h'⟩
theorem Zd.open (h:Zd w L v z):∃ p s n,v=.agg #[.bool p,s]/\Dn w L s n/\z=sg p n:=by
 obtain ⟨s,h1,h2⟩:=h
 exact ⟨_,s,_,h1,h2,(sg_form z).symm⟩
end
theorem Dn.trim {w:World} {L n:Nat} {s:Value} (hs:Dn w L s n) (hL:L<=1099511627776):Calls Tryz.prog 172 #[s] w fun e w'=>∃ v,e=.returned v/\Dn w' L v n/\Below w.heap.size w w':=by
 refine (trim_nm hs.nm hL).mono ?_
 rintro e w' ⟨v,he,h⟩
 exact ⟨v,he,h.dn hs.2,h.2⟩
theorem form_d {w:World} {L n:Nat} {s:Value} (b:Bool) (hs:Dn w L s n) (hL:L<=1099511627776):
 Calls Tryz.prog 158 #[.bool b,s] w fun e w'=>∃ v,e=.returned v/\Zd w' L v (sg b n)/\Yg w w':=by
 have ht:=fun W (hb:Yg w W)=>(hs.keep hb).trim hL
 have HT:=Lib.hid ht
 clear ht hs
 cases b
 all_goals
  go_enter Tryz.func158,Tryz.ntmps158
  go_wp2_with fail
  refine (HT.out _ (by go_grown)).mono ?_;rintro e w1 ⟨v1,rfl,h1,hb1⟩
  have h1':=h1
  obtain ⟨⟨A,c,rfl,-⟩,-⟩:=h1
  have X:=(Bx.new 94 w (.bool false) (.slice none 0 0)).keep hb1
  obtain ⟨la,hla⟩:∃ la,la=(dg TB n).length:=⟨_,rfl⟩
  rw [<- hla] at h1' ⊢
  have hl0:la=0↔n=0:=by rw [hla];exact ⟨fun h=>(dg_eq_nil TB_one n).1 (List.eq_nil_of_length_eq_zero h),fun h=>by rw [h,dg_zero];rfl⟩
  obtain ⟨c0,c1,f0,f1⟩:=X.facts
  have HX:=Yh4 X h1' hl0 (Yb (Ya w _) hb1)
  clear X h1' hl0 hla HT hb1
  go_wp2_with fail
  refine ret_bx HX.p0 (fun W d0 d1=>by simp [results,Tryz.results158,go_sem,d0,d1]) rfl ?_
  refine ⟨_,rfl,zd_of HX.p1 HX.p0 ?_ (sg_abs _ _) _ _,HX.p0.below HX.q3 (Nat.le_refl _) (Nat.le_refl _) _ _⟩
  have hl0:=HX.p2
  first
  | exact (decide_eq_false (by simp [sg])).symm
  | (simp only [sg,if_true];exact decide_eq_decide.2 Yo)
theorem of_d {w:World} {L:Nat} {a:Value} {x:Int} (ha:Zn w L a x) (hL:L<=1048576):
 Calls Tryz.prog 108 #[a] w fun e w'=>∃ v,e=.returned v/\Zd w' (5*L) v x/\Yg w w':=by
 obtain ⟨p,s,n,rfl,⟨xs,hs,hl,hv⟩,rfl⟩:=ha
 have hof:=fun W (hb:Yg w W)=>of_dn (hs.keep hb) hl hL hv
 have hf:=fun w1 v1 (h:Dn w1 (5*L) v1 n)=>form_d p h Yo
 have HF:=Yh2 hof hf
 clear hof hf hs hl hv
 have N0:=new2 34 94 w (.bool p) s (.bool false) (.slice none 0 0)
 go_enter Tryz.func108,Tryz.ntmps108
 go_upto_region 1 with (fail)
 generalize (w.alloc _).alloc _=W0 at N0 ⊢
 have HN:=Lib.hid N0
 have HS0:=(N0.drew 1).ld
 have HS1:=HS0
 have HS2:=HS0
 have HS3:=HS0
 clear N0
 go_region_held3 (fun W=>W.cell? ⟨w.heap.size,0,none⟩=some (.bool p)/\W.cell? ⟨w.heap.size,1,none⟩=some s) (first | with_reducible exact HS1 | with_reducible exact HS2 | with_reducible exact HS3 | exact HS0)
  (first
   | (go_at_call 158;refine H1.q1.mono ?_;rintro e w2 ⟨v2,rfl,h2,hb2⟩;obtain ⟨pz,A,la,c,rfl,H2'⟩:=h2.parts;have N2:=H1.p0.keep hb2;have HS2:=N2.ld;have HS3:=(N2.st (.bool pz) (.slice A la c)).ld;obtain ⟨k0,k1,k2,k3⟩:=N2.2.1.facts;have H2:=Yh2 N2 h2;clear N2 h2 H2' hb2)
   | (go_at_call 106;refine (HF.p0 _ (by exact Yb HN.q2 (below_dr _ 1))).mono ?_;rintro e w1 ⟨v1,rfl,h1,hb1⟩;have N1:=(HN.out.drew 1).keep hb1;have HS1:=N1.ld;have H1:=Yh2 N1 (HF.q1 _ _ h1);clear N1 h1 hb1))
 go_wp2_with fail
 refine ret_bx H2.p0.2.1 (fun W d0 d1=>by simp [results,Tryz.results108,go_sem,d0,d1]) rfl ?_
 exact ⟨_,rfl,H2.q1.put H2.p0.2.1 _ _,(H2.p0.st _ _).2.2⟩
theorem neg_d {w:World} {L:Nat} {a:Value} {x:Int} (ha:Zd w L a x) (hL:L<=1099511627776):
 Calls Tryz.prog 132 #[a] w fun e w'=>∃ v,e=.returned v/\Zd w' L v (-x)/\Yg w w':=by
 obtain ⟨b,s,n,rfl,hs,rfl⟩:=ha.open
 have hm:=fun W (hb:Yg w W)=>form_d (!b) (hs.keep hb) hL
 simp only [sg_not] at hm
 have HM:=Lib.hid hm
 clear hm hs
 go_enter Tryz.func132,Tryz.ntmps132
 go_wp2_with fail
 refine (HM.out _ (by go_grown)).mono ?_;rintro e w2 ⟨v2,rfl,h2,hb2⟩
 obtain ⟨p,A,la,c,rfl,H2⟩:=h2.parts
 have N2:=(new2 94 94 w (.bool b) s (.bool false) (.slice none 0 0)).keep hb2
 obtain ⟨c0,c1,f0,f1⟩:=N2.2.1.facts
 have HX:=Yh2 N2 h2
 clear N2 h2 H2 HM hb2
 go_wp2_with fail
 refine ret_bx HX.p0.2.1 (fun W d0 d1=>by simp [results,Tryz.results132,go_sem,d0,d1]) rfl ?_
 exact ⟨_,rfl,HX.q1.put HX.p0.2.1 _ _,(HX.p0.st _ _).2.2⟩
theorem sign_d {w:World} {L:Nat} {a:Value} {x:Int} (ha:Zd w L a x):
 Calls Tryz.prog 129 #[a] w fun e w'=>e=.returned (.int .i64 (signZ x))/\Yg w w':=by
 obtain ⟨s,rfl,hs⟩:=ha
 obtain ⟨⟨A,c,rfl,-,-,-,-⟩,-⟩:=hs
 obtain ⟨la,hla⟩:∃ la,la=(dg TB x.natAbs).length:=⟨_,rfl⟩
 rw [<- hla]
 have hl0:la=0↔x.natAbs=0:=by rw [hla];exact ⟨fun h=>(dg_eq_nil TB_one _).1 (List.eq_nil_of_length_eq_zero h),fun h=>by rw [h,dg_zero];rfl⟩
 rcases sign_is x with ⟨e1,h1⟩ | ⟨e1,h1⟩ | ⟨e1,h1⟩
 · rw [decide_eq_true h1,e1]
   have hpos:¬ (la:Int)=0:=Yo
   clear hla hl0 h1 e1
   go_enter Tryz.func129,Tryz.ntmps129
   go_wp2_with fail
   go_ret
   exact ⟨rfl,by go_grown⟩
 · have hla0:la=0:=hl0.2 Yo
   rw [e1]
   obtain ⟨b,hb⟩:∃ b,b=decide (x<0):=⟨_,rfl⟩
   rw [<- hb]
   clear hla hl0 h1 e1 hb
   subst hla0
   go_enter Tryz.func129,Tryz.ntmps129
   go_wp2_with fail
   go_ret
   exact ⟨rfl,by go_grown⟩
 · rw [decide_eq_false (by omega),e1]
   have hpos:¬ (la:Int)=0:=Yo
   clear hla hl0 h1 e1
   go_enter Tryz.func129,Tryz.ntmps129
   go_wp2_with fail
   go_ret
   exact ⟨rfl,by go_grown⟩
theorem add_eq {w:World} {L1 L2 m n:Nat} {s t:Value} (p q:Bool) (epq:p=q) (hs:Dn w L1 s m) (ht:Dn w L2 t n) (h1:L1<=1073741824) (h2:L2<=1073741824):
 Calls Tryz.prog 135 #[.agg #[.bool p,s],.agg #[.bool q,t]] w fun e w'=>∃ v,e=.returned v/\Zd w' (L1+L2+1) v (sg p (m+n))/\Yg w w':=by
 have hadd:=fun W (hb:Yg w W)=>add_dn (hs.keep hb) (ht.keep hb) h1 h2
 have hmk:=fun w1 v1 (hb:Yg w w1) (h:Dn w1 (L1+L2+1) v1 (m+n))=>form_d p h Yo
 have HA:=Yh2 hadd hmk
 have N0:=new3 94 94 94 w (.bool p) s (.bool q) t (.bool false) (.slice none 0 0)
 have hpq:(p==q)=true:=by simp [epq]
 clear hadd hmk hs ht h1 h2 epq
 go_enter Tryz.func135,Tryz.ntmps135
 go_upto_region 2 with (fail)
 generalize ((w.alloc _).alloc _).alloc _=W0 at N0 ⊢
 have HN:=Lib.hid N0
 have HS0:=(N0.drew 1).ld
 have HS1:=HS0
 have HS2:=HS0
 have HS3:=HS0
 clear N0 hpq
 go_region_held3 (fun W=>W.cell? ⟨w.heap.size,0,none⟩=some (.bool p)/\W.cell? ⟨w.heap.size,1,none⟩=some s/\W.cell? ⟨w.heap.size+1,0,none⟩=some (.bool q)/\W.cell? ⟨w.heap.size+1,1,none⟩=some t) (first | with_reducible exact HS1 | with_reducible exact HS2 | with_reducible exact HS3 | exact HS0)
  (first
   | (go_at_call 158;refine H1.q1.mono ?_;rintro e w2 ⟨v2,rfl,h2,hb2⟩;obtain ⟨pz,A,la,c,rfl,H2'⟩:=h2.parts;have N2:=H1.p0.keep hb2;have HS2:=N2.ld;have HS3:=(N2.st (.bool pz) (.slice A la c)).ld;obtain ⟨k0,k1,k2,k3⟩:=N2.2.2.1.facts;have H2:=Yh2 N2 h2;clear N2 h2 H2' hb2)
   | (go_at_call 155;refine (HA.p0 _ (by exact Yb HN.q3 (below_dr _ 1))).mono ?_;rintro e w1 ⟨v1,rfl,h1,hb1⟩;have N1:=(HN.out.drew 1).keep hb1;have HS1:=N1.ld;have H1:=Yh2 N1 (HA.q1 _ _ (Yb HN.q3 (Yb (below_dr _ 1) hb1)) h1);clear N1 h1 hb1))
 go_wp2_with fail
 refine ret_bx H2.p0.2.2.1 (fun W d0 d1=>by simp [results,Tryz.results135,go_sem,d0,d1]) rfl ?_
 exact ⟨_,rfl,H2.q1.put H2.p0.2.2.1 _ _,(H2.p0.st _ _).2.2.2⟩
end I
end
section
namespace I
open Go Go.RowKit Go.Proofs Pl
theorem add_ge {w:World} {L1 L2 m n:Nat} {s t:Value} (p q:Bool) (epq:q=!p) (hs:Dn w L1 s m) (ht:Dn w L2 t n) (h1:L1<=1073741824) (h2:L2<=1073741824) (hle:n<=m):
 Calls Tryz.prog 135 #[.agg #[.bool p,s],.agg #[.bool q,t]] w fun e w'=>∃ v,e=.returned v/\Zd w' (L1+L2+1) v (sg p (m - n))/\Yg w w':=by
 have hcmp:=fun W (hb:Yg w W)=>cmp_dn (hs.keep hb) (ht.keep hb) h1 h2
 have hz:¬ cmpN m n<0:=by unfold cmpN;split<;>(try split)<;>omega
 obtain ⟨z,ez⟩:∃ z,cmpN m n=z:=⟨_,rfl⟩
 rw [ez] at hcmp hz
 have hsub:=fun W (hb:Yg w W)=>sub_dn (hs.keep hb) (ht.keep hb) h1 Yo
 have hmk:=fun w1 v1 (hb:Yg w w1) (h:Dn w1 L1 v1 (m - n))=>form_d p (h.mono (show L1<=L1+L2+1 by omega)) Yo
 have HC:=Lib.hid hcmp
 have HA:=Yh2 hsub hmk
 have N0:=new3 94 94 94 w (.bool p) s (.bool q) t (.bool false) (.slice none 0 0)
 have hpq:(p==q)=false:=by subst epq;cases p<;>rfl
 clear hcmp hsub hmk hs ht h1 h2 epq hle ez
 go_enter Tryz.func135,Tryz.ntmps135
 go_wp2_with fail
 refine (HC.out _ (by go_grown)).mono ?_;rintro e w' ⟨rfl,rfl⟩
 go_upto_region 4 with (fail)
 generalize ((w.alloc _).alloc _).alloc _=W0 at N0 ⊢
 have HN:=Lib.hid N0
 have HS0:=(N0.drew 1).ld
 have HS1:=HS0
 have HS2:=HS0
 have HS3:=HS0
 clear N0 hpq
 go_region_held3 (fun W=>W.cell? ⟨w.heap.size,0,none⟩=some (.bool p)/\W.cell? ⟨w.heap.size,1,none⟩=some s/\W.cell? ⟨w.heap.size+1,0,none⟩=some (.bool q)/\W.cell? ⟨w.heap.size+1,1,none⟩=some t) (first | with_reducible exact HS1 | with_reducible exact HS2 | with_reducible exact HS3 | exact HS0)
  (first
   | (go_at_call 158;refine H1.q1.mono ?_;rintro e w2 ⟨v2,rfl,h2,hb2⟩;obtain ⟨pz,A,la,c,rfl,H2'⟩:=h2.parts;have N2:=H1.p0.keep hb2;have HS2:=N2.ld;have HS3:=(N2.st (.bool pz) (.slice A la c)).ld;obtain ⟨k0,k1,k2,k3⟩:=N2.2.2.1.facts;have H2:=Yh2 N2 h2;clear N2 h2 H2' hb2)
   | (go_at_call 174;refine (HA.p0 _ (by exact Yb HN.q3 (below_dr _ 1))).mono ?_;rintro e w1 ⟨v1,rfl,h1,hb1⟩;have N1:=(HN.out.drew 1).keep hb1;have HS1:=N1.ld;have H1:=Yh2 N1 (HA.q1 _ _ (Yb HN.q3 (Yb (below_dr _ 1) hb1)) h1);clear N1 h1 hb1))
 go_wp2_with fail
 refine ret_bx H2.p0.2.2.1 (fun W d0 d1=>by simp [results,Tryz.results135,go_sem,d0,d1]) rfl ?_
 exact ⟨_,rfl,H2.q1.put H2.p0.2.2.1 _ _,(H2.p0.st _ _).2.2.2⟩
theorem add_lt {w:World} {L1 L2 m n:Nat} {s t:Value} (p q:Bool) (epq:q=!p) (hs:Dn w L1 s m) (ht:Dn w L2 t n) (h1:L1<=1073741824) (h2:L2<=1073741824) (hle:m<n):
 Calls Tryz.prog 135 #[.agg #[.bool p,s],.agg #[.bool q,t]] w fun e w'=>∃ v,e=.returned v/\Zd w' (L1+L2+1) v (sg q (n - m))/\Yg w w':=by
 have hcmp:=fun W (hb:Yg w W)=>cmp_dn (hs.keep hb) (ht.keep hb) h1 h2
 rw [show cmpN m n=-1 from by simp [cmpN,hle]] at hcmp
 have hsub:=fun W (hb:Yg w W)=>sub_dn (ht.keep hb) (hs.keep hb) h2 Yo
 have hmk:=fun w1 v1 (hb:Yg w w1) (h:Dn w1 L2 v1 (n - m))=>form_d q (h.mono (show L2<=L1+L2+1 by omega)) Yo
 have HC:=Lib.hid hcmp
 have HA:=Yh2 hsub hmk
 have N0:=new3 94 94 94 w (.bool p) s (.bool q) t (.bool false) (.slice none 0 0)
 have hpq:(p==q)=false:=by subst epq;cases p<;>rfl
 clear hcmp hsub hmk hs ht h1 h2 epq hle
 go_enter Tryz.func135,Tryz.ntmps135
 go_wp2_with fail
 refine (HC.out _ (by go_grown)).mono ?_;rintro e w' ⟨rfl,rfl⟩
 go_upto_region 5 with (fail)
 generalize ((w.alloc _).alloc _).alloc _=W0 at N0 ⊢
 have HN:=Lib.hid N0
 have HS0:=(N0.drew 1).ld
 have HS1:=HS0
 have HS2:=HS0
 have HS3:=HS0
 clear N0 hpq
 go_region_held3 (fun W=>W.cell? ⟨w.heap.size,0,none⟩=some (.bool p)/\W.cell? ⟨w.heap.size,1,none⟩=some s/\W.cell? ⟨w.heap.size+1,0,none⟩=some (.bool q)/\W.cell? ⟨w.heap.size+1,1,none⟩=some t) (first | with_reducible exact HS1 | with_reducible exact HS2 | with_reducible exact HS3 | exact HS0)
  (first
   | (go_at_call 158;refine H1.q1.mono ?_;rintro e w2 ⟨v2,rfl,h2,hb2⟩;obtain ⟨pz,A,la,c,rfl,H2'⟩:=h2.parts;have N2:=H1.p0.keep hb2;have HS2:=N2.ld;have HS3:=(N2.st (.bool pz) (.slice A la c)).ld;obtain ⟨k0,k1,k2,k3⟩:=N2.2.2.1.facts;have H2:=Yh2 N2 h2;clear N2 h2 H2' hb2)
   | (go_at_call 174;refine (HA.p0 _ (by exact Yb HN.q3 (below_dr _ 1))).mono ?_;rintro e w1 ⟨v1,rfl,h1,hb1⟩;have N1:=(HN.out.drew 1).keep hb1;have HS1:=N1.ld;have H1:=Yh2 N1 (HA.q1 _ _ (Yb HN.q3 (Yb (below_dr _ 1) hb1)) h1);clear N1 h1 hb1))
 go_wp2_with fail
 refine ret_bx H2.p0.2.2.1 (fun W d0 d1=>by simp [results,Tryz.results135,go_sem,d0,d1]) rfl ?_
 exact ⟨_,rfl,H2.q1.put H2.p0.2.2.1 _ _,(H2.p0.st _ _).2.2.2⟩
theorem add_d {w:World} {L1 L2:Nat} {a b:Value} {x y:Int} (ha:Zd w L1 a x) (hb:Zd w L2 b y) (h1:L1<=1073741824) (h2:L2<=1073741824):
 Calls Tryz.prog 135 #[a,b] w fun e w'=>∃ v,e=.returned v/\Zd w' (L1+L2+1) v (x+y)/\Yg w w':=by
 obtain ⟨p,s,m,rfl,hs,rfl⟩:=ha.open
 obtain ⟨q,t,n,rfl,ht,rfl⟩:=hb.open
 by_cases hpq:p=q
 · subst hpq
   rw [sg_add]
   exact add_eq p p rfl hs ht h1 h2
 · obtain rfl:q=!p:=by cases p<;>cases q<;>simp_all
   by_cases hle:n<=m
   · rw [sg_sub p m n hle];exact add_ge p _ rfl hs ht h1 h2 hle
   · rw [sg_sub' p m n (by omega)];exact add_lt p _ rfl hs ht h1 h2 Yo
theorem sub_d {w:World} {L1 L2:Nat} {a b:Value} {x y:Int} (ha:Zd w L1 a x) (hb:Zd w L2 b y) (h1:L1<=1073741824) (h2:L2<=1073741824):
 Calls Tryz.prog 153 #[a,b] w fun e w'=>∃ v,e=.returned v/\Zd w' (L1+L2+1) v (x - y)/\Yg w w':=by
 have hn:=fun W (hw:Yg w W)=>neg_d (hb.keep hw) Yo
 have hadd:=fun w1 v1 (hw:Yg w w1) (h:Zd w1 L2 v1 (-y))=>add_d (ha.keep hw) h h1 h2
 have HA:=Yh2 hn hadd
 clear hn hadd h1 h2
 rw [Int.sub_eq_add_neg]
 obtain ⟨p,s,m,rfl,-,-⟩:=ha.open
 obtain ⟨q,t,n,rfl,-,-⟩:=hb.open
 have N0:=new3 94 94 94 w (.bool p) s (.bool q) t (.bool false) (.slice none 0 0)
 have hpq:True:=trivial
 clear ha hb
 go_enter Tryz.func153,Tryz.ntmps153
 go_upto_region 1 with (fail)
 generalize ((w.alloc _).alloc _).alloc _=W0 at N0 ⊢
 have HN:=Lib.hid N0
 have HS0:=(N0.drew 1).ld
 have HS1:=HS0
 have HS2:=HS0
 have HS3:=HS0
 clear N0 hpq
 go_region_held3 (fun W=>W.cell? ⟨w.heap.size,0,none⟩=some (.bool p)/\W.cell? ⟨w.heap.size,1,none⟩=some s/\W.cell? ⟨w.heap.size+1,0,none⟩=some (.bool q)/\W.cell? ⟨w.heap.size+1,1,none⟩=some t) (first | with_reducible exact HS1 | with_reducible exact HS2 | with_reducible exact HS3 | exact HS0)
  (first
   | (go_at_call 135;refine H1.q1.mono ?_;rintro e w2 ⟨v2,rfl,h2,hb2⟩;obtain ⟨pz,A,la,c,rfl,H2'⟩:=h2.parts;have N2:=H1.p0.keep hb2;have HS2:=N2.ld;have HS3:=(N2.st (.bool pz) (.slice A la c)).ld;obtain ⟨k0,k1,k2,k3⟩:=N2.2.2.1.facts;have H2:=Yh2 N2 h2;clear N2 h2 H2' hb2)
   | (go_at_call 132;refine (HA.p0 _ (by exact Yb HN.q3 (below_dr _ 1))).mono ?_;rintro e w1 ⟨v1,rfl,h1,hb1⟩;have N1:=(HN.out.drew 1).keep hb1;have HS1:=N1.ld;have H1:=Yh2 N1 (HA.q1 _ _ (Yb HN.q3 (Yb (below_dr _ 1) hb1)) h1);clear N1 h1 hb1))
 go_wp2_with fail
 refine ret_bx H2.p0.2.2.1 (fun W d0 d1=>by simp [results,Tryz.results153,go_sem,d0,d1]) rfl ?_
 exact ⟨_,rfl,H2.q1.put H2.p0.2.2.1 _ _,(H2.p0.st _ _).2.2.2⟩
theorem mul_d {w:World} {L1 L2:Nat} {a b:Value} {x y:Int} (ha:Zd w L1 a x) (hb:Zd w L2 b y) (h1:L1<=1073741824) (h2:L2<=1073741824):
 Calls Tryz.prog 137 #[a,b] w fun e w'=>∃ v,e=.returned v/\Zd w' (L1+L2) v (x*y)/\Yg w w':=by
 obtain ⟨p,s,m,rfl,hs,rfl⟩:=ha.open
 obtain ⟨q,t,n,rfl,ht,rfl⟩:=hb.open
 rw [sg_mul]
 obtain ⟨r,hr⟩:∃ r,(p !=q)=r:=⟨_,rfl⟩
 rw [hr]
 have hr:(!(p==q))=r:=hr
 have hmul:=fun W (hb:Yg w W)=>mul_dn (hs.keep hb) (ht.keep hb) h1 h2
 have hmk:=fun w1 v1 (hb:Yg w w1) (h:Dn w1 (L1+L2) v1 (m*n))=>form_d r h Yo
 have HA:=Yh2 hmul hmk
 have N0:=new3 94 94 94 w (.bool p) s (.bool q) t (.bool false) (.slice none 0 0)
 have hpq:True:=trivial
 clear hmul hmk hs ht h1 h2 ha hb
 go_enter Tryz.func137,Tryz.ntmps137
 go_upto_region 1 with (fail)
 generalize ((w.alloc _).alloc _).alloc _=W0 at N0 ⊢
 have HN:=Lib.hid N0
 have HS0:=(N0.drew 1).ld
 have HS1:=HS0
 have HS2:=HS0
 have HS3:=HS0
 clear N0 hpq
 go_region_held3 (fun W=>W.cell? ⟨w.heap.size,0,none⟩=some (.bool p)/\W.cell? ⟨w.heap.size,1,none⟩=some s/\W.cell? ⟨w.heap.size+1,0,none⟩=some (.bool q)/\W.cell? ⟨w.heap.size+1,1,none⟩=some t) (first | with_reducible exact HS1 | with_reducible exact HS2 | with_reducible exact HS3 | exact HS0)
  (first
   | (go_at_call 158;refine H1.q1.mono ?_;rintro e w2 ⟨v2,rfl,h2,hb2⟩;obtain ⟨pz,A,la,c,rfl,H2'⟩:=h2.parts;have N2:=H1.p0.keep hb2;have HS2:=N2.ld;have HS3:=(N2.st (.bool pz) (.slice A la c)).ld;obtain ⟨k0,k1,k2,k3⟩:=N2.2.2.1.facts;have H2:=Yh2 N2 h2;clear N2 h2 H2' hb2)
   | (go_at_call 136;refine (HA.p0 _ (by exact Yb HN.q3 (below_dr _ 1))).mono ?_;rintro e w1 ⟨v1,rfl,h1,hb1⟩;have N1:=(HN.out.drew 1).keep hb1;have HS1:=N1.ld;have H1:=Yh2 N1 (HA.q1 _ _ (Yb HN.q3 (Yb (below_dr _ 1) hb1)) h1);clear N1 h1 hb1))
 go_wp2_with fail
 refine ret_bx H2.p0.2.2.1 (fun W d0 d1=>by simp [results,Tryz.results137,go_sem,d0,d1]) rfl ?_
 exact ⟨_,rfl,H2.q1.put H2.p0.2.2.1 _ _,(H2.p0.st _ _).2.2.2⟩
theorem cmp_d {w:World} {L1 L2:Nat} {a b:Value} {x y:Int} (ha:Zd w L1 a x) (hb:Zd w L2 b y) (h1:L1<=1073741824) (h2:L2<=1073741824):
 Calls Tryz.prog 104 #[a,b] w fun e w'=>e=.returned (.int .i64 (cmpZ x y))/\Yg w w':=by
 have hs:=fun W (hw:Yg w W)=>sub_d (ha.keep hw) (hb.keep hw) h1 h2
 have hg:=fun w1 v1 (h:Zd w1 (L1+L2+1) v1 (x - y))=>sign_d h
 simp only [cmpZ_sub] at hg
 have HA:=Yh2 hs hg
 obtain ⟨p,s,m,rfl,-,-⟩:=ha.open
 obtain ⟨q,t,n,rfl,-,-⟩:=hb.open
 clear hs hg ha hb h1 h2
 go_enter Tryz.func104,Tryz.ntmps104
 go_wp2_with fail
 refine (HA.p0 _ (by go_grown)).mono ?_;rintro e w1 ⟨v1,rfl,h1,hb1⟩
 have HM:=Yh2 (HA.q1 _ _ h1) (Yb (Yb (Ya w _) (Ya _ _)) hb1)
 clear h1 HA hb1
 go_wp2_with fail
 refine HM.p0.mono ?_;rintro e w2 ⟨rfl,hb2⟩
 have HB:=Lib.hid (Yb HM.q1 hb2)
 clear hb2 HM
 go_wp2_with fail
 go_ret
 exact ⟨rfl,HB.out⟩
end I
end
section
open Go Go.RowKit Go.Proofs Pl
theorem word_one (w:World) (o:Obj) (x:Nat) (hx:x<WB):Nm ((w.alloc o).alloc (.cells #[.int .u64 (x:Int)] 125)) 1 (.slice (some ⟨w.heap.size+1,0,none⟩) 1 1) x:=
 ⟨_,nl_one' (w.alloc o) x _ (by simp) hx,by simp,by simp [val]⟩
theorem of_pos {w:World} {n:Nat} (h:n<9223372036854775808):
 Calls Tryz.prog 116 #[.int .i64 (n:Int)] w fun e w'=>∃ v,e=.returned v/\Zs w w' v (n:Int):=by
 have h0:(0:Int)<=(n:Int):=Yo
 have hu:IntKind.u64.wrap (n:Int)=(n:Int):=IntWalk.u64_in _ Yo
 have HH:=Lib.hid h
 clear h
 go_enter Tryz.func116,Tryz.ntmps116
 go_wp2_with fail
 refine (make_z false (word_one w _ _ (by rw [WB_eq];have:=HH.out;omega)) Yd).mono ?_;rintro e w2 ⟨v2,rfl,h2⟩
 obtain ⟨p,A,la,c,rfl,H2⟩:=h2.parts
 have X:=((Bx.new 34 w (.bool false) (.slice none 0 0)).alloc _).keep h2.below
 obtain ⟨c0,c1,f0,f1⟩:=X.facts
 have HX:=Yh2 X (h2.from (Yb (Ya w _) (Ya _ _)))
 clear X h2 H2
 go_wp2_with fail
 refine ret_bx HX.p0 (fun W d0 d1=>by simp [results,Tryz.results116,go_sem,d0,d1]) rfl ?_
 have hz:=HX.q1.put int_word HX.p0 (Nat.le_refl _)
 rw [show sg false n=(n:Int) from rfl] at hz
 exact ⟨_,rfl,hz _ _⟩
theorem of_neg {w:World} {n:Nat} (h:n<9223372036854775808):
 Calls Tryz.prog 116 #[.int .i64 (-(n:Int) - 1)] w fun e w'=>∃ v,e=.returned v/\Zs w w' v (-(n:Int) - 1):=by
 obtain ⟨k,hk⟩:∃ k:Int,k=-(n:Int) - 1:=⟨_,rfl⟩
 obtain ⟨k1,hk1⟩:∃ k1:Int,k1=-(n:Int):=⟨_,rfl⟩
 obtain ⟨m,hm⟩:∃ m:Nat,m=n+1:=⟨_,rfl⟩
 rw [<- hk]
 have h0:k<0:=Yo
 have h1:IntKind.i64.wrap (k+1)=k1:=by rw [show k+1=k1 by omega];exact IntWalk.i64_in _ Yo
 have h2:IntKind.i64.wrap (-k1)=(n:Int):=by rw [show -k1=n by omega];exact IntWalk.i64_in _ Yo
 have h3:IntKind.u64.wrap (n:Int)=(n:Int):=IntWalk.u64_in _ Yo
 have h4:IntKind.u64.wrap ((n:Int)+1)=(m:Int):=by rw [show (n:Int)+1=m by omega];exact IntWalk.u64_in _ Yo
 have HK:=Yh3 hk hm h
 clear h hk hk1 hm
 go_enter Tryz.func116,Tryz.ntmps116
 go_wp2_with fail
 refine (make_z true (word_one w _ _ (by rw [WB_eq];have:=HK.out;omega)) Yd).mono ?_;rintro e w2 ⟨v2,rfl,h2⟩
 obtain ⟨p,A,la,c,rfl,H2⟩:=h2.parts
 have X:=((Bx.new 34 w (.bool false) (.slice none 0 0)).alloc _).keep h2.below
 obtain ⟨c0,c1,f0,f1⟩:=X.facts
 have HX:=Yh2 X (h2.from (Yb (Ya w _) (Ya _ _)))
 clear X h2 H2
 go_wp2_with fail
 refine ret_bx HX.p0 (fun W d0 d1=>by simp [results,Tryz.results116,go_sem,d0,d1]) rfl ?_
 have hz:=HX.q1.put int_word HX.p0 (Nat.le_refl _)
 rw [show sg true m=k from by have:=HK.out;simp only [sg,if_true];omega] at hz
 exact ⟨_,rfl,hz _ _⟩
def Small64 (z:Int):Prop:=-9223372036854775808<=z/\z<=9223372036854775807
theorem of_z {w:World} {z:Int} (h:Small64 z):Calls Tryz.prog 116 #[.int .i64 z] w fun e w'=>∃ v,e=.returned v/\Zs w w' v z:=by
 unfold Small64 at h
 by_cases h0:0<=z
 · obtain ⟨n,rfl⟩:∃ n:Nat,z=(n:Int):=⟨z.toNat,Yo⟩
   exact of_pos Yo
 · obtain ⟨n,rfl⟩:∃ n:Nat,z=-(n:Int) - 1:=⟨(-z - 1).toNat,Yo⟩
   exact of_neg Yo
end
section
namespace I
open Go Go.RowKit Go.Proofs Pl
theorem lit_own (w:World) {x:Nat} (hx:x<TB):Ow (w.alloc (.cells #[.int .i64 (x:Int)] 3)) w.heap.size (.slice (some ⟨w.heap.size,0,none⟩) 1 1) [x]:=by
 refine ⟨fun y hy=>by rw [List.mem_singleton] at hy;subst hy;exact hx,rfl,.inr ⟨w.heap.size,1,#[.int .i64 (x:Int)],rfl,Nat.le_refl _,heap_alloc_new _ _,Nat.le_refl _,Yd,rfl,rfl⟩⟩
theorem lit_dn (w:World) {x L:Nat} (hx:x<TB) (h0:x≠0) (hL:1<=L):Dn (w.alloc (.cells #[.int .i64 (x:Int)] 3)) L (.slice (some ⟨w.heap.size,0,none⟩) 1 1) x:=by
 have h:=lit_own w hx
 have e:dg TB x=[x]:=by
  have h2:=dg_val TB_one h.1 (show Canon [x] by have:=canon_snoc (ys:=[]) h0;exact this)
  simpa [val] using h2
 refine ⟨by rw [e];exact h.nl,Nat.lt_of_lt_of_le hx ?_⟩
 have:=Nat.pow_le_pow_right TB_pos hL
 rwa [Nat.pow_one] at this
end I
end
section
open Go Go.RowKit Go.Proofs Pl
namespace I
def b8 (l:List UInt8):List Value:=l.map fun (b:UInt8)=>Value.int .u8 (b.toNat:Int)
end I
end
section
open Go Go.RowKit Go.Proofs Pl
namespace I
def lenOf:Value->Nat
 | .slice _ n _=>n
 | _=>0
end I
end
section
namespace I
open Go Go.RowKit Go.Proofs Pl
theorem one_dn (w:World):Dn (w.alloc (.cells #[.int .i64 1] 3)) 1 (.slice (some ⟨w.heap.size,0,none⟩) 1 1) 1:=by
 exact lit_dn w (x:=1) (L:=1) (by rw [TB_eq];decide) Yd (Nat.le_refl _)
theorem small_pos {w:World} {n:Nat} (h:n<9223372036854775808):
 Calls Tryz.prog 131 #[.int .i64 (n:Int)] w fun e w'=>∃ v,e=.returned v/\Zd w' 7 v (n:Int)/\Yg w w':=by
 have hs:=fun W=>small_any n W h
 have hf:=fun w1 v1 (h1:Dn w1 7 v1 n)=>form_d false h1 Yd
 have hlt:n<TB ^ 7:=by rw [TB_eq];omega
 have HA:=Yh3 hs hf hlt
 have h0:(0:Int)<=(n:Int):=Yo
 have hw:IntKind.i64.wrap (n:Int)=(n:Int):=IntWalk.i64_in _ Yo
 clear hs hf h hlt
 go_enter Tryz.func131,Tryz.ntmps131
 go_wp2_with fail
 refine (HA.p0 _).mono ?_;rintro e w1 ⟨v1,rfl,h1⟩
 have X:=(Bx.new 94 w (.bool false) (.slice none 0 0)).keep h1.2
 have H1:=Yh3 X (HA.p1 _ _ (h1.dn HA.q2)) (Yb (Ya w _) h1.2)
 clear X h1 HA
 go_wp2_with fail
 refine H1.p1.mono ?_;rintro e w2 ⟨v2,rfl,h2,hb2⟩
 obtain ⟨p,A,la,c,rfl,H2'⟩:=h2.parts
 have X:=H1.p0.keep hb2
 obtain ⟨c0,c1,f0,f1⟩:=X.facts
 have H2:=Yh3 X h2 (Yb H1.q2 hb2)
 clear X h2 H2' hb2 H1
 go_wp2_with fail
 refine ret_bx H2.p0 (fun W d0 d1=>by simp [results,Tryz.results131,go_sem,d0,d1]) rfl ?_
 exact ⟨_,rfl,H2.p1.put H2.p0 _ _,H2.p0.below H2.q2 (Nat.le_refl _) (Nat.le_refl _) _ _⟩
theorem small_neg {w:World} {n:Nat} (h:n<9223372036854775808):
 Calls Tryz.prog 131 #[.int .i64 (-(n:Int) - 1)] w fun e w'=>∃ v,e=.returned v/\Zd w' 7 v (-(n:Int) - 1)/\Yg w w':=by
 have hs:=fun W=>small_any n W h
 have ha:=fun w1 v1 (h1:Dn w1 5 v1 n)=>add_dn (h1.keep (Ya w1 _)) (one_dn w1) Yd Yd
 have hf:=fun w1 v1 (h1:Dn w1 7 v1 (n+1))=>form_d true h1 Yd
 have hlt:n<TB ^ 5:=by rw [TB_eq];omega
 have hz:sg true (n+1)=-(n:Int) - 1:=by simp only [sg,if_true];omega
 rw [hz] at hf
 have HA:=Yh4 hs ha hf hlt
 obtain ⟨k,hk⟩:∃ k:Int,k=-(n:Int) - 1:=⟨_,rfl⟩
 obtain ⟨k1,hk1⟩:∃ k1:Int,k1=-(n:Int):=⟨_,rfl⟩
 rw [<- hk] at HA ⊢
 have h0:¬ 0<=k:=Yo
 have h1:IntKind.i64.wrap (k+1)=k1:=by rw [show k+1=k1 by omega];exact IntWalk.i64_in _ Yo
 have h2:IntKind.i64.wrap (-k1)=(n:Int):=by rw [show -k1=n by omega];exact IntWalk.i64_in _ Yo
 have h3:IntKind.i64.wrap (n:Int)=(n:Int):=IntWalk.i64_in _ Yo
 clear h hk hk1 hs ha hf hlt hz
 go_enter Tryz.func131,Tryz.ntmps131
 go_wp2_with fail
 refine (HA.p0 _).mono ?_;rintro e w1 ⟨v1,rfl,h1⟩
 have X:=(Bx.new 94 w (.bool false) (.slice none 0 0)).keep h1.2
 have H1:=Yh3 X (HA.p1 _ _ (h1.dn HA.q3)) (Yb (Ya w _) h1.2)
 clear X h1
 go_wp2_with fail
 refine H1.p1.mono ?_;rintro e w2 ⟨v2,rfl,h2,hb2⟩
 have X:=(H1.p0.alloc _).keep hb2
 have H2:=Yh3 X (HA.p2 _ _ h2) (Yb H1.q2 (Yb (Ya _ _) hb2))
 clear X h2 hb2 H1 HA
 go_wp2_with fail
 refine H2.p1.mono ?_;rintro e w3 ⟨v3,rfl,h3,hb3⟩
 obtain ⟨p,A,la,c,rfl,H3'⟩:=h3.parts
 have X:=H2.p0.keep hb3
 obtain ⟨c0,c1,f0,f1⟩:=X.facts
 have H3:=Yh3 X h3 (Yb H2.q2 hb3)
 clear X h3 H3' hb3 H2
 go_wp2_with fail
 refine ret_bx H3.p0 (fun W d0 d1=>by simp [results,Tryz.results131,go_sem,d0,d1]) rfl ?_
 exact ⟨_,rfl,H3.p1.put H3.p0 _ _,H3.p0.below H3.q2 (Nat.le_refl _) (Nat.le_refl _) _ _⟩
theorem small_d {w:World} {z:Int} (h:Small64 z):Calls Tryz.prog 131 #[.int .i64 z] w fun e w'=>∃ v,e=.returned v/\Zd w' 7 v z/\Below w.heap.size w w':=by
 unfold Small64 at h
 by_cases h0:0<=z
 · obtain ⟨n,rfl⟩:∃ n:Nat,z=(n:Int):=⟨z.toNat,Yo⟩
   exact small_pos Yo
 · obtain ⟨n,rfl⟩:∃ n:Nat,z=-(n:Int) - 1:=⟨(-z - 1).toNat,Yo⟩
   exact small_neg Yo
end I
end
section
open Go Go.RowKit Go.Proofs Pl
def Zl (w:World) (v:Value) (b:Bool) (xs:List Nat):Prop:=∃ s,v=.agg #[.bool b,s]/\Nl w s xs
section
variable {w w':World} {v:Value} {b:Bool} {xs:List Nat} {L:Nat} {z:Int}
theorem Zl.keep (h:Zl w v b xs) (hb:Below w.heap.size w w'):Zl w' v b xs:=by
 obtain ⟨s,h1,h2⟩:=h
 exact ⟨s,h1,h2.keep hb⟩
end
end
end Go.Proofs.YtaajajngnmaggaaGreat
