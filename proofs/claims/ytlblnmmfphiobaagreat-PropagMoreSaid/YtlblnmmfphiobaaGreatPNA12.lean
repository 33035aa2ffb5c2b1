import Derived.Test.YtlblnmmfphiobaaGreatPNA11
set_option maxRecDepth 100000
set_option maxHeartbeats 8000000
set_option linter.unusedVariables false
set_option linter.unusedSimpArgs false
namespace Go.Proofs.YtlblnmmfphiobaaGreat
section
open Go Go.RowKit Go.Proofs Pl
theorem Rn {w:World} {L:Nat} {v:Value} {l:Tms} {col:Int} (hv:Vt w L v l) (h0:0<L) (hL:L<=1048576) (hn:l.length<=4096):
 Calls Tryz.prog 71 #[v,.int .i64 col] w fun e w'=>∃ u,e=.returned u/\Qr w w' u (Bh l col):=by
 obtain ⟨xs,⟨A,cap,rfl,h1,h2,h3,h4,h5⟩,rfl⟩:=hv;have hl:xs.length<=4096:=by simpa using hn
 have hs:∀ i,Sz (1+i*(L+1)) (Bh ((xs.map Tm.t).take i) col):=fun i=>by
  refine (I2 (L:=L) (l:=(xs.map Tm.t).take i) (fun t ht=>?_) col).mono ?_
  · obtain ⟨x,hx,rfl⟩:=UP.1 (List.mem_of_mem_take ht);exact (h5 x hx).sz h0
  · have:((xs.map Tm.t).take i).length<=i:=by rw [TU];omega
    have:=TW (L+1) this;omega
 have HL:=Yh5 h0 hL hs h5 h4;obtain ⟨n,hnn⟩:∃ n,xs.length=n:=⟨_,rfl⟩;rw [hnn] at hl ⊢;have HN:=Lib.hid hnn;clear h0 hL hs h5 h4 h1 h2 h3 hn hnn;go_enter Tryz.func71,Tryz.ntmps71;go_upto_region 1 with (fail)
 have S0:=Yh2 (B3.new 36 w (.bool false) (.slice none 0 0) (.slice none 0 0)) (Ya w (.cells #[.bool false,.slice none 0 0,.slice none 0 0] 36));generalize w.alloc _=W0 at S0 ⊢;go_wp2_with fail;refine (Ed Lv).mono ?_;rintro e w1 ⟨u,rfl,h⟩;obtain ⟨p,A0,l0,c0,B0,m0,d0,rfl⟩:=h.parts;have S1:=Yh3 (S0.p0.keep h.below) (h.from S0.q1) (Yb S0.q1 h.below);clear h S0;go_upto_region 2 with (fail)
 have hal:=Ya w1 (.cells #[.bool p,.slice A0 l0 c0,.slice B0 m0 d0] 36);obtain ⟨g5,hg5⟩:∃ g,g=w1.heap.size:=⟨_,rfl⟩;have hgw:w.heap.size<g5:=by rw [hg5];exact S1.p0.lt
 have S2:=Yh4 (S1.p0.keep hal) (B3.new 36 w1 (.bool p) (.slice A0 l0 c0) (.slice B0 m0 d0)) (S1.p1.keep hal) (Yb S1.q2 hal);clear S1 hal;rw [<- hg5] at S2 ⊢;generalize w1.alloc _=W1 at S2 ⊢;clear hg5;go_wp2_with fail
 go_loopw [11] (fun i wr=>∃ (k:Nat) (q:Rat) (p:Bool) (A1:Option Addr) (l1 c1:Nat) (B1:Option Addr) (m1 d1:Nat),i=.int .i64 (k:Int)/\k<=n/\
  Hid (B3 36 wr w.heap.size (.bool false) (.slice none 0 0) (.slice none 0 0)/\B3 36 wr g5 (.bool p) (.slice A1 l1 c1) (.slice B1 m1 d1)/\Qr w wr (.agg #[.bool p,.slice A1 l1 c1,.slice B1 m1 d1]) q/\Yg w wr/\q=Bh ((xs.map Tm.t).take k) col)) (fun i _=>n - (intOf i).toNat)
 case atStart=>exact ⟨0,0,p,A0,l0,c0,B0,m0,d0,rfl,Yo,S2.p0,S2.p1,S2.p2,S2.q3,by simp [Bh,AF]⟩
 case round=>
  obtain ⟨k,q,p1,A1,l1,c1,B1,m1,d1,rfl,hk,H⟩:=hrel;by_cases hlt:k<n
  · have hkx:k<xs.length:=by rw [HN.out];exact hlt
    obtain ⟨x,hx⟩:∃ x,xs[k]?=some x:=⟨_,List.getElem?_eq_getElem hkx⟩;obtain ⟨g,o,rfl,hgl,c0',c1',c2',c3'⟩:=(HL.q4.keep H.p3).at_ hx;have HX:=Lib.hid hx;clear hx hgl;go_upto_region 5 with (fail)
    have X:=B4.new 63 wr (.int .i64 x.c) (.bool x.b) (.slice x.A x.l x.k) (.slice x.B x.m x.d);have hal:=Ya wr (.cells #[.int .i64 x.c,.bool x.b,.slice x.A x.l x.k,.slice x.B x.m x.d] 63);have T1:=Yh6 (H.p0.keep hal) (H.p1.keep hal) (H.p2.keep hal) (Yb H.p3 hal) X H.q4;have hgs:=Lib.hid (show wr.heap.size≠g5 from Nat.ne_of_gt H.p1.lt);obtain ⟨g4,hg4⟩:∃ g,g=wr.heap.size:=⟨_,rfl⟩;rw [<- hg4] at T1 hgs ⊢;generalize wr.alloc _=W2 at T1 ⊢;clear X hal H hg4 c0' c1' c2' c3';have hnext:=JW (l:=xs.map Tm.t) (i:=k) (t:=x.t) (by rw [List.getElem?_map,HX.out];rfl) col;obtain ⟨x0,x1,x2,x3⟩:=T1.p4.facts;by_cases hc:x.c=col
    · by_cases h0c:0<=col
      · rw [if_pos ⟨hc,h0c⟩] at hnext;have hN:=Lib.hid hnext;have e1:(x.c==col)=true:=by rw [hc];exact beq_self_eq_true col
        have e2:decide ((0:Int)<=col)=true:=decide_eq_true h0c;obtain ⟨s0,s1,s2,-,-,-⟩:=T1.p1.facts;clear hnext hc h0c;go_wp2_with fail;have hxv:Qv w L x.num x.q:=HL.p3 x (TO HX.out);refine (Pk (L:=1+k*(L+1)) (M:=L) (q:=q) (r:=x.q) (T1.p2.qv (by have:=HL.p2 k;rw [<- T1.q5] at this;exact this)) (hxv.keep T1.p3) Yo HL.p0 (by have:=HL.p1;have:=UN (show k<=4096 by omega) (show L+1<=1048577 by omega);omega) (by have:=HL.p1;omega)).mono ?_;rintro e w4 ⟨u,rfl,h⟩;obtain ⟨p2,A2,l2,c2,B2,m2,d2,rfl⟩:=h.parts;have T2:=Yh5 (T1.p0.keep h.below) (T1.p1.keep h.below) (h.from T1.p3) (Yb T1.p3 h.below) T1.q5;clear hxv h s0 s1 s2 x0 x1 x2 x3 e1 e2;obtain ⟨s0,s1,s2,f0,f1,f2⟩:=T2.p1.facts;go_wp2_with fail;go_roundw
        case rel=>
         refine ⟨k+1,q+x.q,p2,A2,l2,c2,B2,m2,d2,by go_num,Yo,T2.p0.other3 (Nat.ne_of_gt hgw) _ _ _,T2.p1.set _ _ _,Qs.put3 BF T2.p1 Yo T2.p2 _ _ _,T2.p1.below T2.p3 Yo _ _ _,?_⟩;rw [hN.out,<- T2.q4];rfl
        case measure=>simp [intOf];omega
      · rw [if_neg (fun h=>h0c h.2)] at hnext;have hN:=Lib.hid hnext;have e1:(x.c==col)=true:=by rw [hc];exact beq_self_eq_true col
        have e2:decide ((0:Int)<=col)=false:=decide_eq_false h0c;clear hnext hc h0c;go_wp2_with fail;go_roundw
        case rel=>exact ⟨k+1,q,p1,A1,l1,c1,B1,m1,d1,by go_num,Yo,T1.p0,T1.p1,T1.p2,T1.p3,by rw [hN.out];exact T1.q5⟩
        case measure=>simp [intOf];omega
    · rw [if_neg (fun h=>hc h.1)] at hnext;have hN:=Lib.hid hnext;have e1:(x.c==col)=false:=beq_eq_false_iff_ne.2 hc;clear hnext hc;go_wp2_with fail;go_roundw
      case rel=>exact ⟨k+1,q,p1,A1,l1,c1,B1,m1,d1,by go_num,Yo,T1.p0,T1.p1,T1.p2,T1.p3,by rw [hN.out];exact T1.q5⟩
      case measure=>simp [intOf];omega
  · have e:q=Bh (xs.map Tm.t) col:=by rw [H.q4,Ud (by rw [Uz,HN.out];omega)]
    have E:=Lib.hid e;clear e;obtain ⟨s0,s1,s2,-,-,-⟩:=H.p1.facts;obtain ⟨r0,r1,r2,f0,f1,f2⟩:=H.p0.facts;go_wp2_with fail;refine BZ H.p0 (fun W d0 d1 d2=>by simp [results,Tryz.results71,go_sem,d0,d1,d2];try rfl) rfl ?_;rw [<- E.out];exact ⟨_,rfl,Qs.put3 BF H.p0 (TL _) H.p2 _ _ _⟩
def Sr (w:World) (B0 g cap:Nat) (xs:List Tm):Prop:=w.ownsRow B0 63 4 (.slice (some ⟨g,0,none⟩) xs.length cap) xs.length (AS xs)
theorem MB (xs:List Tm) (j:Nat) (x:Tm) (hj:j<xs.length):
 ((((AS xs).set (j*4) (.int .i64 x.c)).set (j*4+1) (.bool x.b)).set (j*4+2) (.slice x.A x.l x.k)).set (j*4+3) (.slice x.B x.m x.d)=AS (xs.set j x):=by
 induction xs generalizing j with
 | nil=>simp at hj
 | cons y xs ih=>
  cases j with
  | zero=>rfl
  | succ j=>
   have:=ih j (by simpa using hj);rw [show (j+1)*4=j*4+4 from by omega];show _::_::_::_::((((AS xs).set (j*4) _).set (j*4+1) _).set (j*4+2) _).set (j*4+3) _=_;rw [this];rfl
def Ec (w:World) (g o:Nat) (x:Tm):Prop:=w.cell? ⟨g,o,none⟩=some (.int .i64 x.c)/\w.cell? ⟨g,o+1,none⟩=some (.bool x.b)/\w.cell? ⟨g,o+2,none⟩=some (.slice x.A x.l x.k)/\w.cell? ⟨g,o+3,none⟩=some (.slice x.B x.m x.d)
section
variable {w w':World} {B0 g cap:Nat} {xs ys:List Tm} {i j:Nat} {x y:Tm}
theorem Sr.shape (h:Sr w B0 g cap xs) (h0:0<xs.length):B0<=g/\xs.length<=cap/\cap<=maxLen/\g<w.heap.size/\(∀ (j:Nat) (u:Value),(AS xs)[j]?=some u->w.cell? ⟨g,j,none⟩=some u)/\∀ j,w.frozen? ⟨g,j,none⟩=false:=by
 obtain ⟨g',cap',hv,h1,h2,h3,h4,h5,h6⟩:=CG h h0;injection hv with hv hn hc
 injection hv with hv
 injection hv with hv
 subst hv;subst hc;exact ⟨h1,h2,h3,h4,h5,h6⟩
theorem Sr.at_ (h:Sr w B0 g cap xs) (hi:xs[i]?=some x):Ec w g (i*4) x/\B0<=g/\g<w.heap.size/\∀ j,w.frozen? ⟨g,j,none⟩=false:=by
 have h0:0<xs.length:=by have:=(List.getElem?_eq_some_iff.1 hi).1;omega
 obtain ⟨h1,-,-,h4,h5,h6⟩:=h.shape h0;obtain ⟨a,b,c,d⟩:=JO hi;exact ⟨⟨h5 _ _ a,h5 _ _ b,h5 _ _ c,h5 _ _ d⟩,h1,h4,h6⟩
theorem Sr.keep (h:Sr w B0 g cap xs) (hb:Below w.heap.size w w'):Sr w' B0 g cap xs:=AQ h (Ak.below hb)
theorem Sr.put (h:Sr w B0 g cap xs) (hj:j<xs.length) (x:Tm):Sr (((((w).setCell ⟨g,j*4,none⟩ (.int .i64 x.c)).setCell ⟨g,j*4+1,none⟩ (.bool x.b)).setCell ⟨g,j*4+2,none⟩ (.slice x.A x.l x.k)).setCell ⟨g,j*4+3,none⟩ (.slice x.B x.m x.d)) B0 g cap (xs.set j x):=by
 have h1:=AT (AT (AT (AT h (j:=j*4) (.int .i64 x.c)) (j:=j*4+1) (.bool x.b)) (j:=j*4+2) (.slice x.A x.l x.k)) (j:=j*4+3) (.slice x.B x.m x.d);rw [MB xs j x hj] at h1;unfold Sr;rw [Uh];exact h1
theorem By {B:Nat} (hb:Below B w w') (hg:B<=g) (o0 o1 o2 o3:Nat) (u0 u1 u2 u3:Value):Below B w ((((w'.setCell ⟨g,o0,none⟩ u0).setCell ⟨g,o1,none⟩ u1).setCell ⟨g,o2,none⟩ u2).setCell ⟨g,o3,none⟩ u3):=
 (((hb.setCell hg u0).setCell hg u1).setCell hg u2).setCell hg u3
end
theorem Bg {B:Nat} {w w' w2:World} (h:Below B w w') (hB:B<=w.heap.size) (k:Below w'.heap.size w' w2):Below B w w2:=h.trans (k.mono (TP hB h.size))
def Up (l:List Tm):Prop:=l.Pairwise fun a b=>a.c<=b.c
def Es (xs:List Tm) (a b:Nat) (ys:List Tm):Prop:=∃ p s s' r,xs=p++(s++r)/\ys=p++(s'++r)/\p.length=a/\p.length+s.length=b/\s'.Perm s/\Up s'
theorem MC {xs:List Tm} {a:Nat} (h:a<xs.length):Es xs a (a+1) xs:=by
 refine ⟨xs.take a,[xs[a]],[xs[a]],xs.drop (a+1),?_,?_,by rw [TU];omega,by rw [TU];simp;omega,List.Perm.refl _,VX _ _⟩
 all_goals
  show xs=xs.take a++xs[a]::xs.drop (a+1);rw [VA,Us]
theorem KQ {xs:List Tm} {a:Nat} (h:a<=xs.length):Es xs a a xs:=
 ⟨xs.take a,[],[],xs.drop a,by simp,by simp,by rw [TU];omega,by rw [TU];simp;omega,List.Perm.refl _,List.Pairwise.nil⟩
def Nj (xs:List Tm) (a i j:Nat) (ys:List Tm):Prop:=∃ p s u1 x u2 r,xs=p++(s++x::r)/\p.length=a/\p.length+s.length=i/\ys=p++(u1++x::(u2++r))/\p.length+u1.length=j/\(u1++u2).Perm s/\Up (u1++u2)/\∀ y∈u2,x.c<y.c
theorem Kf {xs ys:List Tm} {a i:Nat} (h:Es xs a i ys) (hi:i<xs.length):Nj xs a i i ys:=by
 obtain ⟨p,s,s',r,e1,e2,h1,h2,h3,h4⟩:=h
 cases r with
 | nil=>rw [e1] at hi;simp at hi;omega
 | cons x r=>exact ⟨p,s,s',x,[],r,e1,h1,h2,e2,by rw [h3.length_eq];exact h2,by simpa using h3,by simpa using h4,by simp⟩
theorem N9 {xs ys:List Tm} {a i j:Nat} (h:Nj xs a i j ys):ys.length=xs.length/\j<=i/\a<=j:=by
 obtain ⟨p,s,u1,x,u2,r,e1,h1,h2,e2,h3,h4,-,-⟩:=h;have:=h4.length_eq;rw [e1,e2];simp only [TM,U7] at this ⊢;omega
theorem NO {xs ys:List Tm} {a i j k:Nat} (h:Nj xs a i j ys) (hj:a<j) (hk:j=k+1):∃ x y,ys[j]?=some x/\ys[k]?=some y/\
 (x.c<y.c->Nj xs a i k ((ys.set j y).set k x))/\(¬ x.c<y.c->Es xs a (i+1) ys):=by
 obtain ⟨p,s,u1,x,u2,r,e1,h1,h2,e2,h3,h4,h5,h6⟩:=h
 rcases List.eq_nil_or_concat u1 with rfl | ⟨v,y,rfl⟩
 · simp at h3;omega
 have hv:p.length+v.length=k:=by simp at h3;omega
 have ey:ys=(p++v)++y::x::(u2++r):=by rw [e2];simp
 have hl:(p++v).length=k:=by rw [TM];exact hv
 refine ⟨x,y,?_,?_,fun hlt=>?_,fun hge=>?_⟩
 · rw [ey,List.getElem?_append_right (by omega),hl,hk];simp
 · rw [ey,List.getElem?_append_right (by omega),hl];simp
 · refine ⟨p,s,v,x,y::u2,r,e1,h1,h2,?_,hv,?_,?_,?_⟩
   · rw [ey,hk,UM _ _ (by omega),UM _ _ (by omega),hl];simp
   · simpa using h4
   · simpa using h5
   · intro z hz
     rcases Ue.1 hz with rfl | hz
     · exact hlt
     · exact h6 z hz
 · refine ⟨p,s++[x],v++y::x::u2,r,by rw [e1];simp,by rw [e2];simp,h1,by simp;omega,?_,?_⟩
   · have:(v++y::x::u2).Perm (x::((v++[y])++u2)):=by
      have:=(List.perm_middle (a:=x) (l₁:=v++[y]) (l₂:=u2));simpa using this
     refine this.trans ((List.Perm.cons x (by simpa using h4)).trans ?_);exact (List.perm_append_singleton x s).symm
   · have hu:Up ((v++[y])++u2):=by simpa using h5
     have h7:Up ((v++[y])++x::u2):=by
      unfold Up at hu ⊢;rw [UW] at hu ⊢;obtain ⟨a1,a2,a3⟩:=hu;refine ⟨a1,List.Pairwise.cons (fun z hz=>VO (h6 z hz)) a2,fun z hz t ht=>?_⟩
      rcases Ue.1 ht with rfl | ht
      · rw [UW] at a1
        rcases Uw.1 hz with hz | hz
        · have:=a1.2.2 z hz y (by simp);omega
        · rw [Uj.1 hz];omega
      · exact a3 z hz t ht
     simpa using h7
theorem PV {xs ys:List Tm} {a i:Nat} (h:Nj xs a i a ys):Es xs a (i+1) ys:=by
 obtain ⟨p,s,u1,x,u2,r,e1,h1,h2,e2,h3,h4,h5,h6⟩:=h;obtain rfl:u1=[]:=TN Yo;refine ⟨p,s++[x],x::u2,r,by rw [e1];simp,by rw [e2];simp,h1,by simp;omega,?_,List.Pairwise.cons (fun z hz=>VO (h6 z hz)) (by unfold Up at h5;simpa using h5)⟩;exact (List.Perm.cons x (by simpa using h4)).trans (List.perm_append_singleton x s).symm
theorem Ej (a:Int) (w:World):Calls Tryz.prog 230 #[.int .i64 a] w fun e w'=>e=.returned (.bool false)/\w'=w:=by
 go_enter Tryz.func230,Tryz.ntmps230;have e1:(a !=a)=false:=by simp
 go_wp2_with fail;go_ret;exact ⟨rfl,rfl⟩
theorem Na (a b:Int) (w:World):Calls Tryz.prog 184 #[.int .i64 a,.int .i64 b] w fun e w'=>e=.returned (.int .i64 (Bp a b))/\Below w.heap.size w w':=by
 by_cases h:a<b
 · rw [show Bp a b=-1 from if_pos h];go_enter Tryz.func184,Tryz.ntmps184;go_wp2_with fail;refine (Ej a _).mono ?_;rintro e w1 ⟨rfl,rfl⟩;go_wp2_with fail;refine (Ej b _).mono ?_;rintro e w1 ⟨rfl,rfl⟩;go_wp2_with fail;go_ret;exact ⟨rfl,Below.refl _ _⟩
 · by_cases h2:a=b
   · rw [show Bp a b=0 from by unfold Bp;rw [if_neg h,if_pos h2]];subst h2;go_enter Tryz.func184,Tryz.ntmps184;go_wp2_with fail;refine (Ej a _).mono ?_;rintro e w1 ⟨rfl,rfl⟩;go_wp2_with fail;refine (Ej a _).mono ?_;rintro e w1 ⟨rfl,rfl⟩;go_wp2_with fail;go_ret;exact ⟨rfl,Below.refl _ _⟩
   · rw [show Bp a b=1 from by unfold Bp;rw [if_neg h,if_neg h2]];have h3:b<a:=Yo;go_enter Tryz.func184,Tryz.ntmps184;go_wp2_with fail;refine (Ej a _).mono ?_;rintro e w1 ⟨rfl,rfl⟩;go_wp2_with fail;refine (Ej b _).mono ?_;rintro e w1 ⟨rfl,rfl⟩;go_wp2_with fail;go_ret;exact ⟨rfl,Below.refl _ _⟩
theorem Mh (x y:Tm) (w:World):Calls Tryz.prog 183 #[.agg #[.int .i64 x.c,.bool x.b,.slice x.A x.l x.k,.slice x.B x.m x.d],.agg #[.int .i64 y.c,.bool y.b,.slice y.A y.l y.k,.slice y.B y.m y.d]] w fun e w'=>e=.returned (.int .i64 (Bp x.c y.c))/\Below w.heap.size w w':=by
 go_enter Tryz.func183,Tryz.ntmps183;go_upto_region 1 with (fail)
 have X:=((B4.new 63 w (.int .i64 x.c) (.bool x.b) (.slice x.A x.l x.k) (.slice x.B x.m x.d)).keep (Ya _ (.cells #[.int .i64 y.c,.bool y.b,.slice y.A y.l y.k,.slice y.B y.m y.d] 63))).facts.1;have Y:=(B4.new 63 (w.alloc (.cells #[.int .i64 x.c,.bool x.b,.slice x.A x.l x.k,.slice x.B x.m x.d] 63)) (.int .i64 y.c) (.bool y.b) (.slice y.A y.l y.k) (.slice y.B y.m y.d)).facts.1;rw [World.size_alloc] at Y;have S:=Lib.hid (Yb (Ya w (.cells #[.int .i64 x.c,.bool x.b,.slice x.A x.l x.k,.slice x.B x.m x.d] 63)) (Ya _ (.cells #[.int .i64 y.c,.bool y.b,.slice y.A y.l y.k,.slice y.B y.m y.d] 63)));generalize (w.alloc _).alloc _=W at X Y S ⊢;go_wp2_with fail;refine (Na x.c y.c _).mono ?_;rintro e w1 ⟨rfl,hb⟩;have S2:=Lib.hid (Yb S.out hb);clear hb S X Y;go_wp2_with fail;go_ret;exact ⟨rfl,S2.out⟩
theorem BM {r:Int} (x y:Tm) (w:World) (hr:Bp x.c y.c=r):Calls Tryz.prog 183 #[.agg #[.int .i64 x.c,.bool x.b,.slice x.A x.l x.k,.slice x.B x.m x.d],.agg #[.int .i64 y.c,.bool y.b,.slice y.A y.l y.k,.slice y.B y.m y.d]] w fun e w'=>e=.returned (.int .i64 r)/\Below w.heap.size w w':=by
 rw [<- hr];exact Mh x y w
theorem Rt {w:World} {B0 g cap n a b:Nat} {xs:List Tm} (h:Sr w B0 g cap xs) (hn:xs.length=n) (hB:B0<=w.heap.size) (hab:a<=b) (hb:b<=n) (h40:n<=1099511627776):
 Calls Tryz.prog 255 #[.slice (some ⟨g,0,none⟩) n cap,.int .i64 (a:Int),.int .i64 (b:Int),.func (.func 183) #[] #[]] w fun e w'=>e=.returned (.tuple #[])/\∃ ys,Sr w' B0 g cap ys/\Es xs a b ys/\Below B0 w w':=by
 have HS:=Yh3 h (Below.refl B0 w) hn;clear h hn;have e0:IntKind.i64.wrap ((a:Int)+1)=((a+1:Nat):Int):=by rw [IntKind.wrap_i64];omega
 by_cases hlt:a=b
 · subst hlt;have hf:¬ ((a+1:Nat):Int)<(a:Int):=Yo;go_enter Tryz.func255,Tryz.ntmps255;go_wp2_with fail;go_loopw [8] (fun v wr=>v=.int .i64 ((a+1:Nat):Int)/\Hid (wr=w)) (fun v _=>0)
   case atStart=>exact ⟨rfl,rfl⟩
   case round=>
    obtain ⟨rfl,E⟩:=hrel;go_wp2_with fail;go_end0;rw [show wr=w from E.out];exact ⟨rfl,xs,HS.p0,KQ (by rw [HS.q2];exact hb),HS.p1⟩
 have hlt:a<b:=Yo;go_enter Tryz.func255,Tryz.ntmps255;go_wp2_with fail;go_loopw [8] (fun v wr=>∃ (i:Nat) (ys:List Tm),v=.int .i64 (i:Int)/\a<i/\i<=b/\Hid (Sr wr B0 g cap ys/\Es xs a i ys/\Below B0 w wr)) (fun v _=>b - (intOf v).toNat)
 case atStart=>exact ⟨a+1,xs,rfl,Yo,Yo,HS.p0,MC (by rw [HS.q2];omega),HS.p1⟩
 case round=>
  obtain ⟨i,ys,rfl,hai,hib,H⟩:=hrel;by_cases hlt2:i<b
  · have h1:(i:Int)<(b:Int):=by omega
    go_wp2_with fail;go_loopw [9] (fun v wr=>∃ (j:Nat) (ys:List Tm),v=.int .i64 (j:Int)/\a<=j/\j<=i/\Hid (Sr wr B0 g cap ys/\Nj xs a i j ys/\Below B0 w wr)) (fun v _=>(intOf v).toNat)
    case atStart=>exact ⟨i,ys,rfl,Yo,TL _,H.p0,Kf H.p1 (by rw [HS.q2];omega),H.q2⟩
    case round=>
     clear h1;obtain ⟨j,ys,rfl,haj,hji,H⟩:=hrel;by_cases hja:a<j
     · obtain ⟨k,hk⟩:∃ k,j=k+1:=⟨j - 1,Yo⟩;obtain ⟨x,y,hx,hy,hyes,hno⟩:=NO H.p1 hja hk;have hyl:=N9 H.p1;obtain ⟨E1,hBg,hg,hfr⟩:=H.p0.at_ hx;obtain ⟨E2,-,-,-⟩:=H.p0.at_ hy;have HX:=Yh2 hx hy;have HE:=Yh7 E1 E2 hg hBg hyl.1 hk (show ∀ W:World,Sr W B0 g cap ys->∀ m,W.frozen? ⟨g,m,none⟩=false from fun W hW=>(hW.at_ hx).2.2.2);have d0:(a:Int)<(j:Int):=Yo;have d1:(j:Int)<(n:Int):=Yo;have d2:(k:Int)<(n:Int):=Yo;have d3:IntKind.i64.wrap ((j:Int) - 1)=(k:Int):=by rw [IntKind.wrap_i64];omega
       clear E1 E2 hg hBg hyl hx hy hk hfr;go_upto_region 4 with (fail)
       refine wp_region_held_drew (S:=(fun W=>W.cell? ⟨g,j*4,none⟩=some (.int .i64 x.c)/\W.cell? ⟨g,j*4+1,none⟩=some (.bool x.b)/\W.cell? ⟨g,j*4+2,none⟩=some (.slice x.A x.l x.k)/\W.cell? ⟨g,j*4+3,none⟩=some (.slice x.B x.m x.d)/\W.cell? ⟨g,k*4,none⟩=some (.int .i64 y.c)/\W.cell? ⟨g,k*4+1,none⟩=some (.bool y.b)/\W.cell? ⟨g,k*4+2,none⟩=some (.slice y.A y.l y.k)/\W.cell? ⟨g,k*4+3,none⟩=some (.slice y.B y.m y.d))) (by kernel_rfl) ⟨HE.p0.1,HE.p0.2.1,HE.p0.2.2.1,HE.p0.2.2.2,HE.p1.1,HE.p1.2.1,HE.p1.2.2.1,HE.p1.2.2.2⟩ (fun Hh=>?_);refine AL 14 [0,1,2,3,4,5,6,7,8,9,10,11,12,13] Hh fun K hK=>?_
       repeat refine rgA ?_
       refine hK _ _ ?_;clear hK K;have R0:=Yh2 (show Sr wr.drew B0 g cap ys from H.p0.keep (Ai _ 1)) (show Below B0 w wr.drew from Bg H.q2 hB (Ai _ 1));generalize wr.drew=Wd at R0 Hh ⊢;refine rgO 14 fun K hK=>?_;go_simp;by_cases hc:x.c<y.c
       · go_at_call 183;refine (BM (r:=-1) x y _ (if_pos hc)).mono ?_;rintro e W2 ⟨rfl,hb⟩;have R:=Yh2 (R0.p0.keep hb) (Bg R0.q1 hB hb);have hEc:Hid (Ec W2 g (j*4) x/\Ec W2 g (k*4) y):=⟨((R0.p0.keep hb).at_ HX.p0).1,((R0.p0.keep hb).at_ HX.q1).1⟩;have hI:=Lib.hid (hyes hc);clear hb Hh hyes hno hc;go_wp2_with fail;refine rgK hK ⟨hEc.p0.1,hEc.p0.2.1,hEc.p0.2.2.1,hEc.p0.2.2.2,hEc.p1,hEc.p2,hEc.p3,hEc.q4⟩ fun Hh=>?_;clear hK K;refine rgT 15 Hh ?_;refine rgT 16 Hh ?_;refine Yw ?_;clear Hh;go_upto_region 6 with (fail)
         refine wp_region_held_drew (S:=fun _=>True) (by kernel_rfl) trivial (fun Hh=>?_);refine AL 12 [0,1,5,6,7,8,10,11,12,2,3,4] Hh fun K hK=>?_
         repeat refine rgA ?_
         refine hK _ _ ?_;clear hK K;have hE2:Hid (Sr W2.drew B0 g cap ys/\Below B0 w W2.drew):=⟨R.p0.keep (Ai _ 1),Bg R.q1 hB (Ai _ 1)⟩;generalize W2.drew=Wd at hE2 Hh ⊢;clear R hEc
         have hfin:Hid (∀ W3,W3=((((Wd).setCell ⟨g,j*4,none⟩ (.int .i64 y.c)).setCell ⟨g,j*4+1,none⟩ (.bool y.b)).setCell ⟨g,j*4+2,none⟩ (.slice y.A y.l y.k)).setCell ⟨g,j*4+3,none⟩ (.slice y.B y.m y.d)->Sr W3 B0 g cap (ys.set j y)/\Ec W3 g (k*4) y/\(∀ m,W3.frozen? ⟨g,m,none⟩=false)/\Below B0 w W3):=by
          rintro W3 rfl;have hjl:j<ys.length:=(List.getElem?_eq_some_iff.1 HX.p0).1;have h1:=hE2.p0.put (j:=j) hjl y;have hk2:(ys.set j y)[k]?=some y:=by rw [List.getElem?_set_ne (by have:=HE.p5;omega)];exact HX.q1
          exact ⟨h1,(h1.at_ hk2).1,(h1.at_ hk2).2.2.2,By hE2.q1 HE.p3 _ _ _ _ _ _ _ _⟩
         have hgo:Hid (∀ W3,W3=((((Wd).setCell ⟨g,j*4,none⟩ (.int .i64 y.c)).setCell ⟨g,j*4+1,none⟩ (.bool y.b)).setCell ⟨g,j*4+2,none⟩ (.slice y.A y.l y.k)).setCell ⟨g,j*4+3,none⟩ (.slice y.B y.m y.d)->Sr (((((W3).setCell ⟨g,k*4,none⟩ (.int .i64 x.c)).setCell ⟨g,k*4+1,none⟩ (.bool x.b)).setCell ⟨g,k*4+2,none⟩ (.slice x.A x.l x.k)).setCell ⟨g,k*4+3,none⟩ (.slice x.B x.m x.d)) B0 g cap ((ys.set j y).set k x)/\Below B0 w (((((W3).setCell ⟨g,k*4,none⟩ (.int .i64 x.c)).setCell ⟨g,k*4+1,none⟩ (.bool x.b)).setCell ⟨g,k*4+2,none⟩ (.slice x.A x.l x.k)).setCell ⟨g,k*4+3,none⟩ (.slice x.B x.m x.d))):=by
          intro W3 e3;obtain ⟨h1,-,-,h2⟩:=hfin.out W3 e3;have hkl:k<(ys.set j y).length:=by rw [Uh];exact (List.getElem?_eq_some_iff.1 HX.q1).1
          exact ⟨h1.put hkl x,By h2 HE.p3 _ _ _ _ _ _ _ _⟩
         have hL:Ec Wd g (j*4) x/\Ec Wd g (k*4) y/\∀ m,Wd.frozen? ⟨g,m,none⟩=false:=⟨(hE2.p0.at_ HX.p0).1,(hE2.p0.at_ HX.q1).1,(hE2.p0.at_ HX.p0).2.2.2⟩;obtain ⟨⟨a0,a1,a2,a3⟩,⟨b0,b1,b2,b3⟩,hz⟩:=hL;have z0:=hz (j*4);have z1:=hz (j*4+1);have z2:=hz (j*4+2);have z3:=hz (j*4+3);clear hz;refine Br [9,13] (AX (fun K hK=>?_) (AX (fun K hK=>?_) CP))
         · go_simp;refine rgK hK trivial fun Hh=>?_;clear hK K;refine rgO 13 fun K hK=>?_;go_simp;refine rgK hK trivial fun Hh=>?_;clear hK K;refine rgT 14 Hh ?_;refine rgO 15 fun K hK=>?_;go_simp;refine rgK hK trivial fun Hh=>?_;clear hK K;refine rgT 16 Hh ?_;obtain ⟨W3,e3⟩:∃ W3,W3=((((Wd).setCell ⟨g,j*4,none⟩ (.int .i64 y.c)).setCell ⟨g,j*4+1,none⟩ (.bool y.b)).setCell ⟨g,j*4+2,none⟩ (.slice y.A y.l y.k)).setCell ⟨g,j*4+3,none⟩ (.slice y.B y.m y.d):=⟨_,rfl⟩;obtain ⟨-,⟨g0,g1,g2,g3⟩,hz,-⟩:=hfin.out W3 e3;have y0:=hz (k*4);have y1:=hz (k*4+1);have y2:=hz (k*4+2);have y3:=hz (k*4+3);have hgo3:=Lib.hid (hgo.out W3 e3);rw [<- e3];clear hz e3 a0 a1 a2 a3 b0 b1 b2 b3 z0 z1 z2 z3;refine rgO 17 fun K hK=>?_;go_simp;refine rgK hK trivial fun Hh=>?_;clear hK K;refine Yw ?_;clear Hh g0 g1 g2 g3 y0 y1 y2 y3;go_wp2_with fail;go_roundw
           case rel=>exact ⟨k,_,by go_num,by have:=HE.p5;omega,by have:=HE.p5;omega,hgo3.p0,hI.out,hgo3.q1⟩
           case measure=>have:=HE.p5;simp [intOf];omega
         · go_simp;refine rgK hK trivial fun Hh=>?_;clear hK K;refine rgO 9 fun K hK=>?_;go_simp;refine rgK hK trivial fun Hh=>?_;clear hK K;refine rgT 14 Hh ?_;refine rgO 15 fun K hK=>?_;go_simp;refine rgK hK trivial fun Hh=>?_;clear hK K;refine rgT 16 Hh ?_;obtain ⟨W3,e3⟩:∃ W3,W3=((((Wd).setCell ⟨g,j*4,none⟩ (.int .i64 y.c)).setCell ⟨g,j*4+1,none⟩ (.bool y.b)).setCell ⟨g,j*4+2,none⟩ (.slice y.A y.l y.k)).setCell ⟨g,j*4+3,none⟩ (.slice y.B y.m y.d):=⟨_,rfl⟩;obtain ⟨-,⟨g0,g1,g2,g3⟩,hz,-⟩:=hfin.out W3 e3;have y0:=hz (k*4);have y1:=hz (k*4+1);have y2:=hz (k*4+2);have y3:=hz (k*4+3);have hgo3:=Lib.hid (hgo.out W3 e3);rw [<- e3];clear hz e3 a0 a1 a2 a3 b0 b1 b2 b3 z0 z1 z2 z3;refine rgO 17 fun K hK=>?_;go_simp;refine rgK hK trivial fun Hh=>?_;clear hK K;refine Yw ?_;clear Hh g0 g1 g2 g3 y0 y1 y2 y3;go_wp2_with fail;go_roundw
           case rel=>exact ⟨k,_,by go_num,by have:=HE.p5;omega,by have:=HE.p5;omega,hgo3.p0,hI.out,hgo3.q1⟩
           case measure=>have:=HE.p5;simp [intOf];omega
       · obtain ⟨r,hr⟩:∃ r,Bp x.c y.c=r:=⟨_,rfl⟩;have hr0:¬ r<0:=by rw [<- hr];unfold Bp;rw [if_neg hc];split<;>omega
         go_at_call 183;refine (BM (r:=r) x y _ hr).mono ?_;rintro e W2 ⟨rfl,hb⟩;have R:=Yh3 (R0.p0.keep hb) (hno hc) (Bg R0.q1 hB hb);have hEc:Hid (Ec W2 g (j*4) x/\Ec W2 g (k*4) y):=⟨((R0.p0.keep hb).at_ HX.p0).1,((R0.p0.keep hb).at_ HX.q1).1⟩;clear hb Hh hyes hno hc hr;go_wp2_with fail;refine rgK hK ⟨hEc.p0.1,hEc.p0.2.1,hEc.p0.2.2.1,hEc.p0.2.2.2,hEc.p1,hEc.p2,hEc.p3,hEc.q4⟩ fun Hh=>?_;clear hK K;refine rgT 15 Hh ?_;refine rgT 16 Hh ?_;refine Yw ?_;clear Hh hEc;go_wp2_with fail;go_roundw
         case rel=>exact ⟨i+1,ys,by go_num,Yo,Yo,R.p0,R.p1,R.q2⟩
         case measure=>simp [intOf];omega
     · have hja2:j=a:=by omega
       have d0:¬ (a:Int)<(j:Int):=Yo;have hI:=Lib.hid (PV (hja2 ▸ H.p1));clear hja2;go_upto_region 4 with (fail)
       refine wp_region_held_drew (S:=fun _=>True) (by kernel_rfl) trivial (fun Hh=>?_);refine AL 17 [0,1,2,3,4,5,6,7,8,9,10,11,12,13,14,15,16] Hh fun K hK=>?_
       repeat first|refine rgA ?_|refine rgB ?_
       refine hK _ _ ?_;clear hK K;refine Yw ?_;clear Hh;go_wp2_with fail;go_roundw
       case rel=>exact ⟨i+1,ys,by go_num,Yo,Yo,H.p0.keep (Ai _ 1),hI.out,Bg H.q2 hB (Ai _ 1)⟩
       case measure=>simp [intOf];omega
  · have hib2:i=b:=by omega
    have h1:¬ (i:Int)<(b:Int):=Yo;have hI:=Lib.hid (hib2 ▸ H.p1);go_wp2_with fail;go_end0;exact ⟨rfl,ys,H.p0,hI.out,H.q2⟩
theorem LQ {α:Type} (A B C:List α) (x y:α) {i j:Nat} (hi:A.length=i) (hj:A.length+1+B.length=j):
 (A++x::(B++y::C))[i]?=some x/\(A++x::(B++y::C))[j]?=some y/\((A++x::(B++y::C)).set i y).set j x=A++y::(B++x::C):=by
 have e:A++x::(B++y::C)=(A++x::B)++y::C:=by simp
 have hl:(A++x::B).length=j:=by simp;omega
 refine ⟨?_,?_,?_⟩
 · rw [List.getElem?_append_right (by omega),hi];simp
 · rw [e,List.getElem?_append_right (by omega),hl];simp
 · rw [UM _ _ (by omega),hi,show i - i=0 from by omega,Ut];have e2:A++y::(B++y::C)=(A++y::B)++y::C:=by simp
   have hl2:(A++y::B).length=j:=by simp;omega
   rw [e2,UM _ _ (by omega),hl2,show j - j=0 from by omega,Ut];simp
theorem Ox {α:Type} (A C:List α) (x y:α) {i j:Nat} (hi:A.length=i) (hj:j=i+1):
 (A++y::x::C)[j]?=some x/\(A++y::x::C)[i]?=some y/\((A++y::x::C).set j y).set i x=A++x::y::C:=by
 refine ⟨?_,?_,?_⟩
 · rw [List.getElem?_append_right (by omega),hi,hj];simp
 · rw [List.getElem?_append_right (by omega),hi];simp
 · rw [UM _ _ (by omega),hi,UM _ _ (by omega),hi,hj];simp
def sw (p u m v r:List Tm) (i:Nat):List Tm:=p++((v.take i++u.drop i)++(m++((u.take i++v.drop i)++r)))
theorem Re (p u m v r:List Tm):sw p u m v r 0=p++(u++(m++(v++r))):=by simp [sw]
theorem SP {p u m v r:List Tm} {k:Nat} (hu:u.length=k) (hv:v.length=k):sw p u m v r k=p++(v++(m++(u++r))):=by
 unfold sw;rw [Ud (by omega),List.drop_of_length_le (by omega),Ud (by omega),List.drop_of_length_le (by omega)];simp
theorem Qx {p u m v r:List Tm} {i k j q:Nat} (hu:u.length=k) (hv:v.length=k) (hi:i<k) (hj:p.length+i=j) (hq:p.length+k+m.length+i=q):
 ∃ x y,(sw p u m v r i)[j]?=some x/\(sw p u m v r i)[q]?=some y/\((sw p u m v r i).set j y).set q x=sw p u m v r (i+1):=by
 have hiu:i<u.length:=Yo;have hiv:i<v.length:=Yo
 have e0:sw p u m v r i=(p++v.take i)++u[i]::((u.drop (i+1)++(m++u.take i))++v[i]::(v.drop (i+1)++r)):=by
  unfold sw;rw [(VA hiu).symm,(VA hiv).symm];simp only [TR,Vl]
 have e1:sw p u m v r (i+1)=(p++v.take i)++v[i]::((u.drop (i+1)++(m++u.take i))++u[i]::(v.drop (i+1)++r)):=by
  unfold sw;rw [Uc hiu,Uc hiv];simp only [TR,Vl,Uo]
 obtain ⟨a,b,c⟩:=LQ (p++v.take i) (u.drop (i+1)++(m++u.take i)) (v.drop (i+1)++r) u[i] v[i] (i:=j) (j:=q) (by simp [TU];omega) (by simp [TU,UJ];omega);exact ⟨u[i],v[i],by rw [e0];exact a,by rw [e0];exact b,by rw [e0,e1];exact c⟩
theorem Pa {w:World} {B0 g cap n a b k:Nat} {p u m v r:List Tm} (h:Sr w B0 g cap (p++(u++(m++(v++r))))) (hn:(p++(u++(m++(v++r)))).length=n) (ha:p.length=a) (hb:p.length+k+m.length=b) (hu:u.length=k) (hv:v.length=k)
 (hB:B0<=w.heap.size) (h40:n<=1099511627776):
 Calls Tryz.prog 265 #[.slice (some ⟨g,0,none⟩) n cap,.int .i64 (a:Int),.int .i64 (b:Int),.int .i64 (k:Int),.func (.func 183) #[] #[]] w fun e w'=>e=.returned (.tuple #[])/\Sr w' B0 g cap (p++(v++(m++(u++r))))/\Below B0 w w':=by
 have hlen:n=a+k+m.length+k+r.length:=by rw [<- hn];simp;omega
 have k40:k<=1099511627776:=Yo;rw [<- Re] at h;rw [<- SP hu hv];have HS:=Yh7 h (Below.refl B0 w) ha hb hu hv hlen;clear h hn ha hu hv hb hlen;go_enter Tryz.func265,Tryz.ntmps265;go_wp2_with fail;go_loopw [10] (fun z wr=>∃ i:Nat,z=.int .i64 (i:Int)/\i<=k/\Hid (Sr wr B0 g cap (sw p u m v r i)/\Below B0 w wr)) (fun z _=>k - (intOf z).toNat)
 case atStart=>exact ⟨0,rfl,Un _,HS.p0,HS.p1⟩
 case round=>
  obtain ⟨i,rfl,hi,H⟩:=hrel;by_cases hlt:i<k
  · obtain ⟨J,hJ⟩:∃ J,a+i=J:=⟨_,rfl⟩;obtain ⟨I,hI⟩:∃ I,b+i=I:=⟨_,rfl⟩;obtain ⟨x,y,hx,hy,hst⟩:=Qx (p:=p) (m:=m) (r:=r) HS.p4 HS.p5 hlt (j:=J) (q:=I) (by have:=HS.out;omega) (by have:=HS.out;omega);have HX:=Yh2 hx hy;have HJK:=Yh2 (show J≠I by have:=HS.out;omega) (H.p0.at_ hx).2.1;have hST:=Lib.hid hst;have d0:(i:Int)<(k:Int):=Yo;have d1:IntKind.i64.wrap ((a:Int)+(i:Int))=(J:Int):=by rw [IntKind.wrap_i64];have:=HS.out;omega
    have d2:IntKind.i64.wrap ((b:Int)+(i:Int))=(I:Int):=by rw [IntKind.wrap_i64];have:=HS.out;omega
    have d3:(J:Int)<(n:Int):=by have:=HS.out;omega
    have d4:(I:Int)<(n:Int):=by have:=HS.out;omega
    obtain ⟨ys,hys⟩:∃ ys,sw p u m v r i=ys:=⟨_,rfl⟩;rw [hys] at H HX hST;clear hx hy hst hJ hI hys;go_upto_region 3 with (fail)
    refine wp_region_held_drew (S:=fun _=>True) (by kernel_rfl) trivial (fun Hh=>?_);refine AL 18 [0,1,2,3,4,5,6,7,8,9,10,11,12,14,15,16,17,18] Hh fun K hK=>?_
    repeat refine rgA ?_
    refine hK _ _ ?_;clear hK K;have hE2:Hid (Sr wr.drew B0 g cap ys/\Below B0 w wr.drew):=⟨H.p0.keep (Ai _ 1),Bg H.q1 hB (Ai _ 1)⟩;generalize wr.drew=Wd at hE2 Hh ⊢
    have hfin:Hid (∀ W3,W3=((((Wd).setCell ⟨g,J*4,none⟩ (.int .i64 y.c)).setCell ⟨g,J*4+1,none⟩ (.bool y.b)).setCell ⟨g,J*4+2,none⟩ (.slice y.A y.l y.k)).setCell ⟨g,J*4+3,none⟩ (.slice y.B y.m y.d)->Sr W3 B0 g cap ((ys).set J y)/\Ec W3 g (I*4) y/\(∀ m,W3.frozen? ⟨g,m,none⟩=false)/\Below B0 w W3):=by
     rintro W3 rfl;have hjl:J<(ys).length:=(List.getElem?_eq_some_iff.1 HX.p0).1;have h1:=hE2.p0.put (j:=J) hjl y;have hk2:((ys).set J y)[I]?=some y:=by rw [List.getElem?_set_ne HJK.p0];exact HX.q1
     exact ⟨h1,(h1.at_ hk2).1,(h1.at_ hk2).2.2.2,By hE2.q1 HJK.q1 _ _ _ _ _ _ _ _⟩
    have hgo:Hid (∀ W3,W3=((((Wd).setCell ⟨g,J*4,none⟩ (.int .i64 y.c)).setCell ⟨g,J*4+1,none⟩ (.bool y.b)).setCell ⟨g,J*4+2,none⟩ (.slice y.A y.l y.k)).setCell ⟨g,J*4+3,none⟩ (.slice y.B y.m y.d)->Sr (((((W3).setCell ⟨g,I*4,none⟩ (.int .i64 x.c)).setCell ⟨g,I*4+1,none⟩ (.bool x.b)).setCell ⟨g,I*4+2,none⟩ (.slice x.A x.l x.k)).setCell ⟨g,I*4+3,none⟩ (.slice x.B x.m x.d)) B0 g cap (((ys).set J y).set I x)/\Below B0 w (((((W3).setCell ⟨g,I*4,none⟩ (.int .i64 x.c)).setCell ⟨g,I*4+1,none⟩ (.bool x.b)).setCell ⟨g,I*4+2,none⟩ (.slice x.A x.l x.k)).setCell ⟨g,I*4+3,none⟩ (.slice x.B x.m x.d))):=by
     intro W3 e3;obtain ⟨h1,-,-,h2⟩:=hfin.out W3 e3;have hkl:I<((ys).set J y).length:=by rw [Uh];exact (List.getElem?_eq_some_iff.1 HX.q1).1
     exact ⟨h1.put hkl x,By h2 HJK.q1 _ _ _ _ _ _ _ _⟩
    have hL:Ec Wd g (J*4) x/\Ec Wd g (I*4) y/\∀ m,Wd.frozen? ⟨g,m,none⟩=false:=⟨(hE2.p0.at_ HX.p0).1,(hE2.p0.at_ HX.q1).1,(hE2.p0.at_ HX.p0).2.2.2⟩;obtain ⟨⟨a0,a1,a2,a3⟩,⟨b0,b1,b2,b3⟩,hz⟩:=hL;have z0:=hz (J*4);have z1:=hz (J*4+1);have z2:=hz (J*4+2);have z3:=hz (J*4+3);clear hz;refine Br [13,19] (AX (fun K hK=>?_) (AX (fun K hK=>?_) CP))
    ·
     go_simp;refine rgK hK trivial fun Hh=>?_;clear hK K;refine rgO 19 fun K hK=>?_;go_simp;refine rgK hK trivial fun Hh=>?_;clear hK K;refine rgT 20 Hh ?_;refine rgO 21 fun K hK=>?_;go_simp;refine rgK hK trivial fun Hh=>?_;clear hK K;refine rgT 22 Hh ?_;obtain ⟨W3,e3⟩:∃ W3,W3=((((Wd).setCell ⟨g,J*4,none⟩ (.int .i64 y.c)).setCell ⟨g,J*4+1,none⟩ (.bool y.b)).setCell ⟨g,J*4+2,none⟩ (.slice y.A y.l y.k)).setCell ⟨g,J*4+3,none⟩ (.slice y.B y.m y.d):=⟨_,rfl⟩;obtain ⟨-,⟨g0,g1,g2,g3⟩,hz,-⟩:=hfin.out W3 e3;have y0:=hz (I*4);have y1:=hz (I*4+1);have y2:=hz (I*4+2);have y3:=hz (I*4+3);have hgo3:=Lib.hid (hgo.out W3 e3);rw [<- e3];clear hz e3 a0 a1 a2 a3 b0 b1 b2 b3 z0 z1 z2 z3;refine rgO 23 fun K hK=>?_;go_simp;refine rgK hK trivial fun Hh=>?_;clear hK K;refine Yw ?_;clear Hh g0 g1 g2 g3 y0 y1 y2 y3 hfin hgo hE2;clear d1 d2 d3 d4;go_wp2_with fail;go_roundw
     case rel=>exact ⟨i+1,by go_num,Yo,by rw [<- hST.out];exact hgo3.p0,hgo3.q1⟩
     case measure=>simp [intOf];omega
    ·
     go_simp;refine rgK hK trivial fun Hh=>?_;clear hK K;refine rgO 13 fun K hK=>?_;go_simp;refine rgK hK trivial fun Hh=>?_;clear hK K;refine rgT 20 Hh ?_;refine rgO 21 fun K hK=>?_;go_simp;refine rgK hK trivial fun Hh=>?_;clear hK K;refine rgT 22 Hh ?_;obtain ⟨W3,e3⟩:∃ W3,W3=((((Wd).setCell ⟨g,J*4,none⟩ (.int .i64 y.c)).setCell ⟨g,J*4+1,none⟩ (.bool y.b)).setCell ⟨g,J*4+2,none⟩ (.slice y.A y.l y.k)).setCell ⟨g,J*4+3,none⟩ (.slice y.B y.m y.d):=⟨_,rfl⟩;obtain ⟨-,⟨g0,g1,g2,g3⟩,hz,-⟩:=hfin.out W3 e3;have y0:=hz (I*4);have y1:=hz (I*4+1);have y2:=hz (I*4+2);have y3:=hz (I*4+3);have hgo3:=Lib.hid (hgo.out W3 e3);rw [<- e3];clear hz e3 a0 a1 a2 a3 b0 b1 b2 b3 z0 z1 z2 z3;refine rgO 23 fun K hK=>?_;go_simp;refine rgK hK trivial fun Hh=>?_;clear hK K;refine Yw ?_;clear Hh g0 g1 g2 g3 y0 y1 y2 y3 hfin hgo hE2;clear d1 d2 d3 d4;go_wp2_with fail;go_roundw
     case rel=>exact ⟨i+1,by go_num,Yo,by rw [<- hST.out];exact hgo3.p0,hgo3.q1⟩
     case measure=>simp [intOf];omega
  · have d0:¬ (i:Int)<(k:Int):=by omega
    obtain rfl:i=k:=by omega
    go_wp2_with fail;go_end0;exact ⟨rfl,H.p0,H.q1⟩
def Rot (T:List Tm) (m i j:Nat) (ys:List Tm):Prop:=∃ P U V S,ys=P++(U++(V++S))/\P.length+i=m/\U.length=i/\V.length=j/\0<i/\0<j/\T=P++(V++(U++S))
theorem N7 {T ys:List Tm} {m i j:Nat} (h:Rot T m i j ys) (hlt:j<i):∃ p u q v r,ys=p++(u++(q++(v++r)))/\p.length=m - i/\p.length+j+q.length=m/\u.length=j/\v.length=j/\Rot T m (i - j) j (p++(v++(q++(u++r)))):=by
 obtain ⟨P,U,V,S,e,h1,h2,h3,h4,h5,e2⟩:=h;have hU:U=U.take j++U.drop j:=(Us _ _).symm;have ht:(U.take j).length=j:=by rw [TU];omega
 have hd:(U.drop j).length=i - j:=by rw [UJ];omega
 refine ⟨P,U.take j,U.drop j,V,S,?_,Yo,Yo,ht,h3,P++V,U.drop j,U.take j,S,by simp,by rw [TM];omega,hd,ht,Yo,h5,?_⟩
 · rw [e];rw [<- TR (U.take j),Us]
 · rw [e2,TR P V,<- TR (U.take j),Us]
theorem Nv {T ys:List Tm} {m i j:Nat} (h:Rot T m i j ys) (hlt:i<j):∃ p u q v r,ys=p++(u++(q++(v++r)))/\p.length=m - i/\p.length+i+q.length=m+j - i/\u.length=i/\v.length=i/\Rot T m i (j - i) (p++(v++(q++(u++r)))):=by
 obtain ⟨P,U,V,S,e,h1,h2,h3,h4,h5,e2⟩:=h;have hV:V=V.take (j - i)++V.drop (j - i):=(Us _ _).symm;have ht:(V.take (j - i)).length=j - i:=by rw [TU];omega
 have hd:(V.drop (j - i)).length=i:=by rw [UJ];omega
 refine ⟨P,U,V.take (j - i),V.drop (j - i),S,?_,Yo,Yo,h2,hd,P,V.drop (j - i),V.take (j - i),U++S,by simp,Yo,hd,ht,h4,Yo,?_⟩
 · rw [e];rw [<- TR (V.take (j - i)),Us]
 · rw [e2];rw [<- TR (V.take (j - i)),Us]
theorem QL {T ys:List Tm} {m i:Nat} (h:Rot T m i i ys):∃ p u v r,ys=p++(u++([]++(v++r)))/\p.length=m - i/\p.length+i+([]:List Tm).length=m/\u.length=i/\v.length=i/\T=p++(v++([]++(u++r))):=by
 obtain ⟨P,U,V,S,e,h1,h2,h3,h4,h5,e2⟩:=h;exact ⟨P,U,V,S,by simpa using e,Yo,by simp;omega,h2,h3,by simpa using e2⟩
theorem Sk {T ys:List Tm} {m i j:Nat} (h:Rot T m i j ys):i<=m/\m+j<=ys.length/\ys.length=T.length/\0<i/\0<j:=by
 obtain ⟨P,U,V,S,e,h1,h2,h3,h4,h5,e2⟩:=h;rw [e,e2];simp;omega
theorem ST {w:World} {B0 g cap n a m b:Nat} {p u v s:List Tm} (h:Sr w B0 g cap (p++(u++(v++s)))) (hn:(p++(u++(v++s))).length=n) (ha:p.length=a) (hm:p.length+u.length=m) (hb:p.length+u.length+v.length=b) (hu:0<u.length) (hv:0<v.length)
 (hB:B0<=w.heap.size) (h40:n<=1099511627776):
 Calls Tryz.prog 262 #[.slice (some ⟨g,0,none⟩) n cap,.int .i64 (a:Int),.int .i64 (m:Int),.int .i64 (b:Int),.func (.func 183) #[] #[]] w fun e w'=>e=.returned (.tuple #[])/\Sr w' B0 g cap (p++(v++(u++s)))/\Below B0 w w':=by
 obtain ⟨T,hT⟩:∃ T,p++(v++(u++s))=T:=⟨_,rfl⟩;have hR:Rot T m (m - a) (b - m) (p++(u++(v++s))):=⟨p,u,v,s,rfl,Yo,Yo,Yo,Yo,Yo,hT.symm⟩;have hTn:T.length=n:=by rw [<- hT,<- hn];simp;omega
 rw [hT];have hbn:b<=n:=by rw [<- hn];simp;omega
 have e1:IntKind.i64.wrap ((m:Int) - (a:Int))=((m - a:Nat):Int):=by rw [IntKind.wrap_i64];omega
 have e2:IntKind.i64.wrap ((b:Int) - (m:Int))=((b - m:Nat):Int):=by rw [IntKind.wrap_i64];omega
 have HS:=Yh4 h (Below.refl B0 w) hR hTn;clear h hn ha hm hb hu hv hT hR hTn;go_enter Tryz.func262,Tryz.ntmps262;go_wp2_with fail;clear e1 e2;go_loopw [10,11] (fun z1 z2 wr=>∃ (i j:Nat) (ys:List Tm),z1=.int .i64 (i:Int)/\z2=.int .i64 (j:Int)/\Hid (Sr wr B0 g cap ys/\Rot T m i j ys/\Below B0 w wr)) (fun z1 z2 _=>(intOf z1).toNat+(intOf z2).toNat)
 case atStart=>exact ⟨m - a,b - m,_,rfl,rfl,HS.p0,HS.p2,HS.p1⟩
 case round=>
  obtain ⟨i,j,ys,rfl,rfl,H⟩:=hrel;have hle:=Sk H.p1;have hTn:=HS.q3;have q1:i<=m:=hle.1;have q2:m+j<=n:=Yo;have q3:0<i:=hle.2.2.2.1;have q4:0<j:=hle.2.2.2.2;have hyn:ys.length=n:=Yo;have d3:IntKind.i64.wrap ((m:Int) - (i:Int))=((m - i:Nat):Int):=by rw [IntKind.wrap_i64];omega
  clear hle hTn;by_cases he:i=j
  · subst he;obtain ⟨p1,u1,v1,r1,ey,hp,hq,hu1,hv1,eT⟩:=QL H.p1;have hs1:Hid (_/\_/\_/\_/\_/\_):=⟨ey ▸ H.p0,ey ▸ hyn,hp,hq,hu1,hv1⟩;have d0:((i:Int) !=(i:Int))=false:=by simp
    have HT:=Lib.hid eT;clear ey hp hq hu1 hv1 eT;go_wp2_with fail;refine (Pa (w:=wr) hs1.p0 hs1.p1 hs1.p2 hs1.p3 hs1.p4 hs1.q5 (TP hB H.q2.size) h40).mono ?_;rintro e w2 ⟨rfl,h1,h2⟩;have R:=Yh2 h1 (H.q2.trans h2);clear h1 h2;go_wp2_with fail;go_end0;exact ⟨rfl,by rw [HT.out];exact R.p0,R.q1⟩
  · have d0:((i:Int) !=(j:Int))=true:=by simp;omega
    by_cases hlt:j<i
    · obtain ⟨p1,u1,m1,v1,r1,ey,hp,hq,hu1,hv1,hR2⟩:=N7 H.p1 hlt;have hs1:Hid (_/\_/\_/\_/\_/\_):=⟨ey ▸ H.p0,ey ▸ hyn,hp,hq,hu1,hv1⟩;have d1:(j:Int)<(i:Int):=Yo;have d4:IntKind.i64.wrap ((i:Int) - (j:Int))=((i - j:Nat):Int):=by rw [IntKind.wrap_i64];omega
      have HR:=Lib.hid hR2;clear ey hp hq hu1 hv1 hR2;go_wp2_with fail;refine (Pa (w:=wr) hs1.p0 hs1.p1 hs1.p2 hs1.p3 hs1.p4 hs1.q5 (TP hB H.q2.size) h40).mono ?_;rintro e w2 ⟨rfl,h1,h2⟩;have R:=Yh3 h1 HR.out (H.q2.trans h2);clear h1 h2;go_wp2_with fail;go_roundw
      case rel=>exact ⟨i - j,j,_,rfl,rfl,R.out⟩
      case measure=>simp [intOf];omega
    · obtain ⟨p1,u1,m1,v1,r1,ey,hp,hq,hu1,hv1,hR2⟩:=Nv H.p1 Yo;have hs1:Hid (_/\_/\_/\_/\_/\_):=⟨ey ▸ H.p0,ey ▸ hyn,hp,hq,hu1,hv1⟩;have d1:¬ (j:Int)<(i:Int):=Yo;have d4:IntKind.i64.wrap ((j:Int) - (i:Int))=((j - i:Nat):Int):=by rw [IntKind.wrap_i64];omega
      have d5:IntKind.i64.wrap ((m:Int)+(j:Int))=((m+j:Nat):Int):=by rw [IntKind.wrap_i64];omega
      have d6:IntKind.i64.wrap (((m+j:Nat):Int) - (i:Int))=((m+j - i:Nat):Int):=by rw [IntKind.wrap_i64];omega
      obtain ⟨mj,hmj⟩:∃ k,m+j=k:=⟨_,rfl⟩;rw [hmj] at d5 d6;have HR:=Yh2 hR2 hmj;rw [hmj] at hq;have hs1:Hid (_/\_/\_/\_/\_/\_):=⟨ey ▸ H.p0,ey ▸ hyn,hp,hq,hu1,hv1⟩;clear ey hp hq hu1 hv1 hR2 hmj;go_wp2_with fail;refine (Pa (w:=wr) hs1.p0 hs1.p1 hs1.p2 hs1.p3 hs1.p4 hs1.q5 (TP hB H.q2.size) h40).mono ?_;rintro e w2 ⟨rfl,h1,h2⟩;have R:=Yh3 h1 HR.p0 (H.q2.trans h2);clear h1 h2;go_wp2_with fail;go_roundw
      case rel=>exact ⟨i,j - i,_,rfl,rfl,R.out⟩
      case measure=>simp [intOf];omega
end
end Go.Proofs.YtlblnmmfphiobaaGreat
