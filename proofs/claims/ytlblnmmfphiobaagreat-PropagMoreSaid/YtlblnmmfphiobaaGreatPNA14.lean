import Derived.Test.YtlblnmmfphiobaaGreatPNA13
set_option maxRecDepth 100000
set_option maxHeartbeats 8000000
set_option linter.unusedVariables false
set_option linter.unusedSimpArgs false
namespace Go.Proofs.YtlblnmmfphiobaaGreat
section
open Go Go.RowKit Go.Proofs Pl
def EX (B0 g cap n N:Nat):Prop:=∀ (w:World) (p X Y r:List Tm) (a m b:Nat),b - a<=N->Sr w B0 g cap (p++(X++(Y++r)))->(p++(X++(Y++r))).length=n->p.length=a->a+X.length=m->m+Y.length=b->
 0<X.length->0<Y.length->Up X->Up Y->B0<=w.heap.size->
 Calls Tryz.prog 256 #[.slice (some ⟨g,0,none⟩) n cap,.int .i64 (a:Int),.int .i64 (m:Int),.int .i64 (b:Int),.func (.func 183) #[] #[]] w fun e w'=>e=.returned (.tuple #[])/\Fp w B0 g cap p X Y r w'
def GE (a m b mid lo hi:Nat):Prop:=(mid<m/\lo+b=mid+m/\hi=mid)∨(m<=mid/\lo=a/\hi=m)
theorem LB {a m b mid lo hi q:Nat} (h:GE a m b mid lo hi) (hmid:(a+b) / 2=mid) (h1:lo<=q) (h2:q<hi) (ham:a<m) (hmb:m<b):a<=q/\q<m/\m<=mid+m - 1 - q/\mid+m - 1 - q<b:=by
 unfold GE at h;omega
theorem Ls {a m b mid lo hi:Nat} (h:GE a m b mid lo hi) (hmid:(a+b) / 2=mid) (ham:a<m) (hmb:m<b):lo<=hi/\a<=lo/\hi<=m:=by
 unfold GE at h;omega
theorem R5 {a m b mid lo hi s:Nat} (h:GE a m b mid lo hi) (hmid:(a+b) / 2=mid) (h1:lo<=s) (h2:s<=hi) (ham:a<m) (hmb:m<b):a<=s/\s<=m/\s<=mid/\mid+m - s<=b:=by
 unfold GE at h;omega
theorem Ib {p X Y r ys:List Tm} {a m b mid lo hi s:Nat} (hys:ys=p++(X++(Y++r))) (ha:p.length=a) (hm:a+X.length=m) (hb:m+Y.length=b) (hX:Up X) (hY:Up Y) (ham:a<m) (hmb:m<b) (hL:GE a m b mid lo hi) (hmid:(a+b) / 2=mid)
 (h1:lo<=s) (h2:s<=hi) (h3:s=lo∨∃ x y,ys[s - 1]?=some x/\ys[mid+m - s]?=some y/\x.c<=y.c) (h4:s=hi∨∃ x y,ys[s]?=some x/\ys[mid+m - 1 - s]?=some y/\y.c<=x.c):
 ∃ X1 X2 Y1 Y2,X=X1++X2/\Y=Y1++Y2/\a+X1.length=s/\m+Y1.length=mid+m - s/\(∀ u∈X1++Y1,∀ v∈X2++Y2,u.c<=v.c)/\a<=s/\s<=m/\s<=mid/\mid+m - s<=b:=by
 obtain ⟨q1,q2,q3,q4⟩:=R5 hL hmid h1 h2 ham hmb;have H34:=Yh2 h3 h4;clear h3 h4;have gX:∀ k,k<X.length->ys[a+k]?=X[k]?:=fun k hk=>by rw [hys,List.getElem?_append_right (by omega),show a+k - p.length=k from by omega,List.getElem?_append_left hk]
 have gY:∀ k,k<Y.length->ys[m+k]?=Y[k]?:=fun k hk=>by
  rw [hys,show p++(X++(Y++r))=(p++X)++(Y++r) from by simp,List.getElem?_append_right (by simp;omega),show m+k - (p++X).length=k from by simp;omega,List.getElem?_append_left hk]
 have hXX:∀ i j (hi:i<X.length) (hj:j<X.length),i<=j->X[i].c<=X[j].c:=fun i j hi hj hij=>by
  rcases Ul i j with h | h
  · exact (UV.1 hX) i j hi hj h
  · obtain rfl:i=j:=by omega
    exact Int.le_refl _
 have hYY:∀ i j (hi:i<Y.length) (hj:j<Y.length),i<=j->Y[i].c<=Y[j].c:=fun i j hi hj hij=>by
  rcases Ul i j with h | h
  · exact (UV.1 hY) i j hi hj h
  · obtain rfl:i=j:=by omega
    exact Int.le_refl _
 refine ⟨X.take (s - a),X.drop (s - a),Y.take (mid - s),Y.drop (mid - s),(Us _ _).symm,(Us _ _).symm,by rw [TU];omega,by rw [TU];omega,?_,q1,q2,q3,q4⟩
 have tX:∀ z∈X.take (s - a),∃ i,∃ hi:i<X.length,i<s - a/\X[i]=z:=fun z hz=>by
  obtain ⟨i,hi,e⟩:=Vb hz;rw [TU] at hi;rw [VJ] at e;exact ⟨i,Yo,Yo,e⟩
 have dX:∀ z∈X.drop (s - a),∃ i,∃ hi:i<X.length,s - a<=i/\X[i]=z:=fun z hz=>by
  obtain ⟨i,hi,e⟩:=Vb hz;rw [UJ] at hi;rw [VB] at e;exact ⟨s - a+i,Yo,Yo,e⟩
 have tY:∀ z∈Y.take (mid - s),∃ i,∃ hi:i<Y.length,i<mid - s/\Y[i]=z:=fun z hz=>by
  obtain ⟨i,hi,e⟩:=Vb hz;rw [TU] at hi;rw [VJ] at e;exact ⟨i,Yo,Yo,e⟩
 have dY:∀ z∈Y.drop (mid - s),∃ i,∃ hi:i<Y.length,mid - s<=i/\Y[i]=z:=fun z hz=>by
  obtain ⟨i,hi,e⟩:=Vb hz;rw [UJ] at hi;rw [VB] at e;exact ⟨mid - s+i,Yo,Yo,e⟩
 intro u hu v hv
 rcases Uw.1 hu with hu | hu<;>rcases Uw.1 hv with hv | hv
 · obtain ⟨i,hi,hi2,rfl⟩:=tX u hu;obtain ⟨j,hj,hj2,rfl⟩:=dX v hv;exact hXX i j hi hj Yo
 · obtain ⟨i,hi,hi2,rfl⟩:=tX u hu;obtain ⟨j,hj,hj2,rfl⟩:=dY v hv
   rcases H34.p0 with h3 | ⟨x,y,e1,e2,h3⟩
   · exfalso;unfold GE at hL;omega
   · have k1:s - 1 - a<X.length:=by omega
     have k2:mid - s<Y.length:=Yo;have f1:=gX (s - 1 - a) k1;rw [show a+(s - 1 - a)=s - 1 from by omega,e1,List.getElem?_eq_getElem k1] at f1;have f2:=gY (mid - s) k2;rw [show m+(mid - s)=mid+m - s from by omega,e2,List.getElem?_eq_getElem k2] at f2;injection f1 with f1
     injection f2 with f2
     have g1:=hXX i (s - 1 - a) hi k1 Yo;have g2:=hYY (mid - s) j k2 hj hj2;rw [<- f1] at g1;rw [<- f2] at g2;omega
 · obtain ⟨i,hi,hi2,rfl⟩:=tY u hu;obtain ⟨j,hj,hj2,rfl⟩:=dX v hv
   rcases H34.q1 with h4 | ⟨x,y,e1,e2,h4⟩
   · exfalso;unfold GE at hL;omega
   · have k1:s - a<X.length:=by omega
     have k2:mid - 1 - s<Y.length:=Yo;have f1:=gX (s - a) k1;rw [show a+(s - a)=s from by omega,e1,List.getElem?_eq_getElem k1] at f1;have f2:=gY (mid - 1 - s) k2;rw [show m+(mid - 1 - s)=mid+m - 1 - s from by omega,e2,List.getElem?_eq_getElem k2] at f2;injection f1 with f1
     injection f2 with f2
     have g1:=hXX (s - a) j k1 hj hj2;have g2:=hYY i (mid - 1 - s) hi k2 Yo;rw [<- f1] at g1;rw [<- f2] at g2;omega
 · obtain ⟨i,hi,hi2,rfl⟩:=tY u hu;obtain ⟨j,hj,hj2,rfl⟩:=dY v hv;exact hYY i j hi hj Yo
theorem LU {a b:List Tm} (h:Up (a++b)):Up a:=(UW.1 h).1
theorem Jz {a b:List Tm} (h:Up (a++b)):Up b:=(UW.1 h).2.1
theorem Qj {a b A B:List Tm} (ha:Up a) (hb:Up b) (pa:a.Perm A) (pb:b.Perm B) (h:∀ u∈A,∀ v∈B,u.c<=v.c):Up (a++b):=
 UW.2 ⟨ha,hb,fun u hu v hv=>h u (pa.mem_iff.1 hu) v (pb.mem_iff.1 hv)⟩
theorem M5 (A B C D:List Tm):((A++C)++(B++D)).Perm ((A++B)++(C++D)):=by
 simp only [TR];refine List.Perm.append_left A ?_;rw [<- TR,<- TR];exact List.Perm.append_right D List.perm_append_comm
structure Cy (a m b mid s f n N:Nat) (p X1 X2 Y1 Y2 r ys:List Tm):Prop where
 row:ys=(p++X1)++(X2++(Y1++(Y2++r)))
 la:p.length=a
 l1:a+X1.length=s
 l2:s+X2.length=m
 l3:m+Y1.length=f
 l4:f+Y2.length=b
 l5:s+Y1.length=mid
 l6:mid+X2.length=f
 u1:Up X1
 u2:Up X2
 u3:Up Y1
 u4:Up Y2
 le:∀ u∈X1++Y1,∀ v∈X2++Y2,u.c<=v.c
 n1:mid - a<=N
 n2:b - mid<=N
 ln:ys.length=n
 am:a<mid
 mb:mid<b
theorem Cy.al {a m b mid s f n N:Nat} {p X1 X2 Y1 Y2 r ys:List Tm} (h:Cy a m b mid s f n N p X1 X2 Y1 Y2 r ys):a+X1.length=s/\s+X2.length=m/\m+Y1.length=f/\f+Y2.length=b/\s+Y1.length=mid/\mid+X2.length=f:=⟨h.l1,h.l2,h.l3,h.l4,h.l5,h.l6⟩
theorem Ht {p X Y r ys X1 X2 Y1 Y2:List Tm} {a m b mid s f n N:Nat} (hys:ys=p++(X++(Y++r))) (ha:p.length=a) (hm:a+X.length=m) (hb:m+Y.length=b) (hX:Up X) (hY:Up Y) (hn:ys.length=n) (hmid:(a+b) / 2=mid) (hN:b - a<=N+1) (ham:a+2<=m) (hmb:m+2<=b)
 (eX:X=X1++X2) (eY:Y=Y1++Y2) (l1:a+X1.length=s) (l2:m+Y1.length=mid+m - s) (hle:∀ u∈X1++Y1,∀ v∈X2++Y2,u.c<=v.c) (hf:mid+m - s=f) (hs:s<=mid):Cy a m b mid s f n N p X1 X2 Y1 Y2 r ys:=by
 have lX:X.length=X1.length+X2.length:=by rw [eX,TM]
 have lY:Y.length=Y1.length+Y2.length:=by rw [eY,TM]
 rw [eX] at hX;rw [eY] at hY;exact ⟨by rw [hys,eX,eY];simp only [TR],ha,l1,Yo,Yo,Yo,Yo,Yo,LU hX,Jz hX,LU hY,Jz hY,hle,Yo,Yo,hn,Yo,Yo⟩
theorem Be {w W:World} {B0 g cap a m b mid s f n N:Nat} {p X1 X2 Y1 Y2 r ys Z1 Z2:List Tm} (P:Cy a m b mid s f n N p X1 X2 Y1 Y2 r ys) (h:Sr W B0 g cap (p++(Z1++(Z2++r)))) (p1:Z1.Perm (X1++Y1)) (u1:Up Z1) (p2:Z2.Perm (X2++Y2)) (u2:Up Z2) (hb:Below B0 w W):
 Fp w B0 g cap p (X1++X2) (Y1++Y2) r W:=
 ⟨Z1++Z2,by simpa only [TR] using h,(List.Perm.append p1 p2).trans (M5 X1 X2 Y1 Y2),Qj u1 u2 p1 p2 P.le,hb⟩
theorem FX {w:World} {B0 g cap a m b mid s f n N:Nat} {p X1 X2 Y1 Y2 r ys:List Tm} (P:Cy a m b mid s f n N p X1 X2 Y1 Y2 r ys) (h:Sr w B0 g cap ys) (hB:B0<=w.heap.size) (h40:n<=1099511627776) (z1:0<X2.length) (z2:0<Y1.length):
 Calls Tryz.prog 262 #[.slice (some ⟨g,0,none⟩) n cap,.int .i64 (s:Int),.int .i64 (m:Int),.int .i64 (f:Int),.func (.func 183) #[] #[]] w fun e w'=>e=.returned (.tuple #[])/\Sr w' B0 g cap (p++(X1++(Y1++(X2++(Y2++r)))))/\Below B0 w w':=by
 have hl:=P.ln;rw [P.row] at h hl;have l0:(p++X1).length=s:=by rw [TM,P.la];exact P.l1
 refine (ST (a:=s) (m:=m) (b:=f) h hl l0 (by rw [l0];exact P.l2) (by rw [l0,P.l2];exact P.l3) z1 z2 hB h40).mono ?_;rintro e w' ⟨he,h1,h2⟩;exact ⟨he,by simpa only [TR] using h1,h2⟩
theorem FH {w:World} {B0 g cap a m b mid s f n N:Nat} {p X1 X2 Y1 Y2 r ys:List Tm} (P:Cy a m b mid s f n N p X1 X2 Y1 Y2 r ys) (IH:EX B0 g cap n N) (h:Sr w B0 g cap (p++(X1++(Y1++(X2++(Y2++r)))))) (hB:B0<=w.heap.size) (z1:0<X1.length) (z2:0<Y1.length):
 Calls Tryz.prog 256 #[.slice (some ⟨g,0,none⟩) n cap,.int .i64 (a:Int),.int .i64 (s:Int),.int .i64 (mid:Int),.func (.func 183) #[] #[]] w fun e w'=>e=.returned (.tuple #[])/\∃ Z1,Sr w' B0 g cap (p++(Z1++(X2++(Y2++r))))/\Z1.Perm (X1++Y1)/\Up Z1/\Below B0 w w':=by
 have hl:=P.ln;rw [P.row] at hl;exact IH w p X1 Y1 (X2++(Y2++r)) a s mid P.n1 h (by rw [<- hl];simp;omega) P.la P.l1 P.l5 z1 z2 P.u1 P.u3 hB
theorem Ei {w:World} {B0 g cap a m b mid s f n N:Nat} {p X1 X2 Y1 Y2 r ys Z1:List Tm} (P:Cy a m b mid s f n N p X1 X2 Y1 Y2 r ys) (IH:EX B0 g cap n N) (h:Sr w B0 g cap (p++(Z1++(X2++(Y2++r))))) (hp:Z1.Perm (X1++Y1)) (hB:B0<=w.heap.size) (z1:0<X2.length) (z2:0<Y2.length):
 Calls Tryz.prog 256 #[.slice (some ⟨g,0,none⟩) n cap,.int .i64 (mid:Int),.int .i64 (f:Int),.int .i64 (b:Int),.func (.func 183) #[] #[]] w fun e w'=>e=.returned (.tuple #[])/\∃ Z2,Sr w' B0 g cap (p++(Z1++(Z2++r)))/\Z2.Perm (X2++Y2)/\Up Z2/\Below B0 w w':=by
 have hl:=P.ln;rw [P.row] at hl;have hz:=hp.length_eq;rw [TM] at hz;have l0:(p++Z1).length=mid:=by rw [TM,hz,P.la];have:=P.l1;have:=P.l5;omega
 refine (IH w (p++Z1) X2 Y2 r mid f b P.n2 (by simpa only [TR] using h) (by rw [<- hl];simp;omega) l0 P.l6 P.l4 z1 z2 P.u2 P.u4 hB).mono ?_;rintro e w' ⟨he,Z2,h1,h2,h3,h4⟩;exact ⟨he,Z2,by simpa only [TR] using h1,h2,h3,h4⟩
theorem Ji {w:World} {B0 g cap n N a m b mid:Nat} {p X Y r:List Tm} (IH:EX B0 g cap n N) (hN:b - a<=N+1) (h:Sr w B0 g cap (p++(X++(Y++r)))) (hn:(p++(X++(Y++r))).length=n) (ha:p.length=a) (hm:a+X.length=m) (hb:m+Y.length=b) (hX:Up X) (hY:Up Y)
 (h2:2<=X.length) (h3:2<=Y.length) (hB:B0<=w.heap.size) (h40:n<=1099511627776) (hmid:(a+b) / 2=mid) (hmm:mid<m):
 Calls Tryz.prog 256 #[.slice (some ⟨g,0,none⟩) n cap,.int .i64 (a:Int),.int .i64 (m:Int),.int .i64 (b:Int),.func (.func 183) #[] #[]] w fun e w'=>e=.returned (.tuple #[])/\Fp w B0 g cap p X Y r w':=by
 have hlen:n=b+r.length:=by rw [<- hn];simp;omega
 have hbn:b<=n:=Yo;obtain ⟨ys,hys⟩:∃ ys,p++(X++(Y++r))=ys:=⟨_,rfl⟩;have hyn:ys.length=n:=by rw [<- hys];exact hn
 rw [hys] at h;obtain ⟨dm,hdm⟩:∃ d,m - a=d:=⟨_,rfl⟩;obtain ⟨db,hdb⟩:∃ d,b - m=d:=⟨_,rfl⟩;obtain ⟨nn,hnn⟩:∃ d,mid+m=d:=⟨_,rfl⟩;have e0:IntKind.i64.wrap ((m:Int) - (a:Int))=(dm:Int):=by rw [IntKind.wrap_i64];omega
 have e01:((dm:Int)==1)=false:=beq_eq_false_iff_ne.2 Yo;have e02:IntKind.i64.wrap ((b:Int) - (m:Int))=(db:Int):=by rw [IntKind.wrap_i64];omega
 have e03:((db:Int)==1)=false:=beq_eq_false_iff_ne.2 Yo;have e04:((a:Int)+(b:Int)) / 2=(mid:Int):=Yo;have e05:IntKind.i64.wrap ((mid:Int)+(m:Int))=(nn:Int):=by rw [IntKind.wrap_i64];omega
 have e06:IntKind.i64.wrap ((nn:Int) - 1)=((nn - 1:Nat):Int):=by rw [IntKind.wrap_i64];omega
 obtain ⟨pp,hpp⟩:∃ d,nn - 1=d:=⟨_,rfl⟩;rw [hpp] at e06;have ham:a+2<=m:=Yo;have hmb:m+2<=b:=Yo;have hmn:mid<=n:=Yo;have hnn2:nn<=n+n:=Yo;obtain ⟨lo,hlo⟩:∃ l,nn - b=l:=⟨_,rfl⟩;have d00:(mid:Int)<(m:Int):=Yo;have d01:IntKind.i64.wrap ((nn:Int) - (b:Int))=(lo:Int):=by rw [IntKind.wrap_i64];omega
 have HL:Hid (GE a m b mid lo mid):=.inl ⟨hmm,Yo,rfl⟩;clear hlo;have HS:=JY h (Below.refl B0 w) hys.symm ha hm hb hX hY hyn hmid hN;have HI:=Lib.hid IH;have HD:=Yh2 hnn hpp;clear IH hN h hn ha hm hb hX hY h2 h3 hlen hys hyn hdm hdb hnn hpp hmid hmm;go_enter Tryz.func256,Tryz.ntmps256;go_wp2_with fail;clear e0 e01 e02 e03 e04 e05 e06 d00
 go_loopw [20,21] (fun z1 z2 wr=>∃ (s t:Nat),z1=.int .i64 (s:Int)/\z2=.int .i64 (t:Int)/\lo<=s/\s<=t/\t<=mid/\
  Hid ((Sr wr B0 g cap ys/\Below B0 w wr)/\(s=lo∨∃ x y,ys[s - 1]?=some x/\ys[mid+m - s]?=some y/\x.c<=y.c)/\(t=mid∨∃ x y,ys[t]?=some x/\ys[mid+m - 1 - t]?=some y/\y.c<=x.c))) (fun z1 z2 _=>(intOf z2).toNat - (intOf z1).toNat)
 case atStart=>exact ⟨lo,mid,rfl,rfl,TL _,(Ls HL.out HS.p9 Yo Yo).1,TL _,⟨HS.p0,HS.p1⟩,.inl rfl,.inl rfl⟩
 case round=>
  obtain ⟨s,t,rfl,rfl,h1,h2,h3,H0⟩:=hrel;have H:=Lib.hid H0.p0;have HI2:=Lib.hid H0.q1;clear H0;by_cases hlt:s<t
  · have d0:(s:Int)<(t:Int):=by omega
    obtain ⟨q,hq⟩:∃ q,(s+t) / 2=q:=⟨_,rfl⟩;have d1:((s:Int)+(t:Int)) / 2=(q:Int):=Yo;have hq2:q<t:=Yo;have hq3:s<=q:=Yo;obtain ⟨k1,k2,k3,k4⟩:=LB (q:=q) HL.out HS.p9 Yo Yo Yo Yo;obtain ⟨u,hu⟩:∃ u,pp - q=u:=⟨_,rfl⟩;have hu2:mid+m - 1 - q=u:=by have:=HD.out;omega
    have d2:(q:Int)<(n:Int):=Yo;have d3:(u:Int)<(n:Int):=Yo;have d4:IntKind.i64.wrap ((pp:Int) - (q:Int))=(u:Int):=by have:=HD.out;rw [IntKind.wrap_i64];omega
    have hyn:=HS.p8;obtain ⟨x,hx⟩:∃ x,ys[u]?=some x:=⟨_,List.getElem?_eq_getElem Yo⟩;obtain ⟨y,hy⟩:∃ y,ys[q]?=some y:=⟨_,List.getElem?_eq_getElem Yo⟩;have HX:=Yh2 hx hy;have HU:=Lib.hid hu2;clear hx hy hq k1 k2 k3 k4 hu hu2 hyn;have HEE:Hid ((Ec wr g (u*4) x)/\Ec wr g (q*4) y):=⟨(H.p0.at_ HX.p0).1,(H.p0.at_ HX.q1).1⟩;go_upto_region 35 with (fail)
    refine wp_region_held_drew (S:=(fun W=>W.cell? ⟨g,u*4,none⟩=some (.int .i64 x.c)/\W.cell? ⟨g,u*4+1,none⟩=some (.bool x.b)/\W.cell? ⟨g,u*4+2,none⟩=some (.slice x.A x.l x.k)/\W.cell? ⟨g,u*4+3,none⟩=some (.slice x.B x.m x.d)/\W.cell? ⟨g,q*4,none⟩=some (.int .i64 y.c)/\W.cell? ⟨g,q*4+1,none⟩=some (.bool y.b)/\W.cell? ⟨g,q*4+2,none⟩=some (.slice y.A y.l y.k)/\W.cell? ⟨g,q*4+3,none⟩=some (.slice y.B y.m y.d))) (by kernel_rfl) ⟨HEE.p0.1,HEE.p0.2.1,HEE.p0.2.2.1,HEE.p0.2.2.2,HEE.p1,HEE.p2,HEE.p3,HEE.q4⟩ (fun Hh=>?_);refine AL 11 [0,1,2,3,4,5,6,7,8,9,10] Hh fun K hK=>?_
    repeat refine rgA ?_
    refine hK _ _ ?_;clear hK K;have R0:=Yh2 (show Sr wr.drew B0 g cap _ from H.p0.keep (Ai _ 1)) (show Below B0 w wr.drew from Bg H.q1 hB (Ai _ 1));generalize wr.drew=Wd at R0 Hh ⊢;refine rgO 11 fun K hK=>?_;go_simp;by_cases hc:x.c<y.c
    ·
     go_at_call 183;refine (BM (r:=-1) x y _ (if_pos hc)).mono ?_;rintro e W2 ⟨rfl,hb⟩;have R:=Yh2 (R0.p0.keep hb) (Bg R0.q1 hB hb);have HC:=Lib.hid hc;have hEc:Hid (Ec W2 g (u*4) x/\Ec W2 g (q*4) y):=⟨((R0.p0.keep hb).at_ HX.p0).1,((R0.p0.keep hb).at_ HX.q1).1⟩;clear hb Hh hc;go_wp2_with fail;refine rgK hK ⟨hEc.p0.1,hEc.p0.2.1,hEc.p0.2.2.1,hEc.p0.2.2.2,hEc.p1,hEc.p2,hEc.p3,hEc.q4⟩ fun Hh=>?_;clear hK K;refine rgT 12 Hh ?_;refine rgT 13 Hh ?_;refine Yw ?_;clear Hh hEc HEE R0;go_wp2_with fail;have hu2:=HU.out
     case roundEnd=>exact ⟨⟨s,q,rfl,rfl,Yo,Yo,Yo,R.out,HI2.p0,.inr ⟨y,x,HX.q1,by rw [hu2];exact HX.p0,VO HC.out⟩⟩,by simp [intOf];omega⟩
    ·
     obtain ⟨rc,hr⟩:∃ r,Bp x.c y.c=r:=⟨_,rfl⟩;have hr0:¬ rc<0:=by rw [<- hr];unfold Bp;rw [if_neg hc];split<;>omega
     have hr1:decide (rc<0)=false:=decide_eq_false hr0;have hr2:(0:Int)<=rc:=Yo;go_at_call 183;refine (BM (r:=rc) x y _ hr).mono ?_;rintro e W2 ⟨rfl,hb⟩;have R:=Yh2 (R0.p0.keep hb) (Bg R0.q1 hB hb);have HC:=Lib.hid hc;have hEc:Hid (Ec W2 g (u*4) x/\Ec W2 g (q*4) y):=⟨((R0.p0.keep hb).at_ HX.p0).1,((R0.p0.keep hb).at_ HX.q1).1⟩;clear hb Hh hc hr;go_wp2_with fail;refine rgK hK ⟨hEc.p0.1,hEc.p0.2.1,hEc.p0.2.2.1,hEc.p0.2.2.2,hEc.p1,hEc.p2,hEc.p3,hEc.q4⟩ fun Hh=>?_;clear hK K;refine rgT 12 Hh ?_;refine rgT 13 Hh ?_;refine Yw ?_;clear Hh hEc HEE R0;go_wp2_with fail;have hu2:=HU.out;go_roundw
     case rel=>exact ⟨q+1,t,by go_num,rfl,Yo,Yo,Yo,R.out,.inr ⟨y,x,by rw [show q+1 - 1=q from by omega];exact HX.q1,by rw [show mid+m - (q+1)=u from by omega];exact HX.p0,by have:=HC.out;omega⟩,HI2.q1⟩
     case measure=>simp [intOf];omega
  · have d0:¬ (s:Int)<(t:Int):=by omega
    obtain rfl:s=t:=by omega
    obtain ⟨X1,X2,Y1,Y2,eX,eY,l1,l2,hle,q1,q2,q3,q4⟩:=Ib HS.p2 HS.p3 HS.p4 HS.p5 HS.p6 HS.p7 Yo Yo HL.out HS.p9 h1 h3 HI2.p0 HI2.q1;obtain ⟨f,hf⟩:∃ f,nn - s=f:=⟨_,rfl⟩;have hD:=HD.out;have e07:IntKind.i64.wrap ((nn:Int) - (s:Int))=(f:Int):=by rw [IntKind.wrap_i64];omega
    have hZ:Cy a m b mid s f n N p X1 X2 Y1 Y2 r ys:=Ht HS.p2 HS.p3 HS.p4 HS.p5 HS.p6 HS.p7 HS.p8 HS.p9 HS.q10 Yo Yo eX eY l1 l2 hle Yo q3;subst eX;subst eY;have HZ:=Lib.hid hZ;clear l1 l2 hle hf hD h1 h2 h3 hlt HI2 q1 q2 q3 q4 hZ HL HD HS;go_upto_region 39 with (fail)
    clear e07 d0
    rcases TQ X1.length with z1 | z1
    ·
     rcases TQ X2.length with z2 | z2
     ·
      rcases TQ Y1.length with z3 | z3
      ·
       rcases TQ Y2.length with z4 | z4
       ·
        exfalso;have h7:=HZ.out.am;have h8:=HZ.out.mb;have h:=HZ.out.al;omega
       ·
        exfalso;have h7:=HZ.out.am;have h8:=HZ.out.mb;have h:=HZ.out.al;omega
      ·
       rcases TQ Y2.length with z4 | z4
       ·
        exfalso;have h7:=HZ.out.am;have h8:=HZ.out.mb;have h:=HZ.out.al;omega
       ·
        exfalso;have h7:=HZ.out.am;have h8:=HZ.out.mb;have h:=HZ.out.al;omega
     ·
      rcases TQ Y1.length with z3 | z3
      ·
       rcases TQ Y2.length with z4 | z4
       ·
        exfalso;have h7:=HZ.out.am;have h8:=HZ.out.mb;have h:=HZ.out.al;omega
       ·
        exfalso;have h7:=HZ.out.am;have h8:=HZ.out.mb;have h:=HZ.out.al;omega
      ·
       rcases TQ Y2.length with z4 | z4
       ·
        have d1:(s:Int)<(m:Int):=by have h:=HZ.out.al;omega
        have d2:(m:Int)<(f:Int):=by have h:=HZ.out.al;omega
        have d3:¬ (a:Int)<(s:Int):=by have h:=HZ.out.al;omega
        have d4:(s:Int)<(mid:Int):=by have h:=HZ.out.al;omega
        have d5:(mid:Int)<(f:Int):=by have h:=HZ.out.al;omega
        have d6:¬ (f:Int)<(b:Int):=by have h:=HZ.out.al;omega
        have EX1:X1=[]:=TN z1;have EY2:Y2=[]:=TN z4;have HQ:=Yh4 z1 z2 z3 z4;have HE:=Yh2 EX1 EY2;clear EX1 EY2;clear z1 z2 z3 z4;go_wp2_with fail;refine (FX HZ.out H.p0 (TP hB H.q1.size) h40 HQ.p1 HQ.p2).mono ?_;rintro e w2 ⟨rfl,g1,g2⟩;have G:=Yh2 g1 (H.q1.trans g2);clear g1 g2 H;have G1:Hid (Sr w2 B0 g cap (p++((X1++Y1)++(X2++(Y2++r))))/\List.Perm (X1++Y1) (X1++Y1)/\Up (X1++Y1)/\Below B0 w w2):=⟨by simpa only [TR] using G.p0,List.Perm.refl _,by rw [HE.p0];simpa only [UA,Uo] using HZ.out.u3,G.q1⟩;clear G;have G2:=Lib.hid (Be (Z2:=X2++Y2) HZ.out (by simpa only [TR] using G1.p0) G1.p1 G1.p2 (List.Perm.refl _) (by rw [HE.q1];simpa only [UA,Uo] using HZ.out.u2) G1.q3);clear G1;go_wp2_with fail;go_end0;exact ⟨rfl,G2.out⟩
       ·
        have d1:(s:Int)<(m:Int):=by have h:=HZ.out.al;omega
        have d2:(m:Int)<(f:Int):=by have h:=HZ.out.al;omega
        have d3:¬ (a:Int)<(s:Int):=by have h:=HZ.out.al;omega
        have d4:(s:Int)<(mid:Int):=by have h:=HZ.out.al;omega
        have d5:(mid:Int)<(f:Int):=by have h:=HZ.out.al;omega
        have d6:(f:Int)<(b:Int):=by have h:=HZ.out.al;omega
        have EX1:X1=[]:=TN z1;have HQ:=Yh4 z1 z2 z3 z4;have HE:=Lib.hid EX1;clear EX1;clear z1 z2 z3 z4;go_wp2_with fail;refine (FX HZ.out H.p0 (TP hB H.q1.size) h40 HQ.p1 HQ.p2).mono ?_;rintro e w2 ⟨rfl,g1,g2⟩;have G:=Yh2 g1 (H.q1.trans g2);clear g1 g2 H;have G1:Hid (Sr w2 B0 g cap (p++((X1++Y1)++(X2++(Y2++r))))/\List.Perm (X1++Y1) (X1++Y1)/\Up (X1++Y1)/\Below B0 w w2):=⟨by simpa only [TR] using G.p0,List.Perm.refl _,by rw [HE.out];simpa only [UA,Uo] using HZ.out.u3,G.q1⟩;clear G;go_wp2_with fail;refine (Ei (Z1:=(X1++Y1)) HZ.out HI.out G1.p0 G1.p1 (TP hB G1.q3.size) HQ.p1 HQ.q3).mono ?_;rintro e w4 ⟨rfl,Z2,g1,g2,g3,g4⟩;have G2:=Lib.hid (Be HZ.out g1 G1.p1 G1.p2 g2 g3 (G1.q3.trans g4));clear g1 g2 g3 g4 G1;go_wp2_with fail;go_end0;exact ⟨rfl,G2.out⟩
    ·
     rcases TQ X2.length with z2 | z2
     ·
      rcases TQ Y1.length with z3 | z3
      ·
       rcases TQ Y2.length with z4 | z4
       ·
        exfalso;have h7:=HZ.out.am;have h8:=HZ.out.mb;have h:=HZ.out.al;omega
       ·
        have d1:¬ (s:Int)<(m:Int):=by have h:=HZ.out.al;omega
        have d2:¬ (m:Int)<(f:Int):=by have h:=HZ.out.al;omega
        have d3:(a:Int)<(s:Int):=by have h:=HZ.out.al;omega
        have d4:¬ (s:Int)<(mid:Int):=by have h:=HZ.out.al;omega
        have d5:¬ (mid:Int)<(f:Int):=by have h:=HZ.out.al;omega
        have d6:(f:Int)<(b:Int):=by have h:=HZ.out.al;omega
        have EX2:X2=[]:=TN z2;have EY1:Y1=[]:=TN z3;have HQ:=Yh4 z1 z2 z3 z4;have HE:=Yh2 EX2 EY1;clear EX2 EY1;clear z1 z2 z3 z4;have G:Hid (Sr wr B0 g cap (p++(X1++(Y1++(X2++(Y2++r)))))/\Below B0 w wr):=⟨by have h:=H.p0;rw [HZ.out.row] at h;rw [HE.p0] at h ⊢;simpa only [TR,Uo] using h,H.q1⟩;clear H;have G1:Hid (Sr wr B0 g cap (p++((X1++Y1)++(X2++(Y2++r))))/\List.Perm (X1++Y1) (X1++Y1)/\Up (X1++Y1)/\Below B0 w wr):=⟨by simpa only [TR] using G.p0,List.Perm.refl _,by rw [HE.q1];simpa only [UA,Uo] using HZ.out.u1,G.q1⟩;clear G;have G2:=Lib.hid (Be (Z2:=X2++Y2) HZ.out (by simpa only [TR] using G1.p0) G1.p1 G1.p2 (List.Perm.refl _) (by rw [HE.p0];simpa only [UA,Uo] using HZ.out.u4) G1.q3);clear G1;go_wp2_with fail;go_end0;exact ⟨rfl,G2.out⟩
      ·
       rcases TQ Y2.length with z4 | z4
       ·
        exfalso;have h7:=HZ.out.am;have h8:=HZ.out.mb;have h:=HZ.out.al;omega
       ·
        have d1:¬ (s:Int)<(m:Int):=by have h:=HZ.out.al;omega
        have d2:(m:Int)<(f:Int):=by have h:=HZ.out.al;omega
        have d3:(a:Int)<(s:Int):=by have h:=HZ.out.al;omega
        have d4:(s:Int)<(mid:Int):=by have h:=HZ.out.al;omega
        have d5:¬ (mid:Int)<(f:Int):=by have h:=HZ.out.al;omega
        have d6:(f:Int)<(b:Int):=by have h:=HZ.out.al;omega
        have EX2:X2=[]:=TN z2;have HQ:=Yh4 z1 z2 z3 z4;have HE:=Lib.hid EX2;clear EX2;clear z1 z2 z3 z4;have G:Hid (Sr wr B0 g cap (p++(X1++(Y1++(X2++(Y2++r)))))/\Below B0 w wr):=⟨by have h:=H.p0;rw [HZ.out.row] at h;rw [HE.out] at h ⊢;simpa only [TR,Uo] using h,H.q1⟩;clear H;go_wp2_with fail;refine (FH HZ.out HI.out G.p0 (TP hB G.q1.size) HQ.p0 HQ.p2).mono ?_;rintro e w3 ⟨rfl,Z1,g1,g2,g3,g4⟩;have G1:=Yh4 g1 g2 g3 (G.q1.trans g4);clear g1 g2 g3 g4 G;have G2:=Lib.hid (Be (Z2:=X2++Y2) HZ.out (by simpa only [TR] using G1.p0) G1.p1 G1.p2 (List.Perm.refl _) (by rw [HE.out];simpa only [UA,Uo] using HZ.out.u4) G1.q3);clear G1;go_wp2_with fail;go_end0;exact ⟨rfl,G2.out⟩
     ·
      rcases TQ Y1.length with z3 | z3
      ·
       rcases TQ Y2.length with z4 | z4
       ·
        exfalso;have h7:=HZ.out.am;have h8:=HZ.out.mb;have h:=HZ.out.al;omega
       ·
        have d1:(s:Int)<(m:Int):=by have h:=HZ.out.al;omega
        have d2:¬ (m:Int)<(f:Int):=by have h:=HZ.out.al;omega
        have d3:(a:Int)<(s:Int):=by have h:=HZ.out.al;omega
        have d4:¬ (s:Int)<(mid:Int):=by have h:=HZ.out.al;omega
        have d5:(mid:Int)<(f:Int):=by have h:=HZ.out.al;omega
        have d6:(f:Int)<(b:Int):=by have h:=HZ.out.al;omega
        have EY1:Y1=[]:=TN z3;have HQ:=Yh4 z1 z2 z3 z4;have HE:=Lib.hid EY1;clear EY1;clear z1 z2 z3 z4;have G:Hid (Sr wr B0 g cap (p++(X1++(Y1++(X2++(Y2++r)))))/\Below B0 w wr):=⟨by have h:=H.p0;rw [HZ.out.row] at h;rw [HE.out] at h ⊢;simpa only [TR,Uo] using h,H.q1⟩;clear H;have G1:Hid (Sr wr B0 g cap (p++((X1++Y1)++(X2++(Y2++r))))/\List.Perm (X1++Y1) (X1++Y1)/\Up (X1++Y1)/\Below B0 w wr):=⟨by simpa only [TR] using G.p0,List.Perm.refl _,by rw [HE.out];simpa only [UA,Uo] using HZ.out.u1,G.q1⟩;clear G;go_wp2_with fail;refine (Ei (Z1:=(X1++Y1)) HZ.out HI.out G1.p0 G1.p1 (TP hB G1.q3.size) HQ.p1 HQ.q3).mono ?_;rintro e w4 ⟨rfl,Z2,g1,g2,g3,g4⟩;have G2:=Lib.hid (Be HZ.out g1 G1.p1 G1.p2 g2 g3 (G1.q3.trans g4));clear g1 g2 g3 g4 G1;go_wp2_with fail;go_end0;exact ⟨rfl,G2.out⟩
      ·
       rcases TQ Y2.length with z4 | z4
       ·
        have d1:(s:Int)<(m:Int):=by have h:=HZ.out.al;omega
        have d2:(m:Int)<(f:Int):=by have h:=HZ.out.al;omega
        have d3:(a:Int)<(s:Int):=by have h:=HZ.out.al;omega
        have d4:(s:Int)<(mid:Int):=by have h:=HZ.out.al;omega
        have d5:(mid:Int)<(f:Int):=by have h:=HZ.out.al;omega
        have d6:¬ (f:Int)<(b:Int):=by have h:=HZ.out.al;omega
        have EY2:Y2=[]:=TN z4;have HQ:=Yh4 z1 z2 z3 z4;have HE:=Lib.hid EY2;clear EY2;clear z1 z2 z3 z4;go_wp2_with fail;refine (FX HZ.out H.p0 (TP hB H.q1.size) h40 HQ.p1 HQ.p2).mono ?_;rintro e w2 ⟨rfl,g1,g2⟩;have G:=Yh2 g1 (H.q1.trans g2);clear g1 g2 H;go_wp2_with fail;refine (FH HZ.out HI.out G.p0 (TP hB G.q1.size) HQ.p0 HQ.p2).mono ?_;rintro e w3 ⟨rfl,Z1,g1,g2,g3,g4⟩;have G1:=Yh4 g1 g2 g3 (G.q1.trans g4);clear g1 g2 g3 g4 G;have G2:=Lib.hid (Be (Z2:=X2++Y2) HZ.out (by simpa only [TR] using G1.p0) G1.p1 G1.p2 (List.Perm.refl _) (by rw [HE.out];simpa only [UA,Uo] using HZ.out.u2) G1.q3);clear G1;go_wp2_with fail;go_end0;exact ⟨rfl,G2.out⟩
       ·
        have d1:(s:Int)<(m:Int):=by have h:=HZ.out.al;omega
        have d2:(m:Int)<(f:Int):=by have h:=HZ.out.al;omega
        have d3:(a:Int)<(s:Int):=by have h:=HZ.out.al;omega
        have d4:(s:Int)<(mid:Int):=by have h:=HZ.out.al;omega
        have d5:(mid:Int)<(f:Int):=by have h:=HZ.out.al;omega
        have d6:(f:Int)<(b:Int):=by have h:=HZ.out.al;omega
        have HQ:=Yh4 z1 z2 z3 z4;clear z1 z2 z3 z4;go_wp2_with fail;refine (FX HZ.out H.p0 (TP hB H.q1.size) h40 HQ.p1 HQ.p2).mono ?_;rintro e w2 ⟨rfl,g1,g2⟩;have G:=Yh2 g1 (H.q1.trans g2);clear g1 g2 H;go_wp2_with fail;refine (FH HZ.out HI.out G.p0 (TP hB G.q1.size) HQ.p0 HQ.p2).mono ?_;rintro e w3 ⟨rfl,Z1,g1,g2,g3,g4⟩;have G1:=Yh4 g1 g2 g3 (G.q1.trans g4);clear g1 g2 g3 g4 G;go_wp2_with fail;refine (Ei (Z1:=Z1) HZ.out HI.out G1.p0 G1.p1 (TP hB G1.q3.size) HQ.p1 HQ.q3).mono ?_;rintro e w4 ⟨rfl,Z2,g1,g2,g3,g4⟩;have G2:=Lib.hid (Be HZ.out g1 G1.p1 G1.p2 g2 g3 (G1.q3.trans g4));clear g1 g2 g3 g4 G1;go_wp2_with fail;go_end0;exact ⟨rfl,G2.out⟩
theorem JZ {w:World} {B0 g cap n N a m b mid:Nat} {p X Y r:List Tm} (IH:EX B0 g cap n N) (hN:b - a<=N+1) (h:Sr w B0 g cap (p++(X++(Y++r)))) (hn:(p++(X++(Y++r))).length=n) (ha:p.length=a) (hm:a+X.length=m) (hb:m+Y.length=b) (hX:Up X) (hY:Up Y)
 (h2:2<=X.length) (h3:2<=Y.length) (hB:B0<=w.heap.size) (h40:n<=1099511627776) (hmid:(a+b) / 2=mid) (hmm:m<=mid):
 Calls Tryz.prog 256 #[.slice (some ⟨g,0,none⟩) n cap,.int .i64 (a:Int),.int .i64 (m:Int),.int .i64 (b:Int),.func (.func 183) #[] #[]] w fun e w'=>e=.returned (.tuple #[])/\Fp w B0 g cap p X Y r w':=by
 have hlen:n=b+r.length:=by rw [<- hn];simp;omega
 have hbn:b<=n:=Yo;obtain ⟨ys,hys⟩:∃ ys,p++(X++(Y++r))=ys:=⟨_,rfl⟩;have hyn:ys.length=n:=by rw [<- hys];exact hn
 rw [hys] at h;obtain ⟨dm,hdm⟩:∃ d,m - a=d:=⟨_,rfl⟩;obtain ⟨db,hdb⟩:∃ d,b - m=d:=⟨_,rfl⟩;obtain ⟨nn,hnn⟩:∃ d,mid+m=d:=⟨_,rfl⟩;have e0:IntKind.i64.wrap ((m:Int) - (a:Int))=(dm:Int):=by rw [IntKind.wrap_i64];omega
 have e01:((dm:Int)==1)=false:=beq_eq_false_iff_ne.2 Yo;have e02:IntKind.i64.wrap ((b:Int) - (m:Int))=(db:Int):=by rw [IntKind.wrap_i64];omega
 have e03:((db:Int)==1)=false:=beq_eq_false_iff_ne.2 Yo;have e04:((a:Int)+(b:Int)) / 2=(mid:Int):=Yo;have e05:IntKind.i64.wrap ((mid:Int)+(m:Int))=(nn:Int):=by rw [IntKind.wrap_i64];omega
 have e06:IntKind.i64.wrap ((nn:Int) - 1)=((nn - 1:Nat):Int):=by rw [IntKind.wrap_i64];omega
 obtain ⟨pp,hpp⟩:∃ d,nn - 1=d:=⟨_,rfl⟩;rw [hpp] at e06;have ham:a+2<=m:=Yo;have hmb:m+2<=b:=Yo;have hmn:mid<=n:=Yo;have hnn2:nn<=n+n:=Yo;have d00:¬ (mid:Int)<(m:Int):=Yo;have HL:Hid (GE a m b mid a m):=.inr ⟨hmm,rfl,rfl⟩;have HS:=JY h (Below.refl B0 w) hys.symm ha hm hb hX hY hyn hmid hN;have HI:=Lib.hid IH;have HD:=Yh2 hnn hpp;clear IH hN h hn ha hm hb hX hY h2 h3 hlen hys hyn hdm hdb hnn hpp hmid hmm;go_enter Tryz.func256,Tryz.ntmps256;go_wp2_with fail;clear e0 e01 e02 e03 e04 e05 e06 d00
 go_loopw [20,21] (fun z1 z2 wr=>∃ (s t:Nat),z1=.int .i64 (s:Int)/\z2=.int .i64 (t:Int)/\a<=s/\s<=t/\t<=m/\
  Hid ((Sr wr B0 g cap ys/\Below B0 w wr)/\(s=a∨∃ x y,ys[s - 1]?=some x/\ys[mid+m - s]?=some y/\x.c<=y.c)/\(t=m∨∃ x y,ys[t]?=some x/\ys[mid+m - 1 - t]?=some y/\y.c<=x.c))) (fun z1 z2 _=>(intOf z2).toNat - (intOf z1).toNat)
 case atStart=>exact ⟨a,m,rfl,rfl,TL _,(Ls HL.out HS.p9 Yo Yo).1,TL _,⟨HS.p0,HS.p1⟩,.inl rfl,.inl rfl⟩
 case round=>
  obtain ⟨s,t,rfl,rfl,h1,h2,h3,H0⟩:=hrel;have H:=Lib.hid H0.p0;have HI2:=Lib.hid H0.q1;clear H0;by_cases hlt:s<t
  · have d0:(s:Int)<(t:Int):=by omega
    obtain ⟨q,hq⟩:∃ q,(s+t) / 2=q:=⟨_,rfl⟩;have d1:((s:Int)+(t:Int)) / 2=(q:Int):=Yo;have hq2:q<t:=Yo;have hq3:s<=q:=Yo;obtain ⟨k1,k2,k3,k4⟩:=LB (q:=q) HL.out HS.p9 Yo Yo Yo Yo;obtain ⟨u,hu⟩:∃ u,pp - q=u:=⟨_,rfl⟩;have hu2:mid+m - 1 - q=u:=by have:=HD.out;omega
    have d2:(q:Int)<(n:Int):=Yo;have d3:(u:Int)<(n:Int):=Yo;have d4:IntKind.i64.wrap ((pp:Int) - (q:Int))=(u:Int):=by have:=HD.out;rw [IntKind.wrap_i64];omega
    have hyn:=HS.p8;obtain ⟨x,hx⟩:∃ x,ys[u]?=some x:=⟨_,List.getElem?_eq_getElem Yo⟩;obtain ⟨y,hy⟩:∃ y,ys[q]?=some y:=⟨_,List.getElem?_eq_getElem Yo⟩;have HX:=Yh2 hx hy;have HU:=Lib.hid hu2;clear hx hy hq k1 k2 k3 k4 hu hu2 hyn;have HEE:Hid ((Ec wr g (u*4) x)/\Ec wr g (q*4) y):=⟨(H.p0.at_ HX.p0).1,(H.p0.at_ HX.q1).1⟩;go_upto_region 35 with (fail)
    refine wp_region_held_drew (S:=(fun W=>W.cell? ⟨g,u*4,none⟩=some (.int .i64 x.c)/\W.cell? ⟨g,u*4+1,none⟩=some (.bool x.b)/\W.cell? ⟨g,u*4+2,none⟩=some (.slice x.A x.l x.k)/\W.cell? ⟨g,u*4+3,none⟩=some (.slice x.B x.m x.d)/\W.cell? ⟨g,q*4,none⟩=some (.int .i64 y.c)/\W.cell? ⟨g,q*4+1,none⟩=some (.bool y.b)/\W.cell? ⟨g,q*4+2,none⟩=some (.slice y.A y.l y.k)/\W.cell? ⟨g,q*4+3,none⟩=some (.slice y.B y.m y.d))) (by kernel_rfl) ⟨HEE.p0.1,HEE.p0.2.1,HEE.p0.2.2.1,HEE.p0.2.2.2,HEE.p1,HEE.p2,HEE.p3,HEE.q4⟩ (fun Hh=>?_);refine AL 11 [0,1,2,3,4,5,6,7,8,9,10] Hh fun K hK=>?_
    repeat refine rgA ?_
    refine hK _ _ ?_;clear hK K;have R0:=Yh2 (show Sr wr.drew B0 g cap _ from H.p0.keep (Ai _ 1)) (show Below B0 w wr.drew from Bg H.q1 hB (Ai _ 1));generalize wr.drew=Wd at R0 Hh ⊢;refine rgO 11 fun K hK=>?_;go_simp;by_cases hc:x.c<y.c
    ·
     go_at_call 183;refine (BM (r:=-1) x y _ (if_pos hc)).mono ?_;rintro e W2 ⟨rfl,hb⟩;have R:=Yh2 (R0.p0.keep hb) (Bg R0.q1 hB hb);have HC:=Lib.hid hc;have hEc:Hid (Ec W2 g (u*4) x/\Ec W2 g (q*4) y):=⟨((R0.p0.keep hb).at_ HX.p0).1,((R0.p0.keep hb).at_ HX.q1).1⟩;clear hb Hh hc;go_wp2_with fail;refine rgK hK ⟨hEc.p0.1,hEc.p0.2.1,hEc.p0.2.2.1,hEc.p0.2.2.2,hEc.p1,hEc.p2,hEc.p3,hEc.q4⟩ fun Hh=>?_;clear hK K;refine rgT 12 Hh ?_;refine rgT 13 Hh ?_;refine Yw ?_;clear Hh hEc HEE R0;go_wp2_with fail;have hu2:=HU.out
     case roundEnd=>exact ⟨⟨s,q,rfl,rfl,Yo,Yo,Yo,R.out,HI2.p0,.inr ⟨y,x,HX.q1,by rw [hu2];exact HX.p0,VO HC.out⟩⟩,by simp [intOf];omega⟩
    ·
     obtain ⟨rc,hr⟩:∃ r,Bp x.c y.c=r:=⟨_,rfl⟩;have hr0:¬ rc<0:=by rw [<- hr];unfold Bp;rw [if_neg hc];split<;>omega
     have hr1:decide (rc<0)=false:=decide_eq_false hr0;have hr2:(0:Int)<=rc:=Yo;go_at_call 183;refine (BM (r:=rc) x y _ hr).mono ?_;rintro e W2 ⟨rfl,hb⟩;have R:=Yh2 (R0.p0.keep hb) (Bg R0.q1 hB hb);have HC:=Lib.hid hc;have hEc:Hid (Ec W2 g (u*4) x/\Ec W2 g (q*4) y):=⟨((R0.p0.keep hb).at_ HX.p0).1,((R0.p0.keep hb).at_ HX.q1).1⟩;clear hb Hh hc hr;go_wp2_with fail;refine rgK hK ⟨hEc.p0.1,hEc.p0.2.1,hEc.p0.2.2.1,hEc.p0.2.2.2,hEc.p1,hEc.p2,hEc.p3,hEc.q4⟩ fun Hh=>?_;clear hK K;refine rgT 12 Hh ?_;refine rgT 13 Hh ?_;refine Yw ?_;clear Hh hEc HEE R0;go_wp2_with fail;have hu2:=HU.out;go_roundw
     case rel=>exact ⟨q+1,t,by go_num,rfl,Yo,Yo,Yo,R.out,.inr ⟨y,x,by rw [show q+1 - 1=q from by omega];exact HX.q1,by rw [show mid+m - (q+1)=u from by omega];exact HX.p0,by have:=HC.out;omega⟩,HI2.q1⟩
     case measure=>simp [intOf];omega
  · have d0:¬ (s:Int)<(t:Int):=by omega
    obtain rfl:s=t:=by omega
    obtain ⟨X1,X2,Y1,Y2,eX,eY,l1,l2,hle,q1,q2,q3,q4⟩:=Ib HS.p2 HS.p3 HS.p4 HS.p5 HS.p6 HS.p7 Yo Yo HL.out HS.p9 h1 h3 HI2.p0 HI2.q1;obtain ⟨f,hf⟩:∃ f,nn - s=f:=⟨_,rfl⟩;have hD:=HD.out;have e07:IntKind.i64.wrap ((nn:Int) - (s:Int))=(f:Int):=by rw [IntKind.wrap_i64];omega
    have hZ:Cy a m b mid s f n N p X1 X2 Y1 Y2 r ys:=Ht HS.p2 HS.p3 HS.p4 HS.p5 HS.p6 HS.p7 HS.p8 HS.p9 HS.q10 Yo Yo eX eY l1 l2 hle Yo q3;subst eX;subst eY;have HZ:=Lib.hid hZ;clear l1 l2 hle hf hD h1 h2 h3 hlt HI2 q1 q2 q3 q4 hZ HL HD HS;go_upto_region 39 with (fail)
    clear e07 d0
    rcases TQ X1.length with z1 | z1
    ·
     rcases TQ X2.length with z2 | z2
     ·
      rcases TQ Y1.length with z3 | z3
      ·
       rcases TQ Y2.length with z4 | z4
       ·
        exfalso;have h7:=HZ.out.am;have h8:=HZ.out.mb;have h:=HZ.out.al;omega
       ·
        exfalso;have h7:=HZ.out.am;have h8:=HZ.out.mb;have h:=HZ.out.al;omega
      ·
       rcases TQ Y2.length with z4 | z4
       ·
        exfalso;have h7:=HZ.out.am;have h8:=HZ.out.mb;have h:=HZ.out.al;omega
       ·
        exfalso;have h7:=HZ.out.am;have h8:=HZ.out.mb;have h:=HZ.out.al;omega
     ·
      rcases TQ Y1.length with z3 | z3
      ·
       rcases TQ Y2.length with z4 | z4
       ·
        exfalso;have h7:=HZ.out.am;have h8:=HZ.out.mb;have h:=HZ.out.al;omega
       ·
        exfalso;have h7:=HZ.out.am;have h8:=HZ.out.mb;have h:=HZ.out.al;omega
      ·
       rcases TQ Y2.length with z4 | z4
       ·
        have d1:(s:Int)<(m:Int):=by have h:=HZ.out.al;omega
        have d2:(m:Int)<(f:Int):=by have h:=HZ.out.al;omega
        have d3:¬ (a:Int)<(s:Int):=by have h:=HZ.out.al;omega
        have d4:(s:Int)<(mid:Int):=by have h:=HZ.out.al;omega
        have d5:(mid:Int)<(f:Int):=by have h:=HZ.out.al;omega
        have d6:¬ (f:Int)<(b:Int):=by have h:=HZ.out.al;omega
        have EX1:X1=[]:=TN z1;have EY2:Y2=[]:=TN z4;have HQ:=Yh4 z1 z2 z3 z4;have HE:=Yh2 EX1 EY2;clear EX1 EY2;clear z1 z2 z3 z4;go_wp2_with fail;refine (FX HZ.out H.p0 (TP hB H.q1.size) h40 HQ.p1 HQ.p2).mono ?_;rintro e w2 ⟨rfl,g1,g2⟩;have G:=Yh2 g1 (H.q1.trans g2);clear g1 g2 H;have G1:Hid (Sr w2 B0 g cap (p++((X1++Y1)++(X2++(Y2++r))))/\List.Perm (X1++Y1) (X1++Y1)/\Up (X1++Y1)/\Below B0 w w2):=⟨by simpa only [TR] using G.p0,List.Perm.refl _,by rw [HE.p0];simpa only [UA,Uo] using HZ.out.u3,G.q1⟩;clear G;have G2:=Lib.hid (Be (Z2:=X2++Y2) HZ.out (by simpa only [TR] using G1.p0) G1.p1 G1.p2 (List.Perm.refl _) (by rw [HE.q1];simpa only [UA,Uo] using HZ.out.u2) G1.q3);clear G1;go_wp2_with fail;go_end0;exact ⟨rfl,G2.out⟩
       ·
        have d1:(s:Int)<(m:Int):=by have h:=HZ.out.al;omega
        have d2:(m:Int)<(f:Int):=by have h:=HZ.out.al;omega
        have d3:¬ (a:Int)<(s:Int):=by have h:=HZ.out.al;omega
        have d4:(s:Int)<(mid:Int):=by have h:=HZ.out.al;omega
        have d5:(mid:Int)<(f:Int):=by have h:=HZ.out.al;omega
        have d6:(f:Int)<(b:Int):=by have h:=HZ.out.al;omega
        have EX1:X1=[]:=TN z1;have HQ:=Yh4 z1 z2 z3 z4;have HE:=Lib.hid EX1;clear EX1;clear z1 z2 z3 z4;go_wp2_with fail;refine (FX HZ.out H.p0 (TP hB H.q1.size) h40 HQ.p1 HQ.p2).mono ?_;rintro e w2 ⟨rfl,g1,g2⟩;have G:=Yh2 g1 (H.q1.trans g2);clear g1 g2 H;have G1:Hid (Sr w2 B0 g cap (p++((X1++Y1)++(X2++(Y2++r))))/\List.Perm (X1++Y1) (X1++Y1)/\Up (X1++Y1)/\Below B0 w w2):=⟨by simpa only [TR] using G.p0,List.Perm.refl _,by rw [HE.out];simpa only [UA,Uo] using HZ.out.u3,G.q1⟩;clear G;go_wp2_with fail;refine (Ei (Z1:=(X1++Y1)) HZ.out HI.out G1.p0 G1.p1 (TP hB G1.q3.size) HQ.p1 HQ.q3).mono ?_;rintro e w4 ⟨rfl,Z2,g1,g2,g3,g4⟩;have G2:=Lib.hid (Be HZ.out g1 G1.p1 G1.p2 g2 g3 (G1.q3.trans g4));clear g1 g2 g3 g4 G1;go_wp2_with fail;go_end0;exact ⟨rfl,G2.out⟩
    ·
     rcases TQ X2.length with z2 | z2
     ·
      rcases TQ Y1.length with z3 | z3
      ·
       rcases TQ Y2.length with z4 | z4
       ·
        exfalso;have h7:=HZ.out.am;have h8:=HZ.out.mb;have h:=HZ.out.al;omega
       ·
        have d1:¬ (s:Int)<(m:Int):=by have h:=HZ.out.al;omega
        have d2:¬ (m:Int)<(f:Int):=by have h:=HZ.out.al;omega
        have d3:(a:Int)<(s:Int):=by have h:=HZ.out.al;omega
        have d4:¬ (s:Int)<(mid:Int):=by have h:=HZ.out.al;omega
        have d5:¬ (mid:Int)<(f:Int):=by have h:=HZ.out.al;omega
        have d6:(f:Int)<(b:Int):=by have h:=HZ.out.al;omega
        have EX2:X2=[]:=TN z2;have EY1:Y1=[]:=TN z3;have HQ:=Yh4 z1 z2 z3 z4;have HE:=Yh2 EX2 EY1;clear EX2 EY1;clear z1 z2 z3 z4;have G:Hid (Sr wr B0 g cap (p++(X1++(Y1++(X2++(Y2++r)))))/\Below B0 w wr):=⟨by have h:=H.p0;rw [HZ.out.row] at h;rw [HE.p0] at h ⊢;simpa only [TR,Uo] using h,H.q1⟩;clear H;have G1:Hid (Sr wr B0 g cap (p++((X1++Y1)++(X2++(Y2++r))))/\List.Perm (X1++Y1) (X1++Y1)/\Up (X1++Y1)/\Below B0 w wr):=⟨by simpa only [TR] using G.p0,List.Perm.refl _,by rw [HE.q1];simpa only [UA,Uo] using HZ.out.u1,G.q1⟩;clear G;have G2:=Lib.hid (Be (Z2:=X2++Y2) HZ.out (by simpa only [TR] using G1.p0) G1.p1 G1.p2 (List.Perm.refl _) (by rw [HE.p0];simpa only [UA,Uo] using HZ.out.u4) G1.q3);clear G1;go_wp2_with fail;go_end0;exact ⟨rfl,G2.out⟩
      ·
       rcases TQ Y2.length with z4 | z4
       ·
        exfalso;have h7:=HZ.out.am;have h8:=HZ.out.mb;have h:=HZ.out.al;omega
       ·
        have d1:¬ (s:Int)<(m:Int):=by have h:=HZ.out.al;omega
        have d2:(m:Int)<(f:Int):=by have h:=HZ.out.al;omega
        have d3:(a:Int)<(s:Int):=by have h:=HZ.out.al;omega
        have d4:(s:Int)<(mid:Int):=by have h:=HZ.out.al;omega
        have d5:¬ (mid:Int)<(f:Int):=by have h:=HZ.out.al;omega
        have d6:(f:Int)<(b:Int):=by have h:=HZ.out.al;omega
        have EX2:X2=[]:=TN z2;have HQ:=Yh4 z1 z2 z3 z4;have HE:=Lib.hid EX2;clear EX2;clear z1 z2 z3 z4;have G:Hid (Sr wr B0 g cap (p++(X1++(Y1++(X2++(Y2++r)))))/\Below B0 w wr):=⟨by have h:=H.p0;rw [HZ.out.row] at h;rw [HE.out] at h ⊢;simpa only [TR,Uo] using h,H.q1⟩;clear H;go_wp2_with fail;refine (FH HZ.out HI.out G.p0 (TP hB G.q1.size) HQ.p0 HQ.p2).mono ?_;rintro e w3 ⟨rfl,Z1,g1,g2,g3,g4⟩;have G1:=Yh4 g1 g2 g3 (G.q1.trans g4);clear g1 g2 g3 g4 G;have G2:=Lib.hid (Be (Z2:=X2++Y2) HZ.out (by simpa only [TR] using G1.p0) G1.p1 G1.p2 (List.Perm.refl _) (by rw [HE.out];simpa only [UA,Uo] using HZ.out.u4) G1.q3);clear G1;go_wp2_with fail;go_end0;exact ⟨rfl,G2.out⟩
     ·
      rcases TQ Y1.length with z3 | z3
      ·
       rcases TQ Y2.length with z4 | z4
       ·
        exfalso;have h7:=HZ.out.am;have h8:=HZ.out.mb;have h:=HZ.out.al;omega
       ·
        have d1:(s:Int)<(m:Int):=by have h:=HZ.out.al;omega
        have d2:¬ (m:Int)<(f:Int):=by have h:=HZ.out.al;omega
        have d3:(a:Int)<(s:Int):=by have h:=HZ.out.al;omega
        have d4:¬ (s:Int)<(mid:Int):=by have h:=HZ.out.al;omega
        have d5:(mid:Int)<(f:Int):=by have h:=HZ.out.al;omega
        have d6:(f:Int)<(b:Int):=by have h:=HZ.out.al;omega
        have EY1:Y1=[]:=TN z3;have HQ:=Yh4 z1 z2 z3 z4;have HE:=Lib.hid EY1;clear EY1;clear z1 z2 z3 z4;have G:Hid (Sr wr B0 g cap (p++(X1++(Y1++(X2++(Y2++r)))))/\Below B0 w wr):=⟨by have h:=H.p0;rw [HZ.out.row] at h;rw [HE.out] at h ⊢;simpa only [TR,Uo] using h,H.q1⟩;clear H;have G1:Hid (Sr wr B0 g cap (p++((X1++Y1)++(X2++(Y2++r))))/\List.Perm (X1++Y1) (X1++Y1)/\Up (X1++Y1)/\Below B0 w wr):=⟨by simpa only [TR] using G.p0,List.Perm.refl _,by rw [HE.out];simpa only [UA,Uo] using HZ.out.u1,G.q1⟩;clear G;go_wp2_with fail;refine (Ei (Z1:=(X1++Y1)) HZ.out HI.out G1.p0 G1.p1 (TP hB G1.q3.size) HQ.p1 HQ.q3).mono ?_;rintro e w4 ⟨rfl,Z2,g1,g2,g3,g4⟩;have G2:=Lib.hid (Be HZ.out g1 G1.p1 G1.p2 g2 g3 (G1.q3.trans g4));clear g1 g2 g3 g4 G1;go_wp2_with fail;go_end0;exact ⟨rfl,G2.out⟩
      ·
       rcases TQ Y2.length with z4 | z4
       ·
        have d1:(s:Int)<(m:Int):=by have h:=HZ.out.al;omega
        have d2:(m:Int)<(f:Int):=by have h:=HZ.out.al;omega
        have d3:(a:Int)<(s:Int):=by have h:=HZ.out.al;omega
        have d4:(s:Int)<(mid:Int):=by have h:=HZ.out.al;omega
        have d5:(mid:Int)<(f:Int):=by have h:=HZ.out.al;omega
        have d6:¬ (f:Int)<(b:Int):=by have h:=HZ.out.al;omega
        have EY2:Y2=[]:=TN z4;have HQ:=Yh4 z1 z2 z3 z4;have HE:=Lib.hid EY2;clear EY2;clear z1 z2 z3 z4;go_wp2_with fail;refine (FX HZ.out H.p0 (TP hB H.q1.size) h40 HQ.p1 HQ.p2).mono ?_;rintro e w2 ⟨rfl,g1,g2⟩;have G:=Yh2 g1 (H.q1.trans g2);clear g1 g2 H;go_wp2_with fail;refine (FH HZ.out HI.out G.p0 (TP hB G.q1.size) HQ.p0 HQ.p2).mono ?_;rintro e w3 ⟨rfl,Z1,g1,g2,g3,g4⟩;have G1:=Yh4 g1 g2 g3 (G.q1.trans g4);clear g1 g2 g3 g4 G;have G2:=Lib.hid (Be (Z2:=X2++Y2) HZ.out (by simpa only [TR] using G1.p0) G1.p1 G1.p2 (List.Perm.refl _) (by rw [HE.out];simpa only [UA,Uo] using HZ.out.u2) G1.q3);clear G1;go_wp2_with fail;go_end0;exact ⟨rfl,G2.out⟩
       ·
        have d1:(s:Int)<(m:Int):=by have h:=HZ.out.al;omega
        have d2:(m:Int)<(f:Int):=by have h:=HZ.out.al;omega
        have d3:(a:Int)<(s:Int):=by have h:=HZ.out.al;omega
        have d4:(s:Int)<(mid:Int):=by have h:=HZ.out.al;omega
        have d5:(mid:Int)<(f:Int):=by have h:=HZ.out.al;omega
        have d6:(f:Int)<(b:Int):=by have h:=HZ.out.al;omega
        have HQ:=Yh4 z1 z2 z3 z4;clear z1 z2 z3 z4;go_wp2_with fail;refine (FX HZ.out H.p0 (TP hB H.q1.size) h40 HQ.p1 HQ.p2).mono ?_;rintro e w2 ⟨rfl,g1,g2⟩;have G:=Yh2 g1 (H.q1.trans g2);clear g1 g2 H;go_wp2_with fail;refine (FH HZ.out HI.out G.p0 (TP hB G.q1.size) HQ.p0 HQ.p2).mono ?_;rintro e w3 ⟨rfl,Z1,g1,g2,g3,g4⟩;have G1:=Yh4 g1 g2 g3 (G.q1.trans g4);clear g1 g2 g3 g4 G;go_wp2_with fail;refine (Ei (Z1:=Z1) HZ.out HI.out G1.p0 G1.p1 (TP hB G1.q3.size) HQ.p1 HQ.q3).mono ?_;rintro e w4 ⟨rfl,Z2,g1,g2,g3,g4⟩;have G2:=Lib.hid (Be HZ.out g1 G1.p1 G1.p2 g2 g3 (G1.q3.trans g4));clear g1 g2 g3 g4 G1;go_wp2_with fail;go_end0;exact ⟨rfl,G2.out⟩
theorem TG (B0 g cap n:Nat) (h40:n<=1099511627776):∀ N,EX B0 g cap n N:=by
 intro N
 induction N with
 | zero=>
  intro w p X Y r a m b hN h hn ha hm hb h1 h2 hX hY hB;omega
 | succ N ih=>
  intro w p X Y r a m b hN h hn ha hm hb h1 h2 hX hY hB;by_cases c1:X.length=1
  · obtain ⟨y,rfl⟩:=List.length_eq_one_iff.1 c1;exact Qt h hn ha (by simpa using hm) hb hY hB h40
  · by_cases c2:Y.length=1
    · obtain ⟨y,rfl⟩:=List.length_eq_one_iff.1 c2;exact Oa h hn ha hm (by simpa using hb) hX Yo hB h40
    · rcases Ul ((a+b) / 2) m with c | c
      · exact Ji ih hN h hn ha hm hb hX hY Yo Yo hB h40 rfl c
      · exact JZ ih hN h hn ha hm hb hX hY Yo Yo hB h40 rfl c
end
end Go.Proofs.YtlblnmmfphiobaaGreat
