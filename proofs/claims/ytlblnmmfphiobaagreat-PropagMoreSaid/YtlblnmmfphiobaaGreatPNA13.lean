import Derived.Test.YtlblnmmfphiobaaGreatPNA12
set_option maxRecDepth 100000
set_option maxHeartbeats 8000000
set_option linter.unusedVariables false
set_option linter.unusedSimpArgs false
namespace Go.Proofs.YtlblnmmfphiobaaGreat
section
open Go Go.RowKit Go.Proofs Pl
def Fp (w:World) (B0 g cap:Nat) (p X Y r:List Tm) (w':World):Prop:=∃ Z,Sr w' B0 g cap (p++(Z++r))/\Z.Perm (X++Y)/\Up Z/\Below B0 w w'
theorem Lt {α:Type} {p X q:List α} {i k:Nat} (hi:p.length+k=i) (hk:k<X.length):(p++(X++q))[i]?=some X[k]:=by
 rw [List.getElem?_append_right (by omega),show i - p.length=k from by omega,List.getElem?_append_left hk,List.getElem?_eq_getElem hk]
theorem RM {Y:List Tm} {y:Tm} {k:Nat} (hY:Up Y) (h1:∀ q x,q<k->Y[q]?=some x->x.c<y.c) (h2:∀ q x,k<=q->Y[q]?=some x->y.c<=x.c):Up (Y.take k++y::Y.drop k)/\(Y.take k++y::Y.drop k).Perm ([y]++Y):=by
 refine ⟨?_,?_⟩
 · have ht:∀ z∈Y.take k,z.c<y.c:=fun z hz=>by
    obtain ⟨q,hq,e⟩:=Vb hz;rw [TU] at hq;rw [VJ] at e;exact h1 q z Yo (by rw [List.getElem?_eq_getElem (by omega),e])
   have hd:∀ z∈Y.drop k,y.c<=z.c:=fun z hz=>by
    obtain ⟨q,hq,e⟩:=Vb hz;rw [UJ] at hq;rw [VB] at e;exact h2 (k+q) z Yo (by rw [List.getElem?_eq_getElem (by omega),e])
   have hs:Up (Y.take k++Y.drop k):=by rw [Us];exact hY
   unfold Up at hs ⊢;rw [UW] at hs ⊢;refine ⟨hs.1,List.Pairwise.cons hd hs.2.1,fun z hz t ht2=>?_⟩
   rcases Ue.1 ht2 with rfl | ht2
   · exact VO (ht z hz)
   · exact Int.le_trans (VO (ht z hz)) (hd t ht2)
 · have:=List.perm_middle (a:=y) (l₁:=Y.take k) (l₂:=Y.drop k)
   rwa [Us] at this
theorem Qa {X:List Tm} {y:Tm} {k:Nat} (hX:Up X) (h1:∀ q x,q<k->X[q]?=some x->x.c<=y.c) (h2:∀ q x,k<=q->X[q]?=some x->y.c<x.c):Up (X.take k++y::X.drop k)/\(X.take k++y::X.drop k).Perm (X++[y]):=by
 refine ⟨?_,?_⟩
 · have ht:∀ z∈X.take k,z.c<=y.c:=fun z hz=>by
    obtain ⟨q,hq,e⟩:=Vb hz;rw [TU] at hq;rw [VJ] at e;exact h1 q z Yo (by rw [List.getElem?_eq_getElem (by omega),e])
   have hd:∀ z∈X.drop k,y.c<z.c:=fun z hz=>by
    obtain ⟨q,hq,e⟩:=Vb hz;rw [UJ] at hq;rw [VB] at e;exact h2 (k+q) z Yo (by rw [List.getElem?_eq_getElem (by omega),e])
   have hs:Up (X.take k++X.drop k):=by rw [Us];exact hX
   unfold Up at hs ⊢;rw [UW] at hs ⊢;refine ⟨hs.1,List.Pairwise.cons (fun z hz=>VO (hd z hz)) hs.2.1,fun z hz t ht2=>?_⟩
   rcases Ue.1 ht2 with rfl | ht2
   · exact ht z hz
   · exact Int.le_trans (ht z hz) (VO (hd t ht2))
 · have:=List.perm_middle (a:=y) (l₁:=X.take k) (l₂:=X.drop k);rw [Us] at this;exact this.trans (List.perm_append_singleton y X).symm
theorem Nx {p Y r:List Tm} {y:Tm} {k j:Nat} (hk:k<Y.length) (hj:p.length+k=j):∃ x,(p++(Y.take k++y::(Y.drop k++r)))[j]?=some y/\(p++(Y.take k++y::(Y.drop k++r)))[j+1]?=some x/\
 ((p++(Y.take k++y::(Y.drop k++r))).set j x).set (j+1) y=p++(Y.take (k+1)++y::(Y.drop (k+1)++r)):=by
 have e0:p++(Y.take k++y::(Y.drop k++r))=(p++Y.take k)++y::([]++Y[k]::(Y.drop (k+1)++r)):=by
  rw [(VA hk).symm];simp only [TR,Vl,Uo]
 have e1:p++(Y.take (k+1)++y::(Y.drop (k+1)++r))=(p++Y.take k)++Y[k]::([]++y::(Y.drop (k+1)++r)):=by
  rw [Uc hk];simp only [TR,Vl,Uo]
 obtain ⟨a,b,c⟩:=LQ (p++Y.take k) [] (Y.drop (k+1)++r) y Y[k] (i:=j) (j:=j+1) (by simp [TU];omega) (by simp [TU];omega);exact ⟨Y[k],by rw [e0];exact a,by rw [e0];exact b,by rw [e0,e1];exact c⟩
theorem Mi {p X r:List Tm} {y:Tm} {k j:Nat} (hk:k<X.length) (hj:p.length+k=j):∃ x,(p++(X.take (k+1)++y::(X.drop (k+1)++r)))[j+1]?=some y/\(p++(X.take (k+1)++y::(X.drop (k+1)++r)))[j]?=some x/\
 ((p++(X.take (k+1)++y::(X.drop (k+1)++r))).set (j+1) x).set j y=p++(X.take k++y::(X.drop k++r)):=by
 have e0:p++(X.take k++y::(X.drop k++r))=(p++X.take k)++y::X[k]::(X.drop (k+1)++r):=by
  rw [(VA hk).symm];simp only [TR,Vl]
 have e1:p++(X.take (k+1)++y::(X.drop (k+1)++r))=(p++X.take k)++X[k]::y::(X.drop (k+1)++r):=by
  rw [Uc hk];simp only [TR,Vl,Uo]
 obtain ⟨a,b,c⟩:=Ox (p++X.take k) (X.drop (k+1)++r) y X[k] (i:=j) (j:=j+1) (by simp [TU];omega) rfl;exact ⟨X[k],by rw [e1];exact a,by rw [e1];exact b,by rw [e0,e1];exact c⟩
theorem Qt {w:World} {B0 g cap n a m b:Nat} {p Y r:List Tm} {y:Tm} (h:Sr w B0 g cap (p++([y]++(Y++r)))) (hn:(p++([y]++(Y++r))).length=n) (ha:p.length=a) (hm:a+1=m) (hb:m+Y.length=b) (hY:Up Y)
 (hB:B0<=w.heap.size) (h40:n<=1099511627776):
 Calls Tryz.prog 256 #[.slice (some ⟨g,0,none⟩) n cap,.int .i64 (a:Int),.int .i64 (m:Int),.int .i64 (b:Int),.func (.func 183) #[] #[]] w fun e w'=>e=.returned (.tuple #[])/\Fp w B0 g cap p [y] Y r w':=by
 have hlen:n=m+Y.length+r.length:=by rw [<- hn];simp;omega
 have hbn:b<=n:=Yo;obtain ⟨ys,hys⟩:∃ ys,p++([y]++(Y++r))=ys:=⟨_,rfl⟩
 have hget:∀ q,m<=q->q<b->∃ x,ys[q]?=some x/\Y[q - m]?=some x:=fun q h1 h2=>by
  have hk:q - m<Y.length:=Yo;refine ⟨Y[q - m],?_,List.getElem?_eq_getElem hk⟩;rw [<- hys,show p++([y]++(Y++r))=(p++[y])++(Y++r) from by simp];exact Lt (by simp;omega) hk
 have hy0:ys[a]?=some y:=by rw [<- hys,List.getElem?_append_right (by omega),ha];simp
 have hys0:ys=p++(Y.take 0++y::(Y.drop 0++r)):=by rw [<- hys];simp
 rw [hys] at h;have HS:=Yh9 h (Below.refl B0 w) hget hy0 hlen ha hY hys0 hb;have e0:IntKind.i64.wrap ((m:Int) - (a:Int))=1:=by rw [IntKind.wrap_i64];omega
 have hmb:m<=b:=Yo;have hma:a+1=m:=hm;have han:(a:Int)<(n:Int):=Yo;clear h hn ha hm hb hY hlen hget hy0 hys hys0;go_enter Tryz.func256,Tryz.ntmps256;go_wp2_with fail;clear e0
 go_loopw [10,11] (fun z1 z2 wr=>∃ (i j:Nat),z1=.int .i64 (i:Int)/\z2=.int .i64 (j:Int)/\m<=i/\i<=j/\j<=b/\
  Hid ((Sr wr B0 g cap ys/\Below B0 w wr)/\(∀ q x,q<i - m->Y[q]?=some x->x.c<y.c)/\(∀ q x,j - m<=q->Y[q]?=some x->y.c<=x.c))) (fun z1 z2 _=>(intOf z2).toNat - (intOf z1).toNat)
 case atStart=>
  refine ⟨m,b,rfl,rfl,TL _,hmb,TL _,⟨HS.p0,HS.p1⟩,fun q x hq _=>by omega,fun q x hq hx=>?_⟩;have:=(List.getElem?_eq_some_iff.1 hx).1;have:=HS.q8;omega
 case round=>
  obtain ⟨i,j,rfl,rfl,hmi,hij,hjb,H0⟩:=hrel;have H:=Lib.hid H0.p0;have HI:=Lib.hid H0.q1;clear H0;by_cases hlt:i<j
  · have d0:(i:Int)<(j:Int):=by omega
    obtain ⟨q,hq⟩:∃ q,(i+j) / 2=q:=⟨_,rfl⟩;have d1:((i:Int)+(j:Int)) / 2=(q:Int):=Yo;have hq1:m<=q:=Yo;have hq2:q<j:=Yo;have hq3:i<=q:=Yo;have d2:(q:Int)<(n:Int):=Yo;obtain ⟨x,hx,hxY⟩:=HS.p2 q hq1 Yo;have HX:=Yh2 hx HS.p3;have HY:=Lib.hid hxY;clear hx hxY hq;have HEE:Hid ((Ec wr g (q*4) x)/\Ec wr g (a*4) y):=⟨(H.p0.at_ HX.p0).1,(H.p0.at_ HX.q1).1⟩;go_upto_region 5 with (fail)
    refine wp_region_held_drew (S:=(fun W=>W.cell? ⟨g,q*4,none⟩=some (.int .i64 x.c)/\W.cell? ⟨g,q*4+1,none⟩=some (.bool x.b)/\W.cell? ⟨g,q*4+2,none⟩=some (.slice x.A x.l x.k)/\W.cell? ⟨g,q*4+3,none⟩=some (.slice x.B x.m x.d)/\W.cell? ⟨g,a*4,none⟩=some (.int .i64 y.c)/\W.cell? ⟨g,a*4+1,none⟩=some (.bool y.b)/\W.cell? ⟨g,a*4+2,none⟩=some (.slice y.A y.l y.k)/\W.cell? ⟨g,a*4+3,none⟩=some (.slice y.B y.m y.d))) (by kernel_rfl) ⟨HEE.p0.1,HEE.p0.2.1,HEE.p0.2.2.1,HEE.p0.2.2.2,HEE.p1,HEE.p2,HEE.p3,HEE.q4⟩ (fun Hh=>?_);refine AL 9 [0,1,2,3,4,5,6,7,8] Hh fun K hK=>?_
    repeat refine rgA ?_
    refine hK _ _ ?_;clear hK K;have R0:=Yh2 (show Sr wr.drew B0 g cap _ from H.p0.keep (Ai _ 1)) (show Below B0 w wr.drew from Bg H.q1 hB (Ai _ 1));generalize wr.drew=Wd at R0 Hh ⊢;refine rgO 9 fun K hK=>?_;go_simp;by_cases hc:x.c<y.c
    ·
     go_at_call 183;refine (BM (r:=-1) x y _ (if_pos hc)).mono ?_;rintro e W2 ⟨rfl,hb⟩;have R:=Yh2 (R0.p0.keep hb) (Bg R0.q1 hB hb);have HC:=Lib.hid hc;have hEc:Hid (Ec W2 g (q*4) x/\Ec W2 g (a*4) y):=⟨((R0.p0.keep hb).at_ HX.p0).1,((R0.p0.keep hb).at_ HX.q1).1⟩;clear hb Hh hc;go_wp2_with fail;refine rgK hK ⟨hEc.p0.1,hEc.p0.2.1,hEc.p0.2.2.1,hEc.p0.2.2.2,hEc.p1,hEc.p2,hEc.p3,hEc.q4⟩ fun Hh=>?_;clear hK K;refine rgT 10 Hh ?_;refine Yw ?_;clear Hh hEc HEE R0;go_wp2_with fail;go_roundw
     case rel=>
      refine ⟨q+1,j,by go_num,rfl,Yo,Yo,hjb,R.out,fun q2 x2 h1 h2=>?_,HI.q1⟩;by_cases e:q2=q - m
      · subst e;rw [HY.out] at h2;injection h2 with h2;subst h2;exact HC.out
      · by_cases h3:q2<i - m
        · exact HI.p0 q2 x2 h3 h2
        · have h4:=HS.p6;obtain ⟨l1,e1⟩:=List.getElem?_eq_some_iff.1 h2;obtain ⟨l2,e2⟩:=List.getElem?_eq_some_iff.1 HY.out;have:=(UV.1 h4) q2 (q - m) l1 l2 Yo;rw [e1,e2] at this;have:=HC.out;omega
     case measure=>simp [intOf];omega
    ·
     obtain ⟨rc,hr⟩:∃ r,Bp x.c y.c=r:=⟨_,rfl⟩;have hr0:¬ rc<0:=by rw [<- hr];unfold Bp;rw [if_neg hc];split<;>omega
     have hr1:decide (rc<0)=false:=decide_eq_false hr0;have hr2:(0:Int)<=rc:=Yo;go_at_call 183;refine (BM (r:=rc) x y _ hr).mono ?_;rintro e W2 ⟨rfl,hb⟩;have R:=Yh2 (R0.p0.keep hb) (Bg R0.q1 hB hb);have HC:=Lib.hid hc;have hEc:Hid (Ec W2 g (q*4) x/\Ec W2 g (a*4) y):=⟨((R0.p0.keep hb).at_ HX.p0).1,((R0.p0.keep hb).at_ HX.q1).1⟩;clear hb Hh hc hr;go_wp2_with fail;refine rgK hK ⟨hEc.p0.1,hEc.p0.2.1,hEc.p0.2.2.1,hEc.p0.2.2.2,hEc.p1,hEc.p2,hEc.p3,hEc.q4⟩ fun Hh=>?_;clear hK K;refine rgT 10 Hh ?_;refine Yw ?_;clear Hh hEc HEE R0;go_wp2_with fail;go_roundw
     case rel=>
      refine ⟨i,q,rfl,by first | rfl | go_num,Yo,Yo,Yo,R.out,HI.p0,fun q2 x2 h1 h2=>?_⟩;have h4:=HS.p6;obtain ⟨l1,e1⟩:=List.getElem?_eq_some_iff.1 h2;obtain ⟨l2,e2⟩:=List.getElem?_eq_some_iff.1 HY.out;by_cases e:q2=q - m
      · subst e;rw [HY.out] at h2;injection h2 with h2;subst h2;have:=HC.out;omega
      · have:=(UV.1 h4) (q - m) q2 l2 l1 Yo;rw [e1,e2] at this;have:=HC.out;omega
     case measure=>simp [intOf];omega
  · have d0:¬ (i:Int)<(j:Int):=by omega
    obtain rfl:i=j:=by omega
    have hf:=RM (k:=i - m) HS.p6 HI.p0 HI.q1;have HF:=Lib.hid hf;have di:IntKind.i64.wrap ((i:Int) - 1)=((i - 1:Nat):Int):=by rw [IntKind.wrap_i64];omega
    obtain ⟨i1,hi1⟩:∃ k,i - 1=k:=⟨_,rfl⟩;rw [hi1] at di;have ha1:a<=i1:=Yo;have him:i - m=i1 - a:=Yo;rw [him] at HF;have hib:i1<b:=Yo;clear hf HI hi1 him hmi hij hjb hlt;go_wp2_with fail;go_loopw [13] (fun z1 wr=>∃ k:Nat,z1=.int .i64 (k:Int)/\a<=k/\k<=i1/\Hid (Sr wr B0 g cap (p++(Y.take (k - a)++y::(Y.drop (k - a)++r)))/\Below B0 w wr)) (fun z1 _=>i1 - (intOf z1).toNat)
    case atStart=>exact ⟨a,rfl,TL _,ha1,by rw [VM,<- HS.p7];exact H.p0,H.q1⟩
    case round=>
     clear H;obtain ⟨k,rfl,hak,hki,H⟩:=hrel;by_cases hlt:k<i1
     · have hkY:k - a<Y.length:=by have:=HS.out;omega
       obtain ⟨x0,h1,h2,h3⟩:=Nx (p:=p) (r:=r) (y:=y) hkY (j:=k) (by have:=HS.out;omega);obtain ⟨k1,hk1⟩:∃ k1,k+1=k1:=⟨_,rfl⟩;rw [hk1] at h2 h3;have e1:k - a+1=k1 - a:=Yo;rw [e1] at h3;obtain ⟨x,hx⟩:∃ x,x=y:=⟨_,rfl⟩;obtain ⟨y',hy'⟩:∃ y',y'=x0:=⟨_,rfl⟩;obtain ⟨zs,hzs⟩:∃ zs,p++(Y.take (k - a)++y::(Y.drop (k - a)++r))=zs:=⟨_,rfl⟩;obtain ⟨zt,hzt⟩:∃ zt,p++(Y.take (k1 - a)++y::(Y.drop (k1 - a)++r))=zt:=⟨_,rfl⟩;rw [hzs] at H h1 h2 h3;rw [hzt] at h3;rw [<- hx,<- hy'] at h3;rw [<- hx] at h1;rw [<- hy'] at h2;have HX:=Yh2 h1 h2;have HJK:=Yh2 (show k≠k1 by omega) (H.p0.at_ h1).2.1;have hST:=Yh3 h3 hzt hx;have d5:(k:Int)<(i1:Int):=Yo;have d6:IntKind.i64.wrap ((k:Int)+1)=(k1:Int):=by rw [IntKind.wrap_i64];omega
       have d7:(k:Int)<(n:Int):=Yo;have d8:(k1:Int)<(n:Int):=Yo;clear h1 h2 h3 hzs hzt e1 hkY hx hy';go_upto_region 11 with (fail)
       refine wp_region_held_drew (S:=fun _=>True) (by kernel_rfl) trivial (fun Hh=>?_);refine AL 12 [0,1,5,6,7,8,10,11,12,2,3,4] Hh fun K hK=>?_
       repeat refine rgA ?_
       refine hK _ _ ?_;clear hK K;have hE2:Hid (Sr wr.drew B0 g cap zs/\Below B0 w wr.drew):=⟨H.p0.keep (Ai _ 1),Bg H.q1 hB (Ai _ 1)⟩;generalize wr.drew=Wd at hE2 Hh ⊢
       have hfin:Hid (∀ W3,W3=((((Wd).setCell ⟨g,k*4,none⟩ (.int .i64 y'.c)).setCell ⟨g,k*4+1,none⟩ (.bool y'.b)).setCell ⟨g,k*4+2,none⟩ (.slice y'.A y'.l y'.k)).setCell ⟨g,k*4+3,none⟩ (.slice y'.B y'.m y'.d)->Sr W3 B0 g cap ((zs).set k y')/\Ec W3 g (k1*4) y'/\(∀ m,W3.frozen? ⟨g,m,none⟩=false)/\Below B0 w W3):=by
        rintro W3 rfl;have hjl:k<(zs).length:=(List.getElem?_eq_some_iff.1 HX.p0).1;have h1:=hE2.p0.put (j:=k) hjl y';have hk2:((zs).set k y')[k1]?=some y':=by rw [List.getElem?_set_ne HJK.p0];exact HX.q1
        exact ⟨h1,(h1.at_ hk2).1,(h1.at_ hk2).2.2.2,By hE2.q1 HJK.q1 _ _ _ _ _ _ _ _⟩
       have hgo:Hid (∀ W3,W3=((((Wd).setCell ⟨g,k*4,none⟩ (.int .i64 y'.c)).setCell ⟨g,k*4+1,none⟩ (.bool y'.b)).setCell ⟨g,k*4+2,none⟩ (.slice y'.A y'.l y'.k)).setCell ⟨g,k*4+3,none⟩ (.slice y'.B y'.m y'.d)->Sr (((((W3).setCell ⟨g,k1*4,none⟩ (.int .i64 x.c)).setCell ⟨g,k1*4+1,none⟩ (.bool x.b)).setCell ⟨g,k1*4+2,none⟩ (.slice x.A x.l x.k)).setCell ⟨g,k1*4+3,none⟩ (.slice x.B x.m x.d)) B0 g cap (((zs).set k y').set k1 x)/\Below B0 w (((((W3).setCell ⟨g,k1*4,none⟩ (.int .i64 x.c)).setCell ⟨g,k1*4+1,none⟩ (.bool x.b)).setCell ⟨g,k1*4+2,none⟩ (.slice x.A x.l x.k)).setCell ⟨g,k1*4+3,none⟩ (.slice x.B x.m x.d))):=by
        intro W3 e3;obtain ⟨h1,-,-,h2⟩:=hfin.out W3 e3;have hkl:k1<((zs).set k y').length:=by rw [Uh];exact (List.getElem?_eq_some_iff.1 HX.q1).1
        exact ⟨h1.put hkl x,By h2 HJK.q1 _ _ _ _ _ _ _ _⟩
       have hL:Ec Wd g (k*4) x/\Ec Wd g (k1*4) y'/\∀ m,Wd.frozen? ⟨g,m,none⟩=false:=⟨(hE2.p0.at_ HX.p0).1,(hE2.p0.at_ HX.q1).1,(hE2.p0.at_ HX.p0).2.2.2⟩;obtain ⟨⟨a0,a1,a2,a3⟩,⟨b0,b1,b2,b3⟩,hz⟩:=hL;have z0:=hz (k*4);have z1:=hz (k*4+1);have z2:=hz (k*4+2);have z3:=hz (k*4+3);clear hz;refine Br [9,13] (AX (fun K hK=>?_) (AX (fun K hK=>?_) CP))
       ·
        go_simp;refine rgK hK trivial fun Hh=>?_;clear hK K;refine rgO 13 fun K hK=>?_;go_simp;refine rgK hK trivial fun Hh=>?_;clear hK K;refine rgT 14 Hh ?_;refine rgO 15 fun K hK=>?_;go_simp;refine rgK hK trivial fun Hh=>?_;clear hK K;refine rgT 16 Hh ?_;obtain ⟨W3,e3⟩:∃ W3,W3=((((Wd).setCell ⟨g,k*4,none⟩ (.int .i64 y'.c)).setCell ⟨g,k*4+1,none⟩ (.bool y'.b)).setCell ⟨g,k*4+2,none⟩ (.slice y'.A y'.l y'.k)).setCell ⟨g,k*4+3,none⟩ (.slice y'.B y'.m y'.d):=⟨_,rfl⟩;obtain ⟨-,⟨g0,g1,g2,g3⟩,hz,-⟩:=hfin.out W3 e3;have y0:=hz (k1*4);have y1:=hz (k1*4+1);have y2:=hz (k1*4+2);have y3:=hz (k1*4+3);have hgo3:=Lib.hid (hgo.out W3 e3);rw [<- e3];clear hz e3 a0 a1 a2 a3 b0 b1 b2 b3 z0 z1 z2 z3;refine rgO 17 fun K hK=>?_;go_simp;refine rgK hK trivial fun Hh=>?_;clear hK K;refine Yw ?_;clear Hh g0 g1 g2 g3 y0 y1 y2 y3 hfin hgo hE2;clear d6 d7 d8;go_wp2_with fail;go_roundw
        case rel=>exact ⟨k1,by first | rfl | go_num | (congr 1;omega),Yo,Yo,by rw [hST.p1,<- hST.p0];exact hgo3.p0,hgo3.q1⟩
        case measure=>simp [intOf];omega
       ·
        go_simp;refine rgK hK trivial fun Hh=>?_;clear hK K;refine rgO 9 fun K hK=>?_;go_simp;refine rgK hK trivial fun Hh=>?_;clear hK K;refine rgT 14 Hh ?_;refine rgO 15 fun K hK=>?_;go_simp;refine rgK hK trivial fun Hh=>?_;clear hK K;refine rgT 16 Hh ?_;obtain ⟨W3,e3⟩:∃ W3,W3=((((Wd).setCell ⟨g,k*4,none⟩ (.int .i64 y'.c)).setCell ⟨g,k*4+1,none⟩ (.bool y'.b)).setCell ⟨g,k*4+2,none⟩ (.slice y'.A y'.l y'.k)).setCell ⟨g,k*4+3,none⟩ (.slice y'.B y'.m y'.d):=⟨_,rfl⟩;obtain ⟨-,⟨g0,g1,g2,g3⟩,hz,-⟩:=hfin.out W3 e3;have y0:=hz (k1*4);have y1:=hz (k1*4+1);have y2:=hz (k1*4+2);have y3:=hz (k1*4+3);have hgo3:=Lib.hid (hgo.out W3 e3);rw [<- e3];clear hz e3 a0 a1 a2 a3 b0 b1 b2 b3 z0 z1 z2 z3;refine rgO 17 fun K hK=>?_;go_simp;refine rgK hK trivial fun Hh=>?_;clear hK K;refine Yw ?_;clear Hh g0 g1 g2 g3 y0 y1 y2 y3 hfin hgo hE2;clear d6 d7 d8;go_wp2_with fail;go_roundw
        case rel=>exact ⟨k1,by first | rfl | go_num | (congr 1;omega),Yo,Yo,by rw [hST.p1,<- hST.p0];exact hgo3.p0,hgo3.q1⟩
        case measure=>simp [intOf];omega
     · have d5:¬ (k:Int)<(i1:Int):=by omega
       obtain rfl:k=i1:=by omega
       go_wp2_with fail
       (try simp only [Exit.inBlock,Exit.then]);refine bodyPost_ret (results_none rfl _ _ _) rfl ?_
       exact ⟨rfl,_,by simpa using H.p0,HF.q1,HF.p0,H.q1⟩
theorem Oa {w:World} {B0 g cap n a m b:Nat} {p X r:List Tm} {x:Tm} (h:Sr w B0 g cap (p++(X++([x]++r)))) (hn:(p++(X++([x]++r))).length=n) (ha:p.length=a) (hm:a+X.length=m) (hb:m+1=b) (hX:Up X) (h2:2<=X.length)
 (hB:B0<=w.heap.size) (h40:n<=1099511627776):
 Calls Tryz.prog 256 #[.slice (some ⟨g,0,none⟩) n cap,.int .i64 (a:Int),.int .i64 (m:Int),.int .i64 (b:Int),.func (.func 183) #[] #[]] w fun e w'=>e=.returned (.tuple #[])/\Fp w B0 g cap p X [x] r w':=by
 have hlen:n=b+r.length:=by rw [<- hn];simp;omega
 have hbn:b<=n:=Yo;obtain ⟨ys,hys⟩:∃ ys,p++(X++([x]++r))=ys:=⟨_,rfl⟩
 have hget:∀ q,a<=q->q<m->∃ z,ys[q]?=some z/\X[q - a]?=some z:=fun q h1 h2=>by
  have hk:q - a<X.length:=Yo;refine ⟨X[q - a],?_,List.getElem?_eq_getElem hk⟩;rw [<- hys];exact Lt Yo hk
 have hx0:ys[m]?=some x:=by rw [<- hys,show p++(X++([x]++r))=(p++X)++x::r from by simp,List.getElem?_append_right (by simp;omega)];simp;rw [show m - (p.length+X.length)=0 from by omega];rfl
 have hys0:ys=p++(X.take (m - a)++x::(X.drop (m - a)++r)):=by rw [<- hys,Ud (by omega),List.drop_of_length_le (by omega)];simp
 rw [hys] at h;have HS:=Yh9 h (Below.refl B0 w) hget hx0 hlen ha hX hys0 hm;obtain ⟨dm,hdm⟩:∃ d,m - a=d:=⟨_,rfl⟩;have e0:IntKind.i64.wrap ((m:Int) - (a:Int))=(dm:Int):=by rw [IntKind.wrap_i64];omega
 have e01:((dm:Int)==1)=false:=beq_eq_false_iff_ne.2 Yo;have e02:IntKind.i64.wrap ((b:Int) - (m:Int))=1:=by rw [IntKind.wrap_i64];omega
 have ham:a<=m:=Yo;have hma:m+1=b:=hb;have han:(m:Int)<(n:Int):=Yo;clear h hn ha hm hb hX hlen hget hx0 hys hys0 h2 hdm;go_enter Tryz.func256,Tryz.ntmps256;go_wp2_with fail;clear e0 e01 e02
 go_loopw [14,15] (fun z1 z2 wr=>∃ (i j:Nat),z1=.int .i64 (i:Int)/\z2=.int .i64 (j:Int)/\a<=i/\i<=j/\j<=m/\
  Hid ((Sr wr B0 g cap ys/\Below B0 w wr)/\(∀ q z,q<i - a->X[q]?=some z->z.c<=x.c)/\(∀ q z,j - a<=q->X[q]?=some z->x.c<z.c))) (fun z1 z2 _=>(intOf z2).toNat - (intOf z1).toNat)
 case atStart=>
  refine ⟨a,m,rfl,rfl,TL _,ham,TL _,⟨HS.p0,HS.p1⟩,fun q x hq _=>by omega,fun q x hq hx=>?_⟩;have:=(List.getElem?_eq_some_iff.1 hx).1;have:=HS.q8;omega
 case round=>
  obtain ⟨i,j,rfl,rfl,hmi,hij,hjb,H0⟩:=hrel;have H:=Lib.hid H0.p0;have HI:=Lib.hid H0.q1;clear H0;by_cases hlt:i<j
  · have d0:(i:Int)<(j:Int):=by omega
    obtain ⟨q,hq⟩:∃ q,(i+j) / 2=q:=⟨_,rfl⟩;have d1:((i:Int)+(j:Int)) / 2=(q:Int):=Yo;have hq1:a<=q:=Yo;have hq2:q<j:=Yo;have hq3:i<=q:=Yo;have d2:(q:Int)<(n:Int):=Yo;obtain ⟨y,hy,hyX⟩:=HS.p2 q hq1 Yo;have HX:=Yh2 HS.p3 hy;have HY:=Lib.hid hyX;clear hy hyX hq;have HEE:Hid ((Ec wr g (m*4) x)/\Ec wr g (q*4) y):=⟨(H.p0.at_ HX.p0).1,(H.p0.at_ HX.q1).1⟩;go_upto_region 17 with (fail)
    refine wp_region_held_drew (S:=(fun W=>W.cell? ⟨g,m*4,none⟩=some (.int .i64 x.c)/\W.cell? ⟨g,m*4+1,none⟩=some (.bool x.b)/\W.cell? ⟨g,m*4+2,none⟩=some (.slice x.A x.l x.k)/\W.cell? ⟨g,m*4+3,none⟩=some (.slice x.B x.m x.d)/\W.cell? ⟨g,q*4,none⟩=some (.int .i64 y.c)/\W.cell? ⟨g,q*4+1,none⟩=some (.bool y.b)/\W.cell? ⟨g,q*4+2,none⟩=some (.slice y.A y.l y.k)/\W.cell? ⟨g,q*4+3,none⟩=some (.slice y.B y.m y.d))) (by kernel_rfl) ⟨HEE.p0.1,HEE.p0.2.1,HEE.p0.2.2.1,HEE.p0.2.2.2,HEE.p1,HEE.p2,HEE.p3,HEE.q4⟩ (fun Hh=>?_);refine AL 9 [0,1,2,3,4,5,6,7,8] Hh fun K hK=>?_
    repeat refine rgA ?_
    refine hK _ _ ?_;clear hK K;have R0:=Yh2 (show Sr wr.drew B0 g cap _ from H.p0.keep (Ai _ 1)) (show Below B0 w wr.drew from Bg H.q1 hB (Ai _ 1));generalize wr.drew=Wd at R0 Hh ⊢;refine rgO 9 fun K hK=>?_;go_simp;by_cases hc:x.c<y.c
    ·
     go_at_call 183;refine (BM (r:=-1) x y _ (if_pos hc)).mono ?_;rintro e W2 ⟨rfl,hb⟩;have R:=Yh2 (R0.p0.keep hb) (Bg R0.q1 hB hb);have HC:=Lib.hid hc;have hEc:Hid (Ec W2 g (m*4) x/\Ec W2 g (q*4) y):=⟨((R0.p0.keep hb).at_ HX.p0).1,((R0.p0.keep hb).at_ HX.q1).1⟩;clear hb Hh hc;go_wp2_with fail;refine rgK hK ⟨hEc.p0.1,hEc.p0.2.1,hEc.p0.2.2.1,hEc.p0.2.2.2,hEc.p1,hEc.p2,hEc.p3,hEc.q4⟩ fun Hh=>?_;clear hK K;refine rgT 10 Hh ?_;refine rgT 11 Hh ?_;refine Yw ?_;clear Hh hEc HEE R0;go_wp2_with fail
     case roundEnd=>
      refine ⟨⟨i,q,rfl,rfl,Yo,Yo,Yo,R.out,HI.p0,fun q2 x2 h1 h2=>?_⟩,by simp [intOf];omega⟩;have h4:=HS.p6;obtain ⟨l1,e1⟩:=List.getElem?_eq_some_iff.1 h2;obtain ⟨l2,e2⟩:=List.getElem?_eq_some_iff.1 HY.out;by_cases e:q2=q - a
      · subst e;rw [HY.out] at h2;injection h2 with h2;subst h2;exact HC.out
      · have:=(UV.1 h4) (q - a) q2 l2 l1 Yo;rw [e1,e2] at this;have:=HC.out;omega
    ·
     obtain ⟨rc,hr⟩:∃ r,Bp x.c y.c=r:=⟨_,rfl⟩;have hr0:¬ rc<0:=by rw [<- hr];unfold Bp;rw [if_neg hc];split<;>omega
     have hr1:decide (rc<0)=false:=decide_eq_false hr0;have hr2:(0:Int)<=rc:=Yo;go_at_call 183;refine (BM (r:=rc) x y _ hr).mono ?_;rintro e W2 ⟨rfl,hb⟩;have R:=Yh2 (R0.p0.keep hb) (Bg R0.q1 hB hb);have HC:=Lib.hid hc;have hEc:Hid (Ec W2 g (m*4) x/\Ec W2 g (q*4) y):=⟨((R0.p0.keep hb).at_ HX.p0).1,((R0.p0.keep hb).at_ HX.q1).1⟩;clear hb Hh hc hr;go_wp2_with fail;refine rgK hK ⟨hEc.p0.1,hEc.p0.2.1,hEc.p0.2.2.1,hEc.p0.2.2.2,hEc.p1,hEc.p2,hEc.p3,hEc.q4⟩ fun Hh=>?_;clear hK K;refine rgT 10 Hh ?_;refine rgT 11 Hh ?_;refine Yw ?_;clear Hh hEc HEE R0;go_wp2_with fail;go_roundw
     case rel=>
      refine ⟨q+1,j,by go_num,rfl,Yo,Yo,hjb,R.out,fun q2 x2 h1 h2=>?_,HI.q1⟩;by_cases e:q2=q - a
      · subst e;rw [HY.out] at h2;injection h2 with h2;subst h2;have:=HC.out;omega
      · by_cases h3:q2<i - a
        · exact HI.p0 q2 x2 h3 h2
        · have h4:=HS.p6;obtain ⟨l1,e1⟩:=List.getElem?_eq_some_iff.1 h2;obtain ⟨l2,e2⟩:=List.getElem?_eq_some_iff.1 HY.out;have:=(UV.1 h4) q2 (q - a) l1 l2 Yo;rw [e1,e2] at this;have:=HC.out;omega
     case measure=>simp [intOf];omega
  · have d0:¬ (i:Int)<(j:Int):=by omega
    obtain rfl:i=j:=by omega
    have hf:=Qa (k:=i - a) HS.p6 HI.p0 HI.q1;have HF:=Lib.hid hf;clear hf HI hlt hij;go_wp2_with fail;go_loopw [17] (fun z1 wr=>∃ k:Nat,z1=.int .i64 (k:Int)/\i<=k/\k<=m/\Hid (Sr wr B0 g cap (p++(X.take (k - a)++x::(X.drop (k - a)++r)))/\Below B0 w wr)) (fun z1 _=>(intOf z1).toNat)
    case atStart=>exact ⟨m,rfl,hjb,TL _,by rw [<- HS.p7];exact H.p0,H.q1⟩
    case round=>
     clear H;obtain ⟨k,rfl,hak,hki,H⟩:=hrel;by_cases hlt:i<k
     · obtain ⟨k1,hk1⟩:∃ k1,k=k1+1:=⟨k - 1,Yo⟩;have hkX:k1 - a<X.length:=by have:=HS.out;omega
       obtain ⟨x0,h1,h2,h3⟩:=Mi (p:=p) (r:=r) (y:=x) hkX (j:=k1) (by have:=HS.out;omega);have e1:k1 - a+1=k - a:=Yo;rw [e1,<- hk1] at h1 h3;rw [e1] at h2;obtain ⟨y',hy'⟩:∃ y',y'=x0:=⟨_,rfl⟩;obtain ⟨zs,hzs⟩:∃ zs,p++(X.take (k - a)++x::(X.drop (k - a)++r))=zs:=⟨_,rfl⟩;obtain ⟨zt,hzt⟩:∃ zt,p++(X.take (k1 - a)++x::(X.drop (k1 - a)++r))=zt:=⟨_,rfl⟩;rw [hzs] at H h1 h2 h3;rw [hzt] at h3;rw [<- hy'] at h2 h3;have HX:=Yh2 h1 h2;have HJK:=Yh2 (show k≠k1 by omega) (H.p0.at_ h1).2.1;have hST:=Yh2 h3 hzt;have d5:(i:Int)<(k:Int):=Yo;have d6:IntKind.i64.wrap ((k:Int) - 1)=(k1:Int):=by rw [IntKind.wrap_i64];omega
       have d7:(k:Int)<(n:Int):=Yo;have d8:(k1:Int)<(n:Int):=Yo;have HK:=Lib.hid hk1;clear h1 h2 h3 hzs hzt e1 hkX hy' hk1;go_upto_region 23 with (fail)
       refine wp_region_held_drew (S:=fun _=>True) (by kernel_rfl) trivial (fun Hh=>?_);refine AL 12 [0,1,5,6,7,8,10,11,12,2,3,4] Hh fun K hK=>?_
       repeat refine rgA ?_
       refine hK _ _ ?_;clear hK K;have hE2:Hid (Sr wr.drew B0 g cap zs/\Below B0 w wr.drew):=⟨H.p0.keep (Ai _ 1),Bg H.q1 hB (Ai _ 1)⟩;generalize wr.drew=Wd at hE2 Hh ⊢
       have hfin:Hid (∀ W3,W3=((((Wd).setCell ⟨g,k*4,none⟩ (.int .i64 y'.c)).setCell ⟨g,k*4+1,none⟩ (.bool y'.b)).setCell ⟨g,k*4+2,none⟩ (.slice y'.A y'.l y'.k)).setCell ⟨g,k*4+3,none⟩ (.slice y'.B y'.m y'.d)->Sr W3 B0 g cap ((zs).set k y')/\Ec W3 g (k1*4) y'/\(∀ m,W3.frozen? ⟨g,m,none⟩=false)/\Below B0 w W3):=by
        rintro W3 rfl;have hjl:k<(zs).length:=(List.getElem?_eq_some_iff.1 HX.p0).1;have h1:=hE2.p0.put (j:=k) hjl y';have hk2:((zs).set k y')[k1]?=some y':=by rw [List.getElem?_set_ne HJK.p0];exact HX.q1
        exact ⟨h1,(h1.at_ hk2).1,(h1.at_ hk2).2.2.2,By hE2.q1 HJK.q1 _ _ _ _ _ _ _ _⟩
       have hgo:Hid (∀ W3,W3=((((Wd).setCell ⟨g,k*4,none⟩ (.int .i64 y'.c)).setCell ⟨g,k*4+1,none⟩ (.bool y'.b)).setCell ⟨g,k*4+2,none⟩ (.slice y'.A y'.l y'.k)).setCell ⟨g,k*4+3,none⟩ (.slice y'.B y'.m y'.d)->Sr (((((W3).setCell ⟨g,k1*4,none⟩ (.int .i64 x.c)).setCell ⟨g,k1*4+1,none⟩ (.bool x.b)).setCell ⟨g,k1*4+2,none⟩ (.slice x.A x.l x.k)).setCell ⟨g,k1*4+3,none⟩ (.slice x.B x.m x.d)) B0 g cap (((zs).set k y').set k1 x)/\Below B0 w (((((W3).setCell ⟨g,k1*4,none⟩ (.int .i64 x.c)).setCell ⟨g,k1*4+1,none⟩ (.bool x.b)).setCell ⟨g,k1*4+2,none⟩ (.slice x.A x.l x.k)).setCell ⟨g,k1*4+3,none⟩ (.slice x.B x.m x.d))):=by
        intro W3 e3;obtain ⟨h1,-,-,h2⟩:=hfin.out W3 e3;have hkl:k1<((zs).set k y').length:=by rw [Uh];exact (List.getElem?_eq_some_iff.1 HX.q1).1
        exact ⟨h1.put hkl x,By h2 HJK.q1 _ _ _ _ _ _ _ _⟩
       have hL:Ec Wd g (k*4) x/\Ec Wd g (k1*4) y'/\∀ m,Wd.frozen? ⟨g,m,none⟩=false:=⟨(hE2.p0.at_ HX.p0).1,(hE2.p0.at_ HX.q1).1,(hE2.p0.at_ HX.p0).2.2.2⟩;obtain ⟨⟨a0,a1,a2,a3⟩,⟨b0,b1,b2,b3⟩,hz⟩:=hL;have z0:=hz (k*4);have z1:=hz (k*4+1);have z2:=hz (k*4+2);have z3:=hz (k*4+3);clear hz;refine Br [9,13] (AX (fun K hK=>?_) (AX (fun K hK=>?_) CP))
       ·
        go_simp;refine rgK hK trivial fun Hh=>?_;clear hK K;refine rgO 13 fun K hK=>?_;go_simp;refine rgK hK trivial fun Hh=>?_;clear hK K;refine rgT 14 Hh ?_;refine rgO 15 fun K hK=>?_;go_simp;refine rgK hK trivial fun Hh=>?_;clear hK K;refine rgT 16 Hh ?_;obtain ⟨W3,e3⟩:∃ W3,W3=((((Wd).setCell ⟨g,k*4,none⟩ (.int .i64 y'.c)).setCell ⟨g,k*4+1,none⟩ (.bool y'.b)).setCell ⟨g,k*4+2,none⟩ (.slice y'.A y'.l y'.k)).setCell ⟨g,k*4+3,none⟩ (.slice y'.B y'.m y'.d):=⟨_,rfl⟩;obtain ⟨-,⟨g0,g1,g2,g3⟩,hz,-⟩:=hfin.out W3 e3;have y0:=hz (k1*4);have y1:=hz (k1*4+1);have y2:=hz (k1*4+2);have y3:=hz (k1*4+3);have hgo3:=Lib.hid (hgo.out W3 e3);rw [<- e3];clear hz e3 a0 a1 a2 a3 b0 b1 b2 b3 z0 z1 z2 z3;refine rgO 17 fun K hK=>?_;go_simp;refine rgK hK trivial fun Hh=>?_;clear hK K;refine Yw ?_;clear Hh g0 g1 g2 g3 y0 y1 y2 y3 hfin hgo hE2;go_wp2_with fail;have hk1:=HK.out;go_roundw
        case rel=>exact ⟨k1,by first | rfl | go_num | (congr 1;omega),Yo,Yo,by rw [hST.q1,<- hST.p0];exact hgo3.p0,hgo3.q1⟩
        case measure=>simp [intOf];omega
       ·
        go_simp;refine rgK hK trivial fun Hh=>?_;clear hK K;refine rgO 9 fun K hK=>?_;go_simp;refine rgK hK trivial fun Hh=>?_;clear hK K;refine rgT 14 Hh ?_;refine rgO 15 fun K hK=>?_;go_simp;refine rgK hK trivial fun Hh=>?_;clear hK K;refine rgT 16 Hh ?_;obtain ⟨W3,e3⟩:∃ W3,W3=((((Wd).setCell ⟨g,k*4,none⟩ (.int .i64 y'.c)).setCell ⟨g,k*4+1,none⟩ (.bool y'.b)).setCell ⟨g,k*4+2,none⟩ (.slice y'.A y'.l y'.k)).setCell ⟨g,k*4+3,none⟩ (.slice y'.B y'.m y'.d):=⟨_,rfl⟩;obtain ⟨-,⟨g0,g1,g2,g3⟩,hz,-⟩:=hfin.out W3 e3;have y0:=hz (k1*4);have y1:=hz (k1*4+1);have y2:=hz (k1*4+2);have y3:=hz (k1*4+3);have hgo3:=Lib.hid (hgo.out W3 e3);rw [<- e3];clear hz e3 a0 a1 a2 a3 b0 b1 b2 b3 z0 z1 z2 z3;refine rgO 17 fun K hK=>?_;go_simp;refine rgK hK trivial fun Hh=>?_;clear hK K;refine Yw ?_;clear Hh g0 g1 g2 g3 y0 y1 y2 y3 hfin hgo hE2;go_wp2_with fail;have hk1:=HK.out;go_roundw
        case rel=>exact ⟨k1,by first | rfl | go_num | (congr 1;omega),Yo,Yo,by rw [hST.q1,<- hST.p0];exact hgo3.p0,hgo3.q1⟩
        case measure=>simp [intOf];omega
     · have d5:¬ (i:Int)<(k:Int):=by omega
       obtain rfl:i=k:=by omega
       go_wp2_with fail
       (try simp only [Exit.inBlock,Exit.then]);refine bodyPost_ret (results_none rfl _ _ _) rfl ?_
       exact ⟨rfl,_,by simpa using H.p0,HF.q1,HF.p0,H.q1⟩
end
end Go.Proofs.YtlblnmmfphiobaaGreat
