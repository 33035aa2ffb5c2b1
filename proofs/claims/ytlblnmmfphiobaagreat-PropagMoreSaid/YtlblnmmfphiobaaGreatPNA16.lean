import Derived.Test.YtlblnmmfphiobaaGreatPNA15
set_option maxRecDepth 100000
set_option maxHeartbeats 8000000
set_option linter.unusedVariables false
set_option linter.unusedSimpArgs false
namespace Go.Proofs.YtlblnmmfphiobaaGreat
section
open Go Go.RowKit Go.Proofs Pl
structure Mkg (ys:List Tm) (k:Nat) (zs:List Tm):Prop where
 up:zs.Pairwise fun a b=>a.c<b.c
 pos:∀ z∈zs,0<=z.c
 sum:∀ c,0<=c->AF (zs.map Tm.t) c=AF ((ys.take k).map Tm.t) c
 le:∀ z∈zs,∀ y∈ys.drop k,z.c<=y.c
 len:zs.length<=k
theorem Nn (ys:List Tm):Mkg ys 0 []:=⟨List.Pairwise.nil,by simp,by simp [AF],by simp,TL _⟩
theorem C2 (l:List Tm) (x:Tm) (c:Int):AF ((l++[x]).map Tm.t) c=AF (l.map Tm.t) c+(if x.c=c then x.q else 0):=by
 rw [Vs,Hv];simp [AF,Tm.t,VN]
theorem Kg {ys:List Tm} {k:Nat} {x:Tm} (hx:ys[k]?=some x):ys.take (k+1)=ys.take k++[x]:=by
 obtain ⟨hk,rfl⟩:=List.getElem?_eq_some_iff.1 hx;exact Uc hk
theorem FK {ys:List Tm} {k:Nat} {x:Tm} (hx:ys[k]?=some x):ys.drop k=x::ys.drop (k+1):=by
 obtain ⟨hk,rfl⟩:=List.getElem?_eq_some_iff.1 hx;exact (VA hk).symm
theorem K8 (xs:List Tm) (j:Nat) (z z':Tm) (hz:xs[j]?=some z) (hc:z'.c=z.c):
 (((AS xs).set (j*4+1) (.bool z'.b)).set (j*4+2) (.slice z'.A z'.l z'.k)).set (j*4+3) (.slice z'.B z'.m z'.d)=AS (xs.set j z'):=by
 induction xs generalizing j with
 | nil=>simp at hz
 | cons y xs ih=>
  cases j with
  | zero=>
   obtain rfl:y=z:=by simpa using hz
   show Value.int .i64 y.c::_=Value.int .i64 z'.c::_;rw [hc];rfl
  | succ j=>
   have:=ih j (by simpa using hz);rw [show (j+1)*4=j*4+4 from by omega];show _::_::_::_::(((AS xs).set (j*4+1) _).set (j*4+2) _).set (j*4+3) _=_;rw [this];rfl
theorem Sr.put3 {w:World} {B0 g cap j:Nat} {xs:List Tm} {z z':Tm} (h:Sr w B0 g cap xs) (hz:xs[j]?=some z) (hc:z'.c=z.c):Sr (((w.setCell ⟨g,j*4+1,none⟩ (.bool z'.b)).setCell ⟨g,j*4+2,none⟩ (.slice z'.A z'.l z'.k)).setCell ⟨g,j*4+3,none⟩ (.slice z'.B z'.m z'.d)) B0 g cap (xs.set j z'):=by
 have h1:=AT (AT (AT h (j:=j*4+1) (.bool z'.b)) (j:=j*4+2) (.slice z'.A z'.l z'.k)) (j:=j*4+3) (.slice z'.B z'.m z'.d);rw [K8 xs j z z' hz hc] at h1;unfold Sr;rw [Uh];exact h1
theorem Sr.keepT3 {w:World} {B g cap:Nat} {xs:List Tm} (h:Sr w B g cap xs) (o1 o2 o3:Nat) (u1 u2 u3:Value):Ak 146 w (((w.setCell ⟨g,o1,none⟩ u1).setCell ⟨g,o2,none⟩ u2).setCell ⟨g,o3,none⟩ u3):=
 ((BQ h o1 u1).trans (BQ (AT h (j:=o1) u1) o2 u2)).trans (BQ (AT (AT h (j:=o1) u1) (j:=o2) u2) o3 u3)
variable {ys zs zs0:List Tm} {k:Nat} {x z z':Tm}
theorem Qp (h:Mkg ys k zs) (hx:ys[k]?=some x) (hc:x.c<0):Mkg ys (k+1) zs:=by
 refine ⟨h.up,h.pos,fun c hc0=>?_,fun z hz y hy=>h.le z hz y (by rw [FK hx];exact UR _ hy),by have:=h.len;omega⟩;rw [h.sum c hc0,Kg hx,C2,if_neg (by omega),VN]
theorem Lj (hU:Up ys) (hx:ys[k]?=some x):∀ y∈ys.drop (k+1),x.c<=y.c:=by
 have h1:Up (ys.drop k):=List.Pairwise.drop hU;rw [FK hx] at h1
 exact fun y hy=>UZ h1 hy
theorem LT (h:Mkg ys k zs) (hU:Up ys) (hx:ys[k]?=some x) (hc:0<=x.c) (hne:∀ z∈zs,z.c≠x.c) (e1:z'.c=x.c) (e2:z'.q=x.q):Mkg ys (k+1) (zs++[z']):=by
 have hle:∀ z∈zs,z.c<x.c:=fun z hz=>by
  have:=h.le z hz x (by rw [FK hx];simp);have:=hne z hz;omega
 refine ⟨?_,?_,fun c hc0=>?_,?_,by rw [TM];have:=h.len;simp;omega⟩
 · rw [UW];refine ⟨h.up,VX _ _,fun a ha b hb=>?_⟩;rw [Uj.1 hb,e1];exact hle a ha
 · intro a ha
   rcases Uw.1 ha with ha | ha
   · exact h.pos a ha
   · rw [Uj.1 ha,e1];exact hc
 · rw [Kg hx,C2,C2,h.sum c hc0,e1,e2]
 · intro a ha y hy
   rcases Uw.1 ha with ha | ha
   · exact h.le a ha y (by rw [FK hx];exact UR _ hy)
   · rw [Uj.1 ha,e1];exact Lj hU hx y hy
theorem QO (h:Mkg ys k (zs0++[z])) (hU:Up ys) (hx:ys[k]?=some x) (hc:z.c=x.c) (e1:z'.c=x.c) (e2:z'.q=z.q+x.q):Mkg ys (k+1) (zs0++[z']):=by
 have h0:=h.pos z (by simp);have hu:=UW.1 h.up;refine ⟨?_,?_,fun c hc0=>?_,?_,by have:=h.len;rw [TM] at this ⊢;simp at this ⊢;omega⟩
 · rw [UW];refine ⟨hu.1,VX _ _,fun a ha b hb=>?_⟩;rw [Uj.1 hb,e1,<- hc];exact hu.2.2 a ha z (by simp)
 · intro a ha
   rcases Uw.1 ha with ha | ha
   · exact h.pos a (by simp [ha])
   · rw [Uj.1 ha,e1,<- hc];exact h0
 · have hs:=h.sum c hc0;rw [C2] at hs ⊢;rw [Kg hx,C2,<- hs,e1,e2,hc]
   split
   · rw [Rat.add_assoc]
   · rw [VN,VN]
 · intro a ha y hy
   rcases Uw.1 ha with ha | ha
   · exact h.le a (by simp [ha]) y (by rw [FK hx];exact UR _ hy)
   · rw [Uj.1 ha,e1];exact Lj hU hx y hy
theorem M4 {zs:List Tm} (h:zs.Pairwise fun a b=>a.c<b.c) (hz:z∈zs):AF (zs.map Tm.t) z.c=z.q:=by
 induction zs with
 | nil=>cases hz
 | cons a zs ih=>
  have h1:∀ b∈zs,a.c<b.c:=fun b hb=>UZ h hb;show (if a.c=z.c then a.q else 0)+AF (zs.map Tm.t) z.c=z.q
  rcases Ue.1 hz with rfl | hz
  · rw [if_pos rfl,DD (fun t ht=>by obtain ⟨b,hb,rfl⟩:=UP.1 ht;exact Int.ne_of_gt (h1 b hb)),VN]
  · rw [if_neg (Int.ne_of_lt (h1 z hz)),Vn,ih h.tail hz]
theorem Jv {L:Nat} (h:Mkg ys k zs) (hs:∀ y∈ys,Sz L y.q):∀ z∈zs,Sz (1+k*(L+1)) z.q:=fun z hz=>by
 rw [<- M4 h.up hz,h.sum _ (h.pos z hz)];refine (Pg (L:=L) (fun t ht=>?_) _).mono ?_
 · obtain ⟨y,hy,rfl⟩:=UP.1 ht;exact hs y (List.mem_of_mem_take hy)
 · have:((ys.take k).map Tm.t).length<=k:=by rw [Uz,TU];omega
   have:=TW (L+1) this;omega
theorem NH (zs:List Tm) (c:Int):AF ((nzT zs).map Tm.t) c=AF (zs.map Tm.t) c:=by
 induction zs with
 | nil=>rfl
 | cons a zs ih=>
  unfold nzT at ih ⊢;by_cases h:a.q=0
  · rw [List.filter_cons_of_neg (by simp [h]),ih];show _=(if a.c=c then a.q else 0)+AF (zs.map Tm.t) c;rw [h];split<;>rw [Vn]
  · rw [List.filter_cons_of_pos (by simp [h])];show (if a.c=c then a.q else 0)+AF _ c=(if a.c=c then a.q else 0)+AF (zs.map Tm.t) c;rw [ih]
theorem RQ (h:Mkg ys k (zs0++[z])) (hx:ys[k]?=some x) (hc:z.c≠x.c):∀ t∈zs0++[z],t.c≠x.c:=fun t ht=>by
 have h1:=h.le z (by simp) x (by rw [FK hx];simp)
 rcases Uw.1 ht with ht | ht
 · have:=(UW.1 h.up).2.2 t ht z (by simp);omega
 · rw [Uj.1 ht];exact hc
theorem Q1 (h:Mkg ys ys.length zs):(nzT zs).map Tm.t=mkV (ys.map Tm.t):=by
 refine PB ⟨?_,?_,?_⟩ fun c hc=>by rw [NH,h.sum c hc,VV]
 · rw [List.pairwise_map];exact List.Pairwise.filter _ h.up
 · intro t ht;obtain ⟨z,hz,rfl⟩:=UP.1 ht;exact h.pos z (VS.1 hz).1
 · intro t ht;obtain ⟨z,hz,rfl⟩:=UP.1 ht;exact of_decide_eq_true (VS.1 hz).2
theorem Tq (A:Option Addr) (c:Nat) (w:World):Calls Tryz.prog 255 #[.slice A 0 c,.int .i64 0,.int .i64 0,.func (.func 183) #[] #[]] w fun e w'=>e=.returned (.tuple #[])/\w'=w:=by
 go_enter Tryz.func255,Tryz.ntmps255;go_wp2_with fail;go_loopw [8] (fun z wr=>z=.int .i64 1/\wr=w) (fun _ _=>0)
 case atStart=>exact ⟨rfl,rfl⟩
 case round=>
  obtain ⟨rfl,rfl⟩:=hrel;go_wp2_with fail;go_end0;exact ⟨rfl,rfl⟩
theorem OG (A:Option Addr) (c:Nat) (w:World):Calls Tryz.prog 229 #[.slice A 0 c,.int .i64 0,.func (.func 183) #[] #[]] w fun e w'=>e=.returned (.tuple #[])/\w'=w:=by
 go_enter Tryz.func229,Tryz.ntmps229;go_wp2_with fail;go_loopw [7,8] (fun z1 z2 wr=>z1=.int .i64 0/\z2=.int .i64 20/\wr=w) (fun _ _ _=>0)
 case atStart=>exact ⟨rfl,rfl,rfl⟩
 case round=>
  obtain ⟨rfl,rfl,rfl⟩:=hrel;go_wp2_with fail;refine (Tq A c _).mono ?_;rintro e w1 ⟨rfl,rfl⟩;go_wp2_with fail;go_loopw [6] (fun z1 wr=>z1=.int .i64 20/\Hid (wr=w1)) (fun _ _=>0)
  case atStart=>exact ⟨rfl,rfl⟩
  case round=>
   obtain ⟨rfl,E⟩:=hrel;go_wp2_with fail;go_end0;exact ⟨rfl,E.out⟩
theorem RO (A:Option Addr) (c:Nat) (w:World):Calls Tryz.prog 182 #[.slice A 0 c,.func (.func 183) #[] #[]] w fun e w'=>e=.returned (.tuple #[])/\w'=w:=by
 go_enter Tryz.func182,Tryz.ntmps182;go_wp2_with fail;refine (OG A c _).mono ?_;rintro e w1 ⟨rfl,rfl⟩;go_wp2_with fail;go_end0;exact ⟨rfl,rfl⟩
theorem NR {w:World} {B0:Nat} {u:Value} {xs:List Tm} (h:To w B0 u xs) (hB:B0<=w.heap.size) (h40:xs.length<=1099511627776):
 Calls Tryz.prog 182 #[u,.func (.func 183) #[] #[]] w fun e w'=>e=.returned (.tuple #[])/\∃ ys,To w' B0 u ys/\ys.Perm xs/\Up ys/\Below B0 w w':=by
 rcases TQ xs.length with hz | hz
 · obtain rfl:=TN hz;obtain ⟨A,cap,rfl,-⟩:=h.trd;refine (RO A cap w).mono ?_;rintro e w' ⟨he,rfl⟩;exact ⟨he,[],h,List.Perm.refl _,List.Pairwise.nil,Below.refl _ _⟩
 · obtain ⟨g,cap,rfl,hs⟩:=h.sr hz;refine (Q5 hs rfl hB h40).mono ?_;rintro e w' ⟨he,ys,h1,h2,h3,h4⟩;refine ⟨he,ys,?_,h2,h3,h4⟩;have:=h1.to
   rwa [h2.length_eq] at this
theorem NV {w:World} {L:Nat} {v:Value} {l:Tms} (hv:Vt w L v l) (h0:0<L) (hL:L<=1048576) (hn:l.length<=4096):
 Calls Tryz.prog 106 #[v] w fun e w'=>∃ u zs,e=.returned u/\Vr w w' u zs/\zs.map Tm.t=mkV l:=by
 obtain ⟨xs,hx,rfl⟩:=hv;have hn1:xs.length<=4096:=by simpa using hn
 have hq:∀ x∈xs,Qv w L x.num x.q:=by obtain ⟨A,cap,-,-,-,-,-,h⟩:=hx;exact h
 have HS:=Yh5 hx hq hn1 h0 hL;clear hx hq hn h0 hL hn1;go_enter Tryz.func106,Tryz.ntmps106;go_wp2_with fail;refine (QP HS.p0 (by have:=HS.p2;omega)).mono ?_;rintro e w1 ⟨u,rfl,h1,h2⟩;have R1:=Yh2 h1 h2;clear h1 h2;go_wp2_with fail;refine (NR R1.p0 R1.q1.size (by have:=HS.p2;omega)).mono ?_;rintro e w2 ⟨rfl,ys,h1,h2,h3,h4⟩;obtain ⟨A,cap,rfl,q1,q2,q3,q4⟩:=h1.trd;obtain ⟨n,hyn⟩:∃ n,ys.length=n:=⟨_,rfl⟩;have hbw:Yg w w2:=R1.q1.trans h4;have hyq:∀ y∈ys,Qv w2 L y.num y.q:=fun y hy=>(HS.p1 y (h2.mem_iff.1 hy)).keep hbw;have hn4:n<=4096:=by rw [<- hyn,h2.length_eq];exact HS.p2
 have hmk:mkV (ys.map Tm.t)=mkV (xs.map Tm.t):=QD (h2.map _);rw [hyn];have R2:=Yh6 q4 hyq h3 hbw hmk hyn;have HB:=Yh2 HS.p3 HS.q4;clear h1 h2 h3 h4 q1 q2 q3 q4 hbw hyq hmk hyn R1 HS;go_wp2_with fail;go_loopw [2,13] (fun z1 z2 wr=>∃ (k:Nat) (zs:List Tm) (u1:Value),z2=.int .i64 (k:Int)/\k<=n/\u1=z1/\Hid (Vr w2 wr u1 zs/\Mkg ys k zs)) (fun _ z2 _=>n - (intOf z2).toNat)
 case atStart=>exact ⟨0,[],_,rfl,Un _,rfl,⟨To.nil _ _,by simp,Below.refl _ _⟩,Nn ys⟩
 case round=>
  obtain ⟨k,zs,u1,rfl,hk,rfl,H⟩:=hrel;by_cases hlt:k<n
  · have hky:k<ys.length:=by rw [R2.q5];exact hlt
    obtain ⟨x,hx⟩:∃ x,ys[k]?=some x:=⟨_,List.getElem?_eq_getElem hky⟩;obtain ⟨g,off,rfl,hgl,c0,c1,c2,c3⟩:=(R2.p0.keep H.p0.2.2).at_ hx;have HX:=Lib.hid hx;have d0:(k:Int)<(n:Int):=Yo;clear hx hgl hky;go_upto_region 6 with (fail)
    have X:=B4.new 63 wr (.int .i64 x.c) (.bool x.b) (.slice x.A x.l x.k) (.slice x.B x.m x.d);have hal:=Ya wr (.cells #[.int .i64 x.c,.bool x.b,.slice x.A x.l x.k,.slice x.B x.m x.d] 63);have T:=Yh3 (H.p0.keep hal) X ((R2.p1 x (TO HX.out)).keep (Yb H.p0.2.2 hal));have hgw:wr.heap.size<(wr.alloc (.cells #[.int .i64 x.c,.bool x.b,.slice x.A x.l x.k,.slice x.B x.m x.d] 63)).heap.size:=X.lt;have hw2:=H.p0.2.2.size;obtain ⟨g5,hg5⟩:∃ k,k=wr.heap.size:=⟨_,rfl⟩;have HM:=Lib.hid H.q1
    have HO:Hid (∀ ga,u1.ownBlock=some ga->ga<g5):=fun ga hga=>by
     rw [hg5];obtain ⟨cs,e,m,hh,-⟩:=G9 H.p0.1 ga hga;exact CK hh
    rw [<- hg5] at T hw2 ⊢;generalize wr.alloc _=W1 at T ⊢;clear X hal hg5 hgw c0 c1 c2 c3 H;obtain ⟨x0,x1,x2,x3⟩:=T.p1.facts;by_cases hneg:x.c<0
    · have d1:x.c<0:=hneg;have hM:=Lib.hid (Qp HM.out HX.out hneg);clear hneg;go_wp2_with fail
      case roundEnd=>exact ⟨⟨k+1,zs,u1,by go_num,Yo,rfl,T.p0,hM.out⟩,by simp [intOf];omega⟩
    · have d1:¬ x.c<0:=hneg;clear hneg
      rcases List.eq_nil_or_concat zs with rfl | ⟨zs0,z,hzz⟩
      · obtain ⟨Ao,co,rfl,-⟩:=T.p0.1.shape;have hne:Hid (∀ z∈([]:List Tm),z.c≠x.c):=fun z hz=>by cases hz
        go_upto_region 8 with (fail)
        refine wp_region_held_drew (S:=fun _=>True) (by kernel_rfl) trivial (fun Hh=>?_);refine AL 13 [0,1,2,3,4,5,6,7,8,9,10,11,12] Hh fun K hK=>?_
        repeat first|refine rgA ?_|refine rgB ?_
        refine hK _ _ ?_;clear hK K;refine Yw ?_;have TT:Hid (Vr w2 W1.drew (.slice Ao 0 co) []/\B4 63 W1.drew g5 (.int .i64 x.c) (.bool x.b) (.slice x.A x.l x.k) (.slice x.B x.m x.d)/\Qv W1.drew L x.num x.q):=⟨T.p0.keep (Ai _ 1),T.p1.keep (Ai _ 1),T.q2.keep (Ai _ 1)⟩;clear Hh T x0 x1 x2 x3;generalize W1.drew=W1 at TT ⊢;have T:=TT;clear TT;obtain ⟨x0,x1,x2,x3⟩:=T.p1.facts;go_upto_region 10 with (fail)
        refine wp_region_held_drew (S:=(fun W=>Ye4 W g5 (.int .i64 x.c) (.bool x.b) (.slice x.A x.l x.k) (.slice x.B x.m x.d))) (by kernel_rfl) ((T.p1.keep (Ai _ 1)).facts) (fun Hh=>?_);refine AL 5 [0,1,2,3,4] Hh fun K hK=>?_
        repeat refine rgA ?_
        refine hK _ _ ?_;clear hK K;have T0:Hid (Vr w2 W1.drew (.slice Ao 0 co) []/\B4 63 W1.drew g5 (.int .i64 x.c) (.bool x.b) (.slice x.A x.l x.k) (.slice x.B x.m x.d)/\Qv W1.drew L x.num x.q):=⟨T.p0.keep (Ai _ 1),T.p1.keep (Ai _ 1),T.q2.keep (Ai _ 1)⟩;generalize W1.drew=Wd at T0 Hh ⊢;clear T x0 x1 x2 x3;refine rgO 5 fun K hK=>?_;go_simp;go_at_call 112;refine (EI (a:=x.num) T0.q2 HB.p0 (by have:=HB.q1;omega)).mono ?_;rintro e w4 ⟨v4,rfl,h4⟩;obtain ⟨p4,A4,l4,k4,B4',m4,d4,rfl⟩:=h4.parts;have T1:Hid (Vr w2 w4 (.slice Ao 0 co) []/\B4 63 w4 g5 (.int .i64 x.c) (.bool x.b) (.slice x.A x.l x.k) (.slice x.B x.m x.d)/\Qr w2 w4 (.agg #[.bool p4,.slice A4 l4 k4,.slice B4' m4 d4]) x.q):=⟨T0.p0.keep h4.below,T0.p1.keep h4.below,h4.from T0.p0.2.2⟩;clear h4 Hh T0;go_wp2_with fail;refine rgK hK T1.p1.facts fun Hh=>?_;clear hK K;refine rgT 6 Hh ?_;refine rgO 7 fun K hK=>?_;go_simp;have hal:=Ya w4 (.cells #[.int .i64 x.c,.bool p4,.slice A4 l4 k4,.slice B4' m4 d4] 63);have hnew:=(B4.new 63 w4 (.int .i64 x.c) (.bool p4) (.slice A4 l4 k4) (.slice B4' m4 d4));have T2:Hid (Vr w2 (w4.alloc (.cells #[.int .i64 x.c,.bool p4,.slice A4 l4 k4,.slice B4' m4 d4] 63)) (.slice Ao 0 co) []/\B4 63 (w4.alloc (.cells #[.int .i64 x.c,.bool p4,.slice A4 l4 k4,.slice B4' m4 d4] 63)) g5 (.int .i64 x.c) (.bool x.b) (.slice x.A x.l x.k) (.slice x.B x.m x.d)/\Qr w2 (w4.alloc (.cells #[.int .i64 x.c,.bool p4,.slice A4 l4 k4,.slice B4' m4 d4] 63)) (.agg #[.bool p4,.slice A4 l4 k4,.slice B4' m4 d4]) x.q/\B4 63 (w4.alloc (.cells #[.int .i64 x.c,.bool p4,.slice A4 l4 k4,.slice B4' m4 d4] 63)) w4.heap.size (.int .i64 x.c) (.bool p4) (.slice A4 l4 k4) (.slice B4' m4 d4)):=⟨T1.p0.keep hal,T1.p1.keep hal,T1.q2.keep hal,hnew⟩;refine rgK hK T2.p1.facts fun Hh=>?_;clear hK K;clear hal hnew T1;obtain ⟨gn,hgn⟩:∃ k,w4.heap.size=k:=⟨_,rfl⟩;rw [hgn] at T2 ⊢;generalize w4.alloc _=W5 at T2 Hh ⊢;clear hgn;obtain ⟨i0,hi0,hz0,hz1,hz2⟩:=info_parts Eh;obtain ⟨nw,hnw⟩:∃ z:Tm,z=⟨x.c,p4,A4,l4,k4,B4',m4,d4,x.q⟩:=⟨_,rfl⟩;have hzl:([]:List Tm).length<=4096:=by have:=HM.out.len;omega
        have hcn:∀ (j:Nat) (u:Value),(AS [nw])[j]?=some u->W5.cell? ((⟨gn,0,none⟩:Addr).add j)=some u:=fun j u hj=>by
         have e:(⟨gn,0,none⟩:Addr).add j=⟨gn,j,none⟩:=by unfold Addr.add;split<;>simp_all
         obtain ⟨f0,f1,f2,f3⟩:=T2.q3.facts;rw [e];rw [hnw] at hj
         match j,hj with
         | 0,hj=>injection hj with hj;rw [<- hj];exact f0
         | 1,hj=>injection hj with hj;rw [<- hj];exact f1
         | 2,hj=>injection hj with hj;rw [<- hj];exact f2
         | 3,hj=>injection hj with hj;rw [<- hj];exact f3
        refine rgO 8 fun K hK=>?_;rw [if_pos (by rfl)];refine wp_append_own _ (.tmp 49) (.tmp 56) 54 rfl w2.heap.size 63 i0 _ 4 64 Tryz.underlying54 hi0 hz0 hz1 hz2 rfl Yd _ ([]:List Tm).length (AS ([]:List Tm)) rfl T2.p0.1 ⟨gn,0,none⟩ 1 1 (AS [nw]) rfl (by rw [D1];rfl) hcn Fr (by unfold maxLen;omega) Yo T2.p0.2.2.size ?_;intro v6 w6 hown hg6 hnil6;have hkT:Ak 146 W5 w6:=BX T2.p0.1 hg6 (Ne.symm D8);have hb6:Yg w2 w6:=T2.p0.2.2.grown hg6 T2.p0.2.2.size (fun k hk=>((T2.p0.1).lt k hk).1);have hM:=Lib.hid (LT (z':=nw) HM.out R2.p2 HX.out Yo hne.out (by rw [hnw]) (by rw [hnw]))
        have hV:Hid (Vr w2 w6 v6 (([]:List Tm)++[nw])):=by
         refine ⟨?_,fun z hz=>?_,hb6⟩
         · unfold To;rw [Hz,TM];exact hown
         · rcases Uw.1 hz with hz | hz
           · exact (T2.p0.2.1 z hz).keepT hkT hb6
           · rw [Uj.1 hz,hnw];exact T2.p2.keepT hkT hb6
        have hX6:B4 63 w6 g5 (.int .i64 x.c) (.bool x.b) (.slice x.A x.l x.k) (.slice x.B x.m x.d):=by
         unfold B4;rw [hg6.block g5 T2.p1.lt (fun e=>absurd (HO.out g5 e.symm) (Nat.lt_irrefl _))];exact T2.p1
        refine rgK hK hX6.facts fun Hh=>?_;clear hK K;refine rgT 9 Hh ?_;refine Yw ?_;clear Hh hkT hb6 hown hg6 hnil6 hcn hX6 T2 hnw;go_wp2_with fail
        case roundEnd=>exact ⟨⟨k+1,_,v6,by go_num,Yo,rfl,hV.out,hM.out⟩,by simp [intOf];omega⟩
      · obtain ⟨zs0,z,rfl⟩:∃ zs0 z,zs=zs0++[z]:=⟨zs0,z,by simpa using hzz⟩;clear hzz;obtain ⟨go,co,rfl,hsr⟩:=T.p0.1.sr (by simp);obtain ⟨m1,hm1⟩:∃ k,zs0.length=k:=⟨_,rfl⟩;obtain ⟨m,hm⟩:∃ k,(zs0++[z]).length=k:=⟨_,rfl⟩;have hmm:m=m1+1:=by rw [<- hm,TM,hm1];rfl
        have hz1:(zs0++[z])[m1]?=some z:=by rw [List.getElem?_append_right (by omega),hm1,VM];rfl
        have hgo:go<g5:=HO.out go rfl;have hme:=HM.out.len;rw [hm] at T HO hme ⊢;have HZ:=Yh4 hz1 hm1 hm hmm;have e3:IntKind.i64.wrap ((m:Int) - 1)=(m1:Int):=by rw [IntKind.wrap_i64];omega
        have e4:(m1:Int)<(m:Int):=Yo;have e5:0<m:=Yo;have e7:decide (0<m)=true:=decide_eq_true e5;have hE:=(hsr.at_ hz1).1;have HE:=Lib.hid hE;clear hz1 hm hmm hm1 hE hme;by_cases hc:z.c=x.c
        · have e6:(z.c==x.c)=true:=by rw [hc];exact beq_self_eq_true _
          have HCC:=Lib.hid hc;clear hc;go_upto_region 8 with (fail)
          refine wp_region_held_drew (S:=fun W=>W.cell? ⟨go,m1*4,none⟩=some (.int .i64 z.c)/\W.cell? ⟨g5,0,none⟩=some (.int .i64 x.c)) (by kernel_rfl) ⟨HE.p0,x0⟩ (fun Hh=>?_);refine AL 13 [0,1,2,3,4,5,6,7,8,9,10,11,12] Hh fun K hK=>?_
          repeat refine rgA ?_
          refine hK _ _ ?_;clear hK K;refine Yw ?_;have TT:Hid (Vr w2 W1.drew (.slice (some ⟨go,0,none⟩) m co) (zs0++[z])/\B4 63 W1.drew g5 (.int .i64 x.c) (.bool x.b) (.slice x.A x.l x.k) (.slice x.B x.m x.d)/\Qv W1.drew L x.num x.q/\Sr W1.drew w2.heap.size go co (zs0++[z])):=⟨T.p0.keep (Ai _ 1),T.p1.keep (Ai _ 1),T.q2.keep (Ai _ 1),hsr.keep (Ai _ 1)⟩;clear Hh T x0 x1 x2 x3 HE hsr e6;generalize W1.drew=W1 at TT ⊢;have T:Hid (Vr w2 W1 (.slice (some ⟨go,0,none⟩) m co) (zs0++[z])/\B4 63 W1 g5 (.int .i64 x.c) (.bool x.b) (.slice x.A x.l x.k) (.slice x.B x.m x.d)/\Qv W1 L x.num x.q):=⟨TT.p0,TT.p1,TT.p2⟩;have hsr:=Lib.hid TT.q3;clear TT;obtain ⟨x0,x1,x2,x3⟩:=T.p1.facts;obtain ⟨y0,y1,y2,y3⟩:=(hsr.out.at_ HZ.p0).1;go_upto_region 9 with (fail)
          refine wp_region_held_drew (S:=fun W=>W.cell? ⟨g5,1,none⟩=some (.bool x.b)/\W.cell? ⟨g5,2,none⟩=some (.slice x.A x.l x.k)/\W.cell? ⟨g5,3,none⟩=some (.slice x.B x.m x.d)) (by kernel_rfl) ⟨x1,x2,x3⟩ (fun Hh=>?_);refine AL 10 [0,1,2,3,4,5,6,7,9,10] Hh fun K hK=>?_
          repeat refine rgA ?_
          refine hK _ _ ?_;clear hK K;have T0:Hid (Vr w2 W1.drew (.slice (some ⟨go,0,none⟩) m co) (zs0++[z])/\B4 63 W1.drew g5 (.int .i64 x.c) (.bool x.b) (.slice x.A x.l x.k) (.slice x.B x.m x.d)/\Qv W1.drew L x.num x.q/\Sr W1.drew w2.heap.size go co (zs0++[z])):=⟨T.p0.keep (Ai _ 1),T.p1.keep (Ai _ 1),T.q2.keep (Ai _ 1),hsr.out.keep (Ai _ 1)⟩;generalize W1.drew=Wd at T0 Hh ⊢;clear T x0 x1 x2 x3 y0 y1 y2 y3 hsr;obtain ⟨y0,y1,y2,y3⟩:=(T0.q3.at_ HZ.p0).1;obtain ⟨x0,x1,x2,x3⟩:=T0.p1.facts;refine rgO 8 fun K hK=>?_;go_simp;refine rgK hK ⟨x1,x2,x3⟩ fun Hh=>?_;clear hK K;clear x0 x1 x2 x3 y0 y1 y2 y3;refine rgO 11 fun K hK=>?_;go_simp;have hzq:=Jv (L:=L) HM.out (fun y hy=>(R2.p1 y hy).sz HB.p0) z (by simp);have hzv:Qv Wd (1+k*(L+1)) z.num z.q:=(T0.p0.2.1 z (by simp)).qv hzq;go_at_call 77;refine (Pk (a:=z.num) (u:=x.num) hzv T0.p2 Yo HB.p0 (by have:=HB.q1;have:=UN (show k<=4096 by omega) (show L+1<=1048577 by omega);omega) (by have:=HB.q1;omega)).mono ?_;rintro e w4 ⟨v4,rfl,h4⟩;obtain ⟨p4,A4,l4,k4,B4',m4,d4,rfl⟩:=h4.parts;have T1:Hid (Vr w2 w4 (.slice (some ⟨go,0,none⟩) m co) (zs0++[z])/\B4 63 w4 g5 (.int .i64 x.c) (.bool x.b) (.slice x.A x.l x.k) (.slice x.B x.m x.d)/\Qr w2 w4 (.agg #[.bool p4,.slice A4 l4 k4,.slice B4' m4 d4]) (z.q+x.q)/\Sr w4 w2.heap.size go co (zs0++[z])):=⟨T0.p0.keep h4.below,T0.p1.keep h4.below,h4.from T0.p0.2.2,T0.q3.keep h4.below⟩;clear h4 Hh T0 hzq hzv;go_wp2_with fail;obtain ⟨⟨y0,y1,y2,y3⟩,hBg,-,hfr⟩:=T1.q3.at_ HZ.p0;obtain ⟨x0,x1,x2,x3⟩:=T1.p1.facts;refine rgK hK ⟨x1,x2,x3⟩ fun Hh=>?_;clear hK K;refine rgT 12 Hh ?_;refine rgT 13 Hh ?_;have f1:=hfr (m1*4+1);have f2:=hfr (m1*4+2);have f3:=hfr (m1*4+3);obtain ⟨nw,hnw⟩:∃ t:Tm,t=⟨z.c,p4,A4,l4,k4,B4',m4,d4,z.q+x.q⟩:=⟨_,rfl⟩;have hM:=Lib.hid (QO (z':=nw) HM.out R2.p2 HX.out HCC.out (by rw [hnw];exact HCC.out) (by rw [hnw]));have hset:(zs0++[z]).set m1 nw=zs0++[nw]:=by rw [UM _ _ (by have:=HZ.out;omega),HZ.p1,VM];rfl
          have hV:Hid (Vr w2 (((w4.setCell ⟨go,m1*4+1,none⟩ (.bool p4)).setCell ⟨go,m1*4+2,none⟩ (.slice A4 l4 k4)).setCell ⟨go,m1*4+3,none⟩ (.slice B4' m4 d4)) (.slice (some ⟨go,0,none⟩) m co) (zs0++[nw])):=by
           have hb:Yg w2 (((w4.setCell ⟨go,m1*4+1,none⟩ (.bool p4)).setCell ⟨go,m1*4+2,none⟩ (.slice A4 l4 k4)).setCell ⟨go,m1*4+3,none⟩ (.slice B4' m4 d4)):=((T1.p0.2.2.setCell hBg _).setCell hBg _).setCell hBg _;have hk:=T1.q3.keepT3 (m1*4+1) (m1*4+2) (m1*4+3) (.bool p4) (.slice A4 l4 k4) (.slice B4' m4 d4);refine ⟨?_,fun t ht=>?_,hb⟩
           · have h1:=T1.q3.put3 (z':=nw) HZ.p0 (by rw [hnw]);rw [hset,hnw] at h1;have h2:=h1.to;have e:(zs0++[(⟨z.c,p4,A4,l4,k4,B4',m4,d4,z.q+x.q⟩:Tm)]).length=m:=by rw [TM];have:=HZ.out;simp;omega
             rw [e] at h2;rw [hnw];exact h2
           · rcases Uw.1 ht with ht | ht
             · exact (T1.p0.2.1 t (by simp [ht])).keepT hk hb
             · rw [Uj.1 ht,hnw];exact T1.p2.keepT hk hb
          have hX9:Hid (B4 63 (((w4.setCell ⟨go,m1*4+1,none⟩ (.bool p4)).setCell ⟨go,m1*4+2,none⟩ (.slice A4 l4 k4)).setCell ⟨go,m1*4+3,none⟩ (.slice B4' m4 d4)) g5 (.int .i64 x.c) (.bool x.b) (.slice x.A x.l x.k) (.slice x.B x.m x.d)):=by
           have hne:g5≠go:=Nat.ne_of_gt hgo;exact ((((Below.heap_setCell _ _ _ _ (by exact hne)).trans (Below.heap_setCell _ _ _ _ (by exact hne))).trans (Below.heap_setCell _ _ _ _ (by exact hne))).trans T1.p1)
          refine rgO 14 fun K hK=>?_;go_simp;refine rgK hK ⟨hX9.out.facts.2.1,hX9.out.facts.2.2.1,hX9.out.facts.2.2.2⟩ fun Hh=>?_;clear hK K;refine Yw ?_;clear Hh y0 y1 y2 y3 x0 x1 x2 x3 f1 f2 f3 hfr hX9 hset hnw T1;go_wp2_with fail
          case roundEnd=>exact ⟨⟨k+1,_,_,by go_num,Yo,rfl,hV.out,hM.out⟩,by simp [intOf];omega⟩
        · have e6:(z.c==x.c)=false:=beq_eq_false_iff_ne.2 hc;have HCC:=Lib.hid hc;clear hc;go_upto_region 8 with (fail)
          refine wp_region_held_drew (S:=fun W=>W.cell? ⟨go,m1*4,none⟩=some (.int .i64 z.c)/\W.cell? ⟨g5,0,none⟩=some (.int .i64 x.c)) (by kernel_rfl) ⟨HE.p0,x0⟩ (fun Hh=>?_);refine AL 13 [0,1,2,3,4,5,6,7,8,9,10,11,12] Hh fun K hK=>?_
          repeat refine rgA ?_
          refine hK _ _ ?_;clear hK K;refine Yw ?_;have TT:Hid (Vr w2 W1.drew (.slice (some ⟨go,0,none⟩) m co) (zs0++[z])/\B4 63 W1.drew g5 (.int .i64 x.c) (.bool x.b) (.slice x.A x.l x.k) (.slice x.B x.m x.d)/\Qv W1.drew L x.num x.q/\Sr W1.drew w2.heap.size go co (zs0++[z])):=⟨T.p0.keep (Ai _ 1),T.p1.keep (Ai _ 1),T.q2.keep (Ai _ 1),hsr.keep (Ai _ 1)⟩;clear Hh T x0 x1 x2 x3 HE hsr e6;generalize W1.drew=W1 at TT ⊢;have T:Hid (Vr w2 W1 (.slice (some ⟨go,0,none⟩) m co) (zs0++[z])/\B4 63 W1 g5 (.int .i64 x.c) (.bool x.b) (.slice x.A x.l x.k) (.slice x.B x.m x.d)/\Qv W1 L x.num x.q):=⟨TT.p0,TT.p1,TT.p2⟩;have hsr:=Lib.hid TT.q3;clear TT;obtain ⟨x0,x1,x2,x3⟩:=T.p1.facts;have hne:=Lib.hid (RQ HM.out HX.out HCC.out);go_upto_region 10 with (fail)
          refine wp_region_held_drew (S:=(fun W=>Ye4 W g5 (.int .i64 x.c) (.bool x.b) (.slice x.A x.l x.k) (.slice x.B x.m x.d))) (by kernel_rfl) ((T.p1.keep (Ai _ 1)).facts) (fun Hh=>?_);refine AL 5 [0,1,2,3,4] Hh fun K hK=>?_
          repeat refine rgA ?_
          refine hK _ _ ?_;clear hK K;have T0:Hid (Vr w2 W1.drew (.slice (some ⟨go,0,none⟩) m co) (zs0++[z])/\B4 63 W1.drew g5 (.int .i64 x.c) (.bool x.b) (.slice x.A x.l x.k) (.slice x.B x.m x.d)/\Qv W1.drew L x.num x.q):=⟨T.p0.keep (Ai _ 1),T.p1.keep (Ai _ 1),T.q2.keep (Ai _ 1)⟩;generalize W1.drew=Wd at T0 Hh ⊢;clear T x0 x1 x2 x3;refine rgO 5 fun K hK=>?_;go_simp;go_at_call 112;refine (EI (a:=x.num) T0.q2 HB.p0 (by have:=HB.q1;omega)).mono ?_;rintro e w4 ⟨v4,rfl,h4⟩;obtain ⟨p4,A4,l4,k4,B4',m4,d4,rfl⟩:=h4.parts;have T1:Hid (Vr w2 w4 (.slice (some ⟨go,0,none⟩) m co) (zs0++[z])/\B4 63 w4 g5 (.int .i64 x.c) (.bool x.b) (.slice x.A x.l x.k) (.slice x.B x.m x.d)/\Qr w2 w4 (.agg #[.bool p4,.slice A4 l4 k4,.slice B4' m4 d4]) x.q):=⟨T0.p0.keep h4.below,T0.p1.keep h4.below,h4.from T0.p0.2.2⟩;clear h4 Hh T0;go_wp2_with fail;refine rgK hK T1.p1.facts fun Hh=>?_;clear hK K;refine rgT 6 Hh ?_;refine rgO 7 fun K hK=>?_;go_simp;have hal:=Ya w4 (.cells #[.int .i64 x.c,.bool p4,.slice A4 l4 k4,.slice B4' m4 d4] 63);have hnew:=(B4.new 63 w4 (.int .i64 x.c) (.bool p4) (.slice A4 l4 k4) (.slice B4' m4 d4));have T2:Hid (Vr w2 (w4.alloc (.cells #[.int .i64 x.c,.bool p4,.slice A4 l4 k4,.slice B4' m4 d4] 63)) (.slice (some ⟨go,0,none⟩) m co) (zs0++[z])/\B4 63 (w4.alloc (.cells #[.int .i64 x.c,.bool p4,.slice A4 l4 k4,.slice B4' m4 d4] 63)) g5 (.int .i64 x.c) (.bool x.b) (.slice x.A x.l x.k) (.slice x.B x.m x.d)/\Qr w2 (w4.alloc (.cells #[.int .i64 x.c,.bool p4,.slice A4 l4 k4,.slice B4' m4 d4] 63)) (.agg #[.bool p4,.slice A4 l4 k4,.slice B4' m4 d4]) x.q/\B4 63 (w4.alloc (.cells #[.int .i64 x.c,.bool p4,.slice A4 l4 k4,.slice B4' m4 d4] 63)) w4.heap.size (.int .i64 x.c) (.bool p4) (.slice A4 l4 k4) (.slice B4' m4 d4)):=⟨T1.p0.keep hal,T1.p1.keep hal,T1.q2.keep hal,hnew⟩;refine rgK hK T2.p1.facts fun Hh=>?_;clear hK K;clear hal hnew T1;obtain ⟨gn,hgn⟩:∃ k,w4.heap.size=k:=⟨_,rfl⟩;rw [hgn] at T2 ⊢;generalize w4.alloc _=W5 at T2 Hh ⊢;clear hgn;obtain ⟨i0,hi0,hz0,hz1,hz2⟩:=info_parts Eh;obtain ⟨nw,hnw⟩:∃ z:Tm,z=⟨x.c,p4,A4,l4,k4,B4',m4,d4,x.q⟩:=⟨_,rfl⟩;have hzl:(zs0++[z]).length<=4096:=by have:=HM.out.len;omega
          have hcn:∀ (j:Nat) (u:Value),(AS [nw])[j]?=some u->W5.cell? ((⟨gn,0,none⟩:Addr).add j)=some u:=fun j u hj=>by
           have e:(⟨gn,0,none⟩:Addr).add j=⟨gn,j,none⟩:=by unfold Addr.add;split<;>simp_all
           obtain ⟨f0,f1,f2,f3⟩:=T2.q3.facts;rw [e];rw [hnw] at hj
           match j,hj with
           | 0,hj=>injection hj with hj;rw [<- hj];exact f0
           | 1,hj=>injection hj with hj;rw [<- hj];exact f1
           | 2,hj=>injection hj with hj;rw [<- hj];exact f2
           | 3,hj=>injection hj with hj;rw [<- hj];exact f3
          refine rgO 8 fun K hK=>?_;rw [if_pos (by rfl)];refine wp_append_own _ (.tmp 49) (.tmp 56) 54 rfl w2.heap.size 63 i0 _ 4 64 Tryz.underlying54 hi0 hz0 hz1 hz2 rfl Yd _ (zs0++[z]).length (AS (zs0++[z])) rfl T2.p0.1 ⟨gn,0,none⟩ 1 1 (AS [nw]) rfl (by rw [D1];rfl) hcn Fr (by unfold maxLen;omega) Yo T2.p0.2.2.size ?_;intro v6 w6 hown hg6 hnil6;have hkT:Ak 146 W5 w6:=BX T2.p0.1 hg6 (Ne.symm D8);have hb6:Yg w2 w6:=T2.p0.2.2.grown hg6 T2.p0.2.2.size (fun k hk=>((T2.p0.1).lt k hk).1);have hM:=Lib.hid (LT (z':=nw) HM.out R2.p2 HX.out Yo hne.out (by rw [hnw]) (by rw [hnw]))
          have hV:Hid (Vr w2 w6 v6 ((zs0++[z])++[nw])):=by
           refine ⟨?_,fun z hz=>?_,hb6⟩
           · unfold To;rw [Hz,TM];exact hown
           · rcases Uw.1 hz with hz | hz
             · exact (T2.p0.2.1 z hz).keepT hkT hb6
             · rw [Uj.1 hz,hnw];exact T2.p2.keepT hkT hb6
          have hX6:B4 63 w6 g5 (.int .i64 x.c) (.bool x.b) (.slice x.A x.l x.k) (.slice x.B x.m x.d):=by
           unfold B4;rw [hg6.block g5 T2.p1.lt (fun e=>absurd (HO.out g5 e.symm) (Nat.lt_irrefl _))];exact T2.p1
          refine rgK hK hX6.facts fun Hh=>?_;clear hK K;refine rgT 9 Hh ?_;refine Yw ?_;clear Hh hkT hb6 hown hg6 hnil6 hcn hX6 T2 hnw;go_wp2_with fail
          case roundEnd=>exact ⟨⟨k+1,_,v6,by go_num,Yo,rfl,hV.out,hM.out⟩,by simp [intOf];omega⟩
  · have hkn:k=ys.length:=by have:=R2.q5;omega
    have hM:Mkg ys ys.length zs:=by rw [<- hkn];exact H.q1
    have hsz:=Jv (L:=L) H.q1 (fun y hy=>(R2.p1 y hy).sz HB.p0);have hln:=H.q1.len;have d0:¬ (k:Int)<(n:Int):=Yo;have HF:=Yh3 (Q1 hM) hsz hln;clear hM hsz hln hkn;go_wp2_with fail;refine (TD (L:=1+k*(L+1)) H.p0 HF.p1 (by have:=HB.q1;have:=UN (show k<=4096 by omega) (show L+1<=1048577 by omega);omega) (by have:=HF.q2;omega)).mono ?_;rintro e w4 ⟨v4,rfl,h4⟩;have R:=Lib.hid h4;clear h4;go_wp2_with fail;go_ret;exact ⟨_,nzT zs,rfl,R.out.from R2.p3,by rw [HF.p0];exact R2.p4⟩
end
section
namespace I
section
open Go Go.RowKit Go.Proofs Pl
theorem Rf {w:World} {L:Nat} {v:Value} {l:Tms} {col:Int} (hv:Vt w L v l) (h0:0<L) (hL:L<=10000) (hn:l.length<=4096):
 Calls Tryz.prog 59 #[v,.int .i64 col] w fun e w'=>∃ u,e=.returned u/\Qe w' (7+l.length*(5*L+1)) u (Bh l col)/\Yg w w':=by
 obtain ⟨xs,⟨A,cap,rfl,h1,h2,h3,h4,h5⟩,rfl⟩:=hv;obtain ⟨n,hnn⟩:∃ n,xs.length=n:=⟨_,rfl⟩;have hl:n<=4096:=by rw [<- hnn];simpa using hn
 have hlm:(xs.map Tm.t).length=n:=by rw [Uz];exact hnn
 have HL:=Yh5 h0 hL h5 h4 hnn;rw [hlm,hnn];clear h0 hL h5 h4 h1 h2 h3 hn hnn hlm;go_enter Tryz.func59,Tryz.ntmps59;go_upto_region 1 with (fail)
 have S0:=Yh2 (B3.new 83 w (.bool false) (.slice none 0 0) (.slice none 0 0)) (Ya w (.cells #[.bool false,.slice none 0 0,.slice none 0 0] 83));generalize w.alloc _=W0 at S0 ⊢;go_wp2_with fail;refine (IW Lv).mono ?_;rintro e w1 ⟨u,rfl,h,hb⟩;obtain ⟨p,A0,l0,c0,B0,m0,d0,rfl⟩:=h.parts;have S1:=Yh3 (S0.p0.keep hb) h (Yb S0.q1 hb);clear h hb S0;go_upto_region 2 with (fail)
 have hal:=Ya w1 (.cells #[.bool p,.slice A0 l0 c0,.slice B0 m0 d0] 83);obtain ⟨g5,hg5⟩:∃ g,g=w1.heap.size:=⟨_,rfl⟩;have hgw:w.heap.size<g5:=by rw [hg5];exact S1.p0.lt
 have S2:=Yh4 (S1.p0.keep hal) (B3.new 83 w1 (.bool p) (.slice A0 l0 c0) (.slice B0 m0 d0)) (S1.p1.keep hal) (Yb S1.q2 hal);clear S1 hal;rw [<- hg5] at S2 ⊢;generalize w1.alloc _=W1 at S2 ⊢;clear hg5;go_wp2_with fail
 go_loopw [6] (fun i wr=>∃ (k:Nat) (q:Rat) (p:Bool) (A1:Option Addr) (l1 c1:Nat) (B1:Option Addr) (m1 d1:Nat),i=.int .i64 (k:Int)/\k<=n/\
  Hid (B3 83 wr w.heap.size (.bool false) (.slice none 0 0) (.slice none 0 0)/\B3 83 wr g5 (.bool p) (.slice A1 l1 c1) (.slice B1 m1 d1)/\Qe wr (7+k*(5*L+1)) (.agg #[.bool p,.slice A1 l1 c1,.slice B1 m1 d1]) q/\Yg w wr/\q=Bh ((xs.map Tm.t).take k) col)) (fun i _=>n - (intOf i).toNat)
 case atStart=>exact ⟨0,0,p,A0,l0,c0,B0,m0,d0,rfl,Yo,S2.p0,S2.p1,S2.p2.mono Yo,S2.q3,by simp [Bh,AF]⟩
 case round=>
  obtain ⟨k,q,p1,A1,l1,c1,B1,m1,d1,rfl,hk,H⟩:=hrel;by_cases hlt:k<n
  · have hkx:k<xs.length:=by rw [HL.q4];exact hlt
    obtain ⟨x,hx⟩:∃ x,xs[k]?=some x:=⟨_,List.getElem?_eq_getElem hkx⟩;obtain ⟨g,off,rfl,hgl,-⟩:=(HL.p3).at_ hx;obtain ⟨g',off',eA,-,y0,y1,y2,y3⟩:=(HL.p3.keep H.p3).at_ hx;injection eA with eA
    injection eA with e1 e2
    subst e1;subst e2;have HX:=Yh3 hx (TO hx) hgl;have hnext:=JW (l:=xs.map Tm.t) (i:=k) (t:=x.t) (by rw [List.getElem?_map,hx];rfl) col;have dk:(k:Int)<(n:Int):=Yo;have hone:7+k*(5*L+1)+5*L+1=7+(k+1)*(5*L+1):=by have:(k+1)*(5*L+1)=k*(5*L+1)+(5*L+1):=Vz _ _;omega
    have HO:=Lib.hid hone;clear hx hgl hkx hone;by_cases hc:x.c=col
    · by_cases h0c:0<=col
      · rw [if_pos ⟨hc,h0c⟩] at hnext;have hN:=Lib.hid hnext;have e1:(x.c==col)=true:=by rw [hc];exact beq_self_eq_true col
        have e2:decide ((0:Int)<=col)=true:=decide_eq_true h0c;clear hnext hc h0c;go_upto_region 6 with (fail)
        clear e1 e2;refine wp_region_held_drew (S:=fun W=>W.cell? ⟨g,off+k*4+1,none⟩=some (.bool x.b)/\W.cell? ⟨g,off+k*4+2,none⟩=some (.slice x.A x.l x.k)/\W.cell? ⟨g,off+k*4+3,none⟩=some (.slice x.B x.m x.d)) (by kernel_rfl) ⟨y1,y2,y3⟩ (fun Hh=>?_);refine AL 5 [1,2,3,4,5] Hh fun K hK=>?_
        repeat refine rgA ?_
        refine hK _ _ ?_;clear hK K;have T0:Hid (B3 83 wr.drew w.heap.size (.bool false) (.slice none 0 0) (.slice none 0 0)/\B3 83 wr.drew g5 (.bool p1) (.slice A1 l1 c1) (.slice B1 m1 d1)/\Qe wr.drew (7+k*(5*L+1)) (.agg #[.bool p1,.slice A1 l1 c1,.slice B1 m1 d1]) q/\Yg w wr.drew):=⟨H.p0.keep (Ai _ 1),H.p1.keep (Ai _ 1),H.p2.keep (Ai _ 1),Yb H.p3 (Ai _ 1)⟩;have HQ:=Lib.hid H.q4;generalize wr.drew=Wd at T0 Hh ⊢;clear H y0 y1 y2 y3;obtain ⟨s0,s1,s2,-,-,-⟩:=T0.p1.facts
        have hcell:Hid (∀ W,Yg w W->W.cell? ⟨g,off+k*4+1,none⟩=some (.bool x.b)/\W.cell? ⟨g,off+k*4+2,none⟩=some (.slice x.A x.l x.k)/\W.cell? ⟨g,off+k*4+3,none⟩=some (.slice x.B x.m x.d)):=fun W hW=>by
         obtain ⟨g',off',eA,-,-,y1,y2,y3⟩:=(HL.p3.keep hW).at_ HX.p0;injection eA with eA
         injection eA with e1 e2
         subst e1;subst e2;exact ⟨y1,y2,y3⟩
        refine Br [0,6] (AX (fun K hK=>?_) (AX (fun K hK=>?_) CP))
        ·
         go_simp;refine hK.out _ _ (hcell.out _ T0.q3) (fun Hh=>?_);clear hK K s0 s1 s2;try simp only [Yp];refine rgO 6 fun K hK=>?_;go_simp;go_at_call 37;refine (PX (a:=x.num) ((HL.p2 x HX.p1).keep T0.q3) HL.p0 (by have:=HL.p1;omega)).mono ?_;rintro e w4 ⟨v4,rfl,h,hb⟩;obtain ⟨pv,Av,lv,cv,Bv,mv,dv,rfl⟩:=h.parts;have T1:Hid (B3 83 w4 w.heap.size (.bool false) (.slice none 0 0) (.slice none 0 0)/\B3 83 w4 g5 (.bool p1) (.slice A1 l1 c1) (.slice B1 m1 d1)/\Qe w4 (7+k*(5*L+1)) (.agg #[.bool p1,.slice A1 l1 c1,.slice B1 m1 d1]) q/\Yg w w4/\Qe w4 (5*L) (.agg #[.bool pv,.slice Av lv cv,.slice Bv mv dv]) x.q):=⟨T0.p0.keep hb,T0.p1.keep hb,T0.p2.keep hb,Yb T0.q3 hb,h⟩;clear h hb T0;go_wp2_with fail;refine rgK hK (hcell.out _ T1.p3) fun Hh=>?_;clear hK K;refine rgO 7 fun K hK=>?_;go_simp;go_at_call 58;refine (Rw (L:=7+k*(5*L+1)) (M:=5*L) T1.p2 T1.q4 Yo (by have:=HL.p0;omega) (by have:=HL.p1;have:=UN (show k<=4096 by omega) (show 5*L+1<=50001 by omega);omega) (by have:=HL.p1;omega)).mono ?_;rintro e w5 ⟨v5,rfl,h,hb⟩;obtain ⟨p2,A2,l2,c2,B2,m2,d2,rfl⟩:=h.parts;have T2:Hid (B3 83 w5 w.heap.size (.bool false) (.slice none 0 0) (.slice none 0 0)/\B3 83 w5 g5 (.bool p1) (.slice A1 l1 c1) (.slice B1 m1 d1)/\Qe w5 (7+(k+1)*(5*L+1)) (.agg #[.bool p2,.slice A2 l2 c2,.slice B2 m2 d2]) (q+x.q)/\Yg w w5):=⟨T1.p0.keep hb,T1.p1.keep hb,by rw [<- HO.out];exact h,Yb T1.p3 hb⟩;clear h hb T1;go_wp2_with fail;refine rgK hK (hcell.out _ T2.q3) fun Hh=>?_;clear hK K;obtain ⟨s0,s1,s2,f0,f1,f2⟩:=T2.p1.facts;refine rgO 8 fun K hK=>?_;go_simp;have hb9:=Lib.hid (T2.p1.below T2.q3 (VZ hgw) (.bool p2) (.slice A2 l2 c2) (.slice B2 m2 d2));refine rgK hK (hcell.out _ hb9.out) fun Hh=>?_;clear hK K;refine Yw ?_;clear Hh s0 s1 s2 f0 f1 f2;go_wp2_with fail
         case roundEnd=>exact ⟨⟨k+1,q+x.q,p2,A2,l2,c2,B2,m2,d2,by go_num,Yo,T2.p0.other3 (Nat.ne_of_gt hgw) _ _ _,T2.p1.set _ _ _,Qd.put3 T2.p2 T2.p1 _ _ _,hb9.out,by rw [hN.out,<- HQ.out];rfl⟩,by simp [intOf];omega⟩
        ·
         clear s0 s1 s2;go_simp;go_at_call 37;refine (PX (a:=x.num) ((HL.p2 x HX.p1).keep T0.q3) HL.p0 (by have:=HL.p1;omega)).mono ?_;rintro e w4 ⟨v4,rfl,h,hb⟩;obtain ⟨pv,Av,lv,cv,Bv,mv,dv,rfl⟩:=h.parts;have T1:Hid (B3 83 w4 w.heap.size (.bool false) (.slice none 0 0) (.slice none 0 0)/\B3 83 w4 g5 (.bool p1) (.slice A1 l1 c1) (.slice B1 m1 d1)/\Qe w4 (7+k*(5*L+1)) (.agg #[.bool p1,.slice A1 l1 c1,.slice B1 m1 d1]) q/\Yg w w4/\Qe w4 (5*L) (.agg #[.bool pv,.slice Av lv cv,.slice Bv mv dv]) x.q):=⟨T0.p0.keep hb,T0.p1.keep hb,T0.p2.keep hb,Yb T0.q3 hb,h⟩;clear h hb T0;go_wp2_with fail;refine rgK hK (hcell.out _ T1.p3) fun Hh=>?_;clear hK K;obtain ⟨s0,s1,s2,-,-,-⟩:=T1.p1.facts;refine rgO 0 fun K hK=>?_;go_simp;refine hK.out _ _ (hcell.out _ T1.p3) (fun Hh=>?_);clear hK K s0 s1 s2;try simp only [Yp];refine rgO 7 fun K hK=>?_;go_simp;go_at_call 58;refine (Rw (L:=7+k*(5*L+1)) (M:=5*L) T1.p2 T1.q4 Yo (by have:=HL.p0;omega) (by have:=HL.p1;have:=UN (show k<=4096 by omega) (show 5*L+1<=50001 by omega);omega) (by have:=HL.p1;omega)).mono ?_;rintro e w5 ⟨v5,rfl,h,hb⟩;obtain ⟨p2,A2,l2,c2,B2,m2,d2,rfl⟩:=h.parts;have T2:Hid (B3 83 w5 w.heap.size (.bool false) (.slice none 0 0) (.slice none 0 0)/\B3 83 w5 g5 (.bool p1) (.slice A1 l1 c1) (.slice B1 m1 d1)/\Qe w5 (7+(k+1)*(5*L+1)) (.agg #[.bool p2,.slice A2 l2 c2,.slice B2 m2 d2]) (q+x.q)/\Yg w w5):=⟨T1.p0.keep hb,T1.p1.keep hb,by rw [<- HO.out];exact h,Yb T1.p3 hb⟩;clear h hb T1;go_wp2_with fail;refine rgK hK (hcell.out _ T2.q3) fun Hh=>?_;clear hK K;obtain ⟨s0,s1,s2,f0,f1,f2⟩:=T2.p1.facts;refine rgO 8 fun K hK=>?_;go_simp;have hb9:=Lib.hid (T2.p1.below T2.q3 (VZ hgw) (.bool p2) (.slice A2 l2 c2) (.slice B2 m2 d2));refine rgK hK (hcell.out _ hb9.out) fun Hh=>?_;clear hK K;refine Yw ?_;clear Hh s0 s1 s2 f0 f1 f2;go_wp2_with fail
         case roundEnd=>exact ⟨⟨k+1,q+x.q,p2,A2,l2,c2,B2,m2,d2,by go_num,Yo,T2.p0.other3 (Nat.ne_of_gt hgw) _ _ _,T2.p1.set _ _ _,Qd.put3 T2.p2 T2.p1 _ _ _,hb9.out,by rw [hN.out,<- HQ.out];rfl⟩,by simp [intOf];omega⟩
      · rw [if_neg (fun h=>h0c h.2)] at hnext;have hN:=Lib.hid hnext;have e1:(x.c==col)=true:=by rw [hc];exact beq_self_eq_true col
        have e2:decide ((0:Int)<=col)=false:=decide_eq_false h0c;clear hnext hc h0c;go_wp2_with fail
        case roundEnd=>exact ⟨⟨k+1,q,p1,A1,l1,c1,B1,m1,d1,by go_num,Yo,H.p0,H.p1,H.p2.mono (by have:(k+1)*(5*L+1)=k*(5*L+1)+(5*L+1):=Vz _ _;omega),H.p3,by rw [hN.out];exact H.q4⟩,by simp [intOf];omega⟩
    · rw [if_neg (fun h=>hc h.1)] at hnext;have hN:=Lib.hid hnext;have e1:(x.c==col)=false:=beq_eq_false_iff_ne.2 hc;clear hnext hc;go_wp2_with fail
      case roundEnd=>exact ⟨⟨k+1,q,p1,A1,l1,c1,B1,m1,d1,by go_num,Yo,H.p0,H.p1,H.p2.mono (by have:(k+1)*(5*L+1)=k*(5*L+1)+(5*L+1):=Vz _ _;omega),H.p3,by rw [hN.out];exact H.q4⟩,by simp [intOf];omega⟩
  · have e:q=Bh (xs.map Tm.t) col:=by rw [H.q4,Ud (by rw [Uz,HL.q4];omega)]
    obtain rfl:k=n:=by omega
    have E:=Lib.hid e;have d0:¬ (k:Int)<(k:Int):=Yo;clear e;obtain ⟨s0,s1,s2,-,-,-⟩:=H.p1.facts;obtain ⟨r0,r1,r2,f0,f1,f2⟩:=H.p0.facts;go_wp2_with fail;refine BZ H.p0 (fun W d0 d1 d2=>by simp [results,Tryz.results59,go_sem,d0,d1,d2];try rfl) rfl ?_;rw [<- E.out];exact ⟨_,rfl,Qd.put3 H.p2 H.p0 _ _ _,H.p0.below H.p3 (TL _) _ _ _⟩
end
end I
end
section
namespace I
section
open Go Go.RowKit Go.Proofs Pl
theorem to_z {w:World} {L K:Nat} {a:Value} {x:Int} (ha:Zd w L a x) (hL:L<=1073741824) (hx:x.natAbs<WB ^ K) (hK:K<=1048576):
 Calls Tryz.prog 114 #[a] w fun e w'=>∃ v,e=.returned v/\Zs w w' v x:=by
 obtain ⟨s,rfl,hs⟩:=ha;obtain ⟨p,hp⟩:∃ b,b=decide (x<0):=⟨_,rfl⟩;rw [<- hp];have HL:=Yh4 hL hx hK hp;have S0:=Yh2 hs (Below.refl w.heap.size w);clear hs hL hx hK hp;go_enter Tryz.func114,Tryz.ntmps114;go_upto_region 1 with (fail)
 have S1:=Yh4 (S0.p0.keep ((Yb (Ya w (.cells #[.bool p,s] 81)) (Ya _ (.cells #[.bool false,.slice none 0 0] 34))))) ((Bx.new 81 w (.bool p) s).alloc (.cells #[.bool false,.slice none 0 0] 34)) (Bx.new1 34 w (.cells #[.bool p,s] 81) (.bool false) (.slice none 0 0)) (Yb S0.q1 ((Yb (Ya w (.cells #[.bool p,s] 81)) (Ya _ (.cells #[.bool false,.slice none 0 0] 34)))));clear S0;generalize (w.alloc _).alloc _=W0 at S1 ⊢;go_upto_region 1 with (fail)
 have S2:=Yh4 (S1.p0.keep (Ai _ 1)) (S1.p1.keep (Ai _ 1)) (S1.p2.keep (Ai _ 1)) (Yb S1.q3 (Ai _ 1));refine wp_region_held_drew (S:=fun W=>W.cell? ⟨w.heap.size,0,none⟩=some (.bool p)/\W.cell? ⟨w.heap.size,1,none⟩=some s) (by kernel_rfl) ⟨S2.p1.facts.1,S2.p1.facts.2.1⟩ (fun Hh=>?_);refine rgT 0 Hh ?_;refine rgT 1 Hh ?_;refine rgT 2 Hh ?_;refine rgT 3 Hh ?_;refine rgO 4 fun K hK=>?_;go_simp;go_at_call 115;refine (Of _ S2.p0.nm HL.p0 HL.p1 HL.p2).mono ?_;rintro e w3 ⟨v,rfl,h⟩;obtain ⟨An,ln,cn,rfl⟩:=h.form;have S3:=Yh5 (S2.p0.keep h.2) (S2.p1.keep h.2) (S2.p2.keep h.2) (h.out S2.q3) (Yb S2.q3 h.2);clear h Hh;go_wp2_with fail;refine rgK hK ⟨S3.p1.facts.1,S3.p1.facts.2.1⟩ fun Hh=>?_;clear hK K;refine rgT 5 Hh ?_;obtain ⟨f0,f1,f2,f3⟩:=S3.p2.facts;refine rgO 6 fun K hK=>?_;go_simp;clear f0 f1 f2 f3;refine rgK hK ⟨ES _ S3.p1.facts.1 Yo,ES _ S3.p1.facts.2.1 Yo⟩ fun Hh=>?_;clear hK K;refine Yw ?_;clear Hh;go_wp2_with fail;refine Bm S3.p2 (fun W d0 d1=>by simp [results,Tryz.results114,go_sem,d0,d1]) rfl ?_;refine ⟨_,rfl,Zs.put Bs S3.p2 Yo ?_ _ _⟩;exact ⟨_,by rw [<- HL.q3],S3.p3⟩
theorem P0 {w:World} {L K:Nat} {a:Value} {q:Rat} (ha:Qe w L a q) (hL:L<=1073741824) (hs:Sz K q) (hK:K<=1048576):
 Calls Tryz.prog 40 #[a] w fun e w'=>∃ v,e=.returned v/\Qr w w' v q:=by
 obtain ⟨p,A,l,c,B,k,d,rfl,hz,hd⟩:=ha.open;have HL:=Yh4 hL hs.1 hs.2 hK;have S0:=Yh3 hz hd (Below.refl w.heap.size w);clear hz hd hL hs hK ha;go_enter Tryz.func40,Tryz.ntmps40;go_upto_region 1 with (fail)
 have S1:=Yh5 (S0.p0.keep ((Yb (Ya w (.cells #[.bool p,.slice A l c,.slice B k d] 83)) (Ya _ (.cells #[.bool false,.slice none 0 0,.slice none 0 0] 36))))) (S0.p1.keep ((Yb (Ya w (.cells #[.bool p,.slice A l c,.slice B k d] 83)) (Ya _ (.cells #[.bool false,.slice none 0 0,.slice none 0 0] 36))))) ((B3.new 83 w (.bool p) (.slice A l c) (.slice B k d)).alloc (.cells #[.bool false,.slice none 0 0,.slice none 0 0] 36)) (B3.new1 36 w (.cells #[.bool p,.slice A l c,.slice B k d] 83) (.bool false) (.slice none 0 0) (.slice none 0 0)) (Yb S0.q2 ((Yb (Ya w (.cells #[.bool p,.slice A l c,.slice B k d] 83)) (Ya _ (.cells #[.bool false,.slice none 0 0,.slice none 0 0] 36)))));clear S0;generalize (w.alloc _).alloc _=W0 at S1 ⊢;go_upto_region 1 with (fail)
 have S2:=Yh5 (S1.p0.keep (Ai _ 1)) (S1.p1.keep (Ai _ 1)) (S1.p2.keep (Ai _ 1)) (S1.p3.keep (Ai _ 1)) (Yb S1.q4 (Ai _ 1));refine wp_region_held_drew (S:=fun W=>Ye3 W w.heap.size (.bool p) (.slice A l c) (.slice B k d)) (by kernel_rfl) ⟨S2.p2.facts.1,S2.p2.facts.2.1,S2.p2.facts.2.2.1⟩ (fun Hh=>?_);refine rgT 0 Hh ?_;refine rgT 1 Hh ?_;refine rgT 3 Hh ?_;refine rgT 4 Hh ?_;refine rgO 2 fun K hK=>?_;go_simp;go_at_call 114;refine (to_z S2.p0 HL.p0 HL.p1 HL.q3).mono ?_;rintro e w3 ⟨v,rfl,h⟩;obtain ⟨pn,An,ln,cn,rfl,-⟩:=h.parts;have S3:=Yh6 (S2.p0.keep h.below) (S2.p1.keep h.below) (S2.p2.keep h.below) (S2.p3.keep h.below) (h.from S2.q4) (Yb S2.q4 h.below);clear h Hh;go_wp2_with fail;refine rgK hK ⟨S3.p2.facts.1,S3.p2.facts.2.1,S3.p2.facts.2.2.1⟩ fun Hh=>?_;clear hK K;refine rgO 5 fun K hK=>?_;go_simp;go_at_call 115;refine (Of _ S3.p1.nm HL.p0 HL.p2 HL.q3).mono ?_;rintro e w4 ⟨v,rfl,h⟩;obtain ⟨Ae,le,ce,rfl⟩:=h.form;have S4:=Yh7 (S3.p0.keep h.2) (S3.p1.keep h.2) (S3.p2.keep h.2) (S3.p3.keep h.2) (S3.p4.keep h.2) (h.out S3.q5) (Yb S3.q5 h.2);clear h Hh;go_wp2_with fail;refine rgK hK ⟨S4.p2.facts.1,S4.p2.facts.2.1,S4.p2.facts.2.2.1⟩ fun Hh=>?_;clear hK K;refine rgT 6 Hh ?_;obtain ⟨f0,f1,f2,f3,f4,f5⟩:=S4.p3.facts;refine rgO 7 fun K hK=>?_;go_simp;clear f0 f1 f2 f3 f4 f5;refine rgK hK ⟨AE _ S4.p2.facts.1 Yo,AE _ S4.p2.facts.2.1 Yo,AE _ S4.p2.facts.2.2.1 Yo⟩ fun Hh=>?_;clear hK K;refine Yw ?_;clear Hh;go_wp2_with fail;refine BZ S4.p3 (fun W d0 d1 d2=>by simp [results,Tryz.results40,go_sem,d0,d1,d2];try rfl) rfl ?_;exact ⟨_,rfl,Qs.put3 BF S4.p3 Yo ((S4.p4).q S4.p5) _ _ _⟩
end
end I
end
section
namespace I
section
open Go Go.RowKit Go.Proofs Pl
def CH (x:Int):List Int->List Int
 | []=>[x]
 | c::r=>if x=c then c::r else if x<c then x::c::r else c::CH x r
def E9 (l:List Int):Prop:=l.Pairwise fun a b=>a<b
theorem Lu {x:Int} {l m:List Int} (h:∀ a∈l,a<x):CH x (l++m)=l++CH x m:=by
 induction l with
 | nil=>rfl
 | cons c l ih=>
  have hc:=h c (by simp);show (if x=c then _ else if x<c then _ else c::CH x (l++m))=_;rw [if_neg (by omega),if_neg (by omega),ih fun a ha=>h a (by simp [ha])];rfl
theorem QU {x:Int} {l m:List Int} (h:∃ a∈l,x<=a):CH x (l++m)=CH x l++m:=by
 induction l with
 | nil=>obtain ⟨a,ha,-⟩:=h;cases ha
 | cons c l ih=>
  obtain ⟨a,ha,hxa⟩:=h;show (if x=c then c::(l++m) else if x<c then x::c::(l++m) else c::CH x (l++m))=(if x=c then c::l else if x<c then x::c::l else c::CH x l)++m;by_cases h1:x=c
  · rw [if_pos h1,if_pos h1];rfl
  · rw [if_neg h1,if_neg h1];by_cases h2:x<c
    · rw [if_pos h2,if_pos h2];rfl
    · rw [if_neg h2,if_neg h2]
      rcases Ue.1 ha with rfl | ha
      · omega
      · rw [ih ⟨a,ha,hxa⟩];rfl
theorem NG {x:Int} {l:List Int} (hr:E9 l) (h:x∈l):CH x l=l:=by
 induction l with
 | nil=>cases h
 | cons c l ih=>
  show (if x=c then c::l else if x<c then x::c::l else c::CH x l)=_;by_cases h1:x=c
  · rw [if_pos h1]
  · rw [if_neg h1]
    rcases Ue.1 h with h | h
    · exact absurd h h1
    · have:=UZ hr h;rw [if_neg (by omega),ih (List.Pairwise.tail hr) h]
theorem J1 {x y:Int} {l:List Int}:y∈CH x l↔y=x∨y∈l:=by
 induction l with
 | nil=>simp [CH]
 | cons c l ih=>
  unfold CH
  split
  · rename_i h;subst h;simp
  · split
    · simp
    · simp only [Ue,ih];constructor
      · rintro (h | h | h)
        · exact .inr (.inl h)
        · exact .inl h
        · exact .inr (.inr h)
      · rintro (h | h | h)
        · exact .inr (.inl h)
        · exact .inl h
        · exact .inr (.inr h)
theorem M8 {x:Int} {l:List Int} (hr:E9 l):E9 (CH x l):=by
 induction l with
 | nil=>exact VX _ _
 | cons c l ih=>
  have hc:∀ a∈l,c<a:=fun a ha=>UZ hr ha;unfold CH
  split
  · exact hr
  · split
    · rename_i h1 h2;refine List.Pairwise.cons (fun a ha=>?_) hr
      rcases Ue.1 ha with rfl | ha
      · exact h2
      · exact Int.lt_trans h2 (hc a ha)
    · rename_i h1 h2;refine List.Pairwise.cons (fun a ha=>?_) (ih (List.Pairwise.tail hr))
      rcases J1.1 ha with rfl | ha
      · omega
      · exact hc a ha
theorem OV (x:Int) (l:List Int):(CH x l).length<=l.length+1:=by
 induction l with
 | nil=>simp [CH]
 | cons c l ih=>
  unfold CH
  split
  · simp
  · split
    · simp
    · simp;exact ih
def No (cs:List Int) (x:Int) (i:Nat) (d:Bool) (out:List Int):Prop:=
 (d=false/\out=cs.take i/\∀ a∈cs.take i,a<x)∨(d=true/\out=CH x (cs.take i)/\∃ a∈cs.take i,x<a)
theorem FF {cs:List Int} {i:Nat} {c:Int} (h:cs[i]?=some c):cs.take (i+1)=cs.take i++[c]:=by
 obtain ⟨hk,rfl⟩:=List.getElem?_eq_some_iff.1 h;exact Uc hk
theorem My {cs out:List Int} {x c:Int} {i:Nat} {d:Bool} (h:No cs x i d out) (hc:cs[i]?=some c) (hne:c≠x):
 (d=false/\x<c->No cs x (i+1) true (out++[x]++[c]))/\(¬ (d=false/\x<c)->No cs x (i+1) d (out++[c])):=by
 refine ⟨fun ⟨hd,hx⟩=>?_,fun hn=>?_⟩
 · rcases h with ⟨-,rfl,h⟩ | ⟨h,-⟩
   · refine .inr ⟨rfl,?_,c,by rw [FF hc];simp,hx⟩;rw [FF hc,Lu h,TR]
     congr 1
     show [x,c]=if x=c then [c] else if x<c then [x,c] else _
     rw [if_neg (fun e=>hne e.symm),if_pos hx]
   · rw [hd] at h;cases h
 · rcases h with ⟨hd,rfl,h⟩ | ⟨hd,rfl,a,ha,hxa⟩
   · have hcx:c<x:=by
      by_cases hx:x<c
      · exact absurd ⟨hd,hx⟩ hn
      · omega
     refine .inl ⟨hd,(FF hc).symm,fun a ha=>?_⟩;rw [FF hc] at ha
     rcases Uw.1 ha with ha | ha
     · exact h a ha
     · rw [Uj.1 ha];exact hcx
   · refine .inr ⟨hd,?_,a,by rw [FF hc];simp [ha],hxa⟩;rw [FF hc,QU ⟨a,ha,VO hxa⟩]
theorem Pw {cs out:List Int} {x:Int} {d:Bool} (h:No cs x cs.length d out):(d=false->out++[x]=CH x cs)/\(d=true->out=CH x cs):=by
 unfold No at h;rw [VV] at h;refine ⟨fun hd=>?_,fun hd=>?_⟩
 · rcases h with ⟨-,rfl,h⟩ | ⟨h,-⟩
   · have:=Lu (m:=[]) h;rw [UA] at this;rw [this];rfl
   · rw [hd] at h;cases h
 · rcases h with ⟨h,-⟩ | ⟨-,h,-⟩
   · rw [hd] at h;cases h
   · exact h
def ic (cs:List Int):List Value:=cs.map fun c=>Value.int .i64 c
def Pi (w:World) (B0:Nat) (v:Value) (cs:List Int):Prop:=w.ownsRow B0 3 1 v cs.length (ic cs)
theorem Sf {cs:List Int}:∀ u∈ic cs,u.oneCell'=true:=fun u hu=>by
 obtain ⟨c,-,rfl⟩:=UP.1 hu;rfl
theorem SI (a b:List Int):ic (a++b)=ic a++ic b:=Vs ..
theorem P1:(Tryz.prog.info? 3).map (fun i=>(i.zero,i.size,i.bytes))=some (some (.int .i64 0),1,8):=by kernel_rfl
theorem Pi.keep {w w':World} {B0:Nat} {v:Value} {cs:List Int} (h:Pi w B0 v cs) (hb:Below w.heap.size w w'):Pi w' B0 v cs:=AQ h (Ak.below hb)
theorem Pi.shape {w:World} {B0:Nat} {v:Value} {cs:List Int} (h:Pi w B0 v cs):∃ A cap,v=.slice A cs.length cap:=by
 obtain ⟨A,cap,e,-⟩:=Fh h;exact ⟨A,cap,e⟩
theorem Pi.at_ {w:World} {B0 i:Nat} {v:Value} {cs:List Int} {c:Int} (h:Pi w B0 v cs) (hi:cs[i]?=some c):∃ g cap,v=.slice (some ⟨g,0,none⟩) cs.length cap/\B0<=g/\g<w.heap.size/\w.cell? ⟨g,i,none⟩=some (.int .i64 c):=by
 have h0:0<cs.length:=by have:=(List.getElem?_eq_some_iff.1 hi).1;omega
 obtain ⟨g,cap,e,h1,h2,h3,h4,h5,h6⟩:=CG h h0;exact ⟨g,cap,e,h1,h4,h5 i _ (by rw [ic,List.getElem?_map,hi];rfl)⟩
end
end I
end
end Go.Proofs.YtlblnmmfphiobaaGreat
