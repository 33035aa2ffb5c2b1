import Derived.Test.YtclaiidoomdklaaGreatSNA14
set_option maxRecDepth 100000
set_option maxHeartbeats 8000000
set_option linter.unusedVariables false
set_option linter.unusedSimpArgs false
namespace Go.Proofs.YtclaiidoomdklaaGreat
section
section
open Go Go.RowKit Go.Proofs Pl
structure Mkg (ys:List Tm) (k:Nat) (zs:List Tm):Prop where
 up:zs.Pairwise fun a b=>a.c<b.c
 pos:∀ z∈zs,0<=z.c
 sum:∀ c,0<=c->sumAt (zs.map Tm.t) c=sumAt ((ys.take k).map Tm.t) c
 le:∀ z∈zs,∀ y∈ys.drop k,z.c<=y.c
 len:zs.length<=k
theorem mkg_start (ys:List Tm):Mkg ys 0 []:=⟨List.Pairwise.nil,by simp,by simp [sumAt],by simp,Nat.le_refl _⟩
theorem sumAt_snoc (l:List Tm) (x:Tm) (c:Int):sumAt ((l++[x]).map Tm.t) c=sumAt (l.map Tm.t) c+(if x.c=c then x.q else 0):=by
 rw [List.map_append,sumAt_app]
 simp [sumAt,Tm.t,Rat.add_zero]
theorem take_x {ys:List Tm} {k:Nat} {x:Tm} (hx:ys[k]?=some x):ys.take (k+1)=ys.take k++[x]:=by
 obtain ⟨hk,rfl⟩:=List.getElem?_eq_some_iff.1 hx
 exact List.take_succ_eq_append_getElem hk
theorem drop_x {ys:List Tm} {k:Nat} {x:Tm} (hx:ys[k]?=some x):ys.drop k=x::ys.drop (k+1):=by
 obtain ⟨hk,rfl⟩:=List.getElem?_eq_some_iff.1 hx
 exact (List.getElem_cons_drop hk).symm
theorem flatT_set3 (xs:List Tm) (j:Nat) (z z':Tm) (hz:xs[j]?=some z) (hc:z'.c=z.c):
 (((flatT xs).set (j*4+1) (.bool z'.b)).set (j*4+2) (.slice z'.A z'.l z'.k)).set (j*4+3) (.slice z'.B z'.m z'.d)=flatT (xs.set j z'):=by
 induction xs generalizing j with
 | nil=>simp at hz
 | cons y xs ih=>
  cases j with
  | zero=>
   obtain rfl:y=z:=by simpa using hz
   show Value.int .i64 y.c::_=Value.int .i64 z'.c::_
   rw [hc];rfl
  | succ j=>
   have:=ih j (by simpa using hz)
   rw [show (j+1)*4=j*4+4 from by omega]
   show _::_::_::_::(((flatT xs).set (j*4+1) _).set (j*4+2) _).set (j*4+3) _=_
   rw [this]
   rfl
theorem Sr.put3 {w:World} {B0 g cap j:Nat} {xs:List Tm} {z z':Tm} (h:Sr w B0 g cap xs) (hz:xs[j]?=some z) (hc:z'.c=z.c):Sr (((w.setCell ⟨g,j*4+1,none⟩ (.bool z'.b)).setCell ⟨g,j*4+2,none⟩ (.slice z'.A z'.l z'.k)).setCell ⟨g,j*4+3,none⟩ (.slice z'.B z'.m z'.d)) B0 g cap (xs.set j z'):=by
 have h1:=own_set (own_set (own_set h (j:=j*4+1) (.bool z'.b)) (j:=j*4+2) (.slice z'.A z'.l z'.k)) (j:=j*4+3) (.slice z'.B z'.m z'.d)
 rw [flatT_set3 xs j z z' hz hc] at h1
 unfold Sr
 rw [List.length_set]
 exact h1
theorem Sr.keepT3 {w:World} {B g cap:Nat} {xs:List Tm} (h:Sr w B g cap xs) (o1 o2 o3:Nat) (u1 u2 u3:Value):KeepT 155 w (((w.setCell ⟨g,o1,none⟩ u1).setCell ⟨g,o2,none⟩ u2).setCell ⟨g,o3,none⟩ u3):=
 ((own_keepT1 h o1 u1).trans (own_keepT1 (own_set h (j:=o1) u1) o2 u2)).trans (own_keepT1 (own_set (own_set h (j:=o1) u1) (j:=o2) u2) o3 u3)
variable {ys zs zs0:List Tm} {k:Nat} {x z z':Tm}
theorem mkg_neg (h:Mkg ys k zs) (hx:ys[k]?=some x) (hc:x.c<0):Mkg ys (k+1) zs:=by
 refine ⟨h.up,h.pos,fun c hc0=>?_,fun z hz y hy=>h.le z hz y (by rw [drop_x hx];exact List.mem_cons_of_mem _ hy),by have:=h.len;omega⟩
 rw [h.sum c hc0,take_x hx,sumAt_snoc,if_neg (by omega),Rat.add_zero]
theorem up_drop (hU:Up ys) (hx:ys[k]?=some x):∀ y∈ys.drop (k+1),x.c<=y.c:=by
 have h1:Up (ys.drop k):=List.Pairwise.drop hU
 rw [drop_x hx] at h1
 exact fun y hy=>List.rel_of_pairwise_cons h1 hy
theorem mkg_app (h:Mkg ys k zs) (hU:Up ys) (hx:ys[k]?=some x) (hc:0<=x.c) (hne:∀ z∈zs,z.c≠x.c) (e1:z'.c=x.c) (e2:z'.q=x.q):Mkg ys (k+1) (zs++[z']):=by
 have hle:∀ z∈zs,z.c<x.c:=fun z hz=>by
  have:=h.le z hz x (by rw [drop_x hx];simp)
  have:=hne z hz
  omega
 refine ⟨?_,?_,fun c hc0=>?_,?_,by rw [List.length_append];have:=h.len;simp;omega⟩
 · rw [List.pairwise_append]
   refine ⟨h.up,List.pairwise_singleton _ _,fun a ha b hb=>?_⟩
   rw [List.mem_singleton.1 hb,e1];exact hle a ha
 · intro a ha
   rcases List.mem_append.1 ha with ha | ha
   · exact h.pos a ha
   · rw [List.mem_singleton.1 ha,e1];exact hc
 · rw [take_x hx,sumAt_snoc,sumAt_snoc,h.sum c hc0,e1,e2]
 · intro a ha y hy
   rcases List.mem_append.1 ha with ha | ha
   · exact h.le a ha y (by rw [drop_x hx];exact List.mem_cons_of_mem _ hy)
   · rw [List.mem_singleton.1 ha,e1];exact up_drop hU hx y hy
theorem mkg_add (h:Mkg ys k (zs0++[z])) (hU:Up ys) (hx:ys[k]?=some x) (hc:z.c=x.c) (e1:z'.c=x.c) (e2:z'.q=z.q+x.q):Mkg ys (k+1) (zs0++[z']):=by
 have h0:=h.pos z (by simp)
 have hu:=List.pairwise_append.1 h.up
 refine ⟨?_,?_,fun c hc0=>?_,?_,by have:=h.len;rw [List.length_append] at this ⊢;simp at this ⊢;omega⟩
 · rw [List.pairwise_append]
   refine ⟨hu.1,List.pairwise_singleton _ _,fun a ha b hb=>?_⟩
   rw [List.mem_singleton.1 hb,e1,<- hc];exact hu.2.2 a ha z (by simp)
 · intro a ha
   rcases List.mem_append.1 ha with ha | ha
   · exact h.pos a (by simp [ha])
   · rw [List.mem_singleton.1 ha,e1,<- hc];exact h0
 · have hs:=h.sum c hc0
   rw [sumAt_snoc] at hs ⊢
   rw [take_x hx,sumAt_snoc,<- hs,e1,e2,hc]
   split
   · rw [Rat.add_assoc]
   · rw [Rat.add_zero,Rat.add_zero]
 · intro a ha y hy
   rcases List.mem_append.1 ha with ha | ha
   · exact h.le a (by simp [ha]) y (by rw [drop_x hx];exact List.mem_cons_of_mem _ hy)
   · rw [List.mem_singleton.1 ha,e1];exact up_drop hU hx y hy
theorem sumAt_mem {zs:List Tm} (h:zs.Pairwise fun a b=>a.c<b.c) (hz:z∈zs):sumAt (zs.map Tm.t) z.c=z.q:=by
 induction zs with
 | nil=>cases hz
 | cons a zs ih=>
  have h1:∀ b∈zs,a.c<b.c:=fun b hb=>List.rel_of_pairwise_cons h hb
  show (if a.c=z.c then a.q else 0)+sumAt (zs.map Tm.t) z.c=z.q
  rcases List.mem_cons.1 hz with rfl | hz
  · rw [if_pos rfl,sumAt_none (fun t ht=>by obtain ⟨b,hb,rfl⟩:=List.mem_map.1 ht;exact Int.ne_of_gt (h1 b hb)),Rat.add_zero]
  · rw [if_neg (Int.ne_of_lt (h1 z hz)),Rat.zero_add,ih h.tail hz]
theorem mkg_size {L:Nat} (h:Mkg ys k zs) (hs:∀ y∈ys,Sz L y.q):∀ z∈zs,Sz (1+k*(L+1)) z.q:=fun z hz=>by
 rw [<- sumAt_mem h.up hz,h.sum _ (h.pos z hz)]
 refine (sz_sum (L:=L) (fun t ht=>?_) _).mono ?_
 · obtain ⟨y,hy,rfl⟩:=List.mem_map.1 ht
   exact hs y (List.mem_of_mem_take hy)
 · have:((ys.take k).map Tm.t).length<=k:=by rw [List.length_map,List.length_take];omega
   have:=Nat.mul_le_mul_right (L+1) this
   omega
theorem sumAt_nz (zs:List Tm) (c:Int):sumAt ((nzT zs).map Tm.t) c=sumAt (zs.map Tm.t) c:=by
 induction zs with
 | nil=>rfl
 | cons a zs ih=>
  unfold nzT at ih ⊢
  by_cases h:a.q=0
  · rw [List.filter_cons_of_neg (by simp [h]),ih]
    show _=(if a.c=c then a.q else 0)+sumAt (zs.map Tm.t) c
    rw [h];split<;>rw [Rat.zero_add]
  · rw [List.filter_cons_of_pos (by simp [h])]
    show (if a.c=c then a.q else 0)+sumAt _ c=(if a.c=c then a.q else 0)+sumAt (zs.map Tm.t) c
    rw [ih]
theorem mkg_ne (h:Mkg ys k (zs0++[z])) (hx:ys[k]?=some x) (hc:z.c≠x.c):∀ t∈zs0++[z],t.c≠x.c:=fun t ht=>by
 have h1:=h.le z (by simp) x (by rw [drop_x hx];simp)
 rcases List.mem_append.1 ht with ht | ht
 · have:=(List.pairwise_append.1 h.up).2.2 t ht z (by simp)
   omega
 · rw [List.mem_singleton.1 ht];exact hc
theorem mkg_end (h:Mkg ys ys.length zs):(nzT zs).map Tm.t=mkV (ys.map Tm.t):=by
 refine mk_of ⟨?_,?_,?_⟩ fun c hc=>by rw [sumAt_nz,h.sum c hc,List.take_length]
 · rw [List.pairwise_map]
   exact List.Pairwise.filter _ h.up
 · intro t ht
   obtain ⟨z,hz,rfl⟩:=List.mem_map.1 ht
   exact h.pos z (List.mem_filter.1 hz).1
 · intro t ht
   obtain ⟨z,hz,rfl⟩:=List.mem_map.1 ht
   exact of_decide_eq_true (List.mem_filter.1 hz).2
theorem ins_0 (A:Option Addr) (c:Nat) (w:World):Calls Tryz.prog 220 #[.slice A 0 c,.int .i64 0,.int .i64 0,.func (.func 172) #[] #[]] w fun e w'=>e=.returned (.tuple #[])/\w'=w:=by
 go_enter Tryz.func220,Tryz.ntmps220
 go_wp2_with fail
 go_loopw [8] (fun z wr=>z=.int .i64 1/\wr=w) (fun _ _=>0)
 case atStart=>exact ⟨rfl,rfl⟩
 case round=>
  obtain ⟨rfl,rfl⟩:=hrel
  go_wp2_with fail
  go_end0
  exact ⟨rfl,rfl⟩
theorem stable_0 (A:Option Addr) (c:Nat) (w:World):Calls Tryz.prog 195 #[.slice A 0 c,.int .i64 0,.func (.func 172) #[] #[]] w fun e w'=>e=.returned (.tuple #[])/\w'=w:=by
 go_enter Tryz.func195,Tryz.ntmps195
 go_wp2_with fail
 go_loopw [7,8] (fun z1 z2 wr=>z1=.int .i64 0/\z2=.int .i64 20/\wr=w) (fun _ _ _=>0)
 case atStart=>exact ⟨rfl,rfl,rfl⟩
 case round=>
  obtain ⟨rfl,rfl,rfl⟩:=hrel
  go_wp2_with fail
  refine (ins_0 A c _).mono ?_;rintro e w1 ⟨rfl,rfl⟩
  go_wp2_with fail
  go_loopw [6] (fun z1 wr=>z1=.int .i64 20/\Hid (wr=w1)) (fun _ _=>0)
  case atStart=>exact ⟨rfl,rfl⟩
  case round=>
   obtain ⟨rfl,E⟩:=hrel
   go_wp2_with fail
   go_end0
   exact ⟨rfl,E.out⟩
theorem sort_0 (A:Option Addr) (c:Nat) (w:World):Calls Tryz.prog 171 #[.slice A 0 c,.func (.func 172) #[] #[]] w fun e w'=>e=.returned (.tuple #[])/\w'=w:=by
 go_enter Tryz.func171,Tryz.ntmps171
 go_wp2_with fail
 refine (stable_0 A c _).mono ?_;rintro e w1 ⟨rfl,rfl⟩
 go_wp2_with fail
 go_end0
 exact ⟨rfl,rfl⟩
theorem sort_any {w:World} {B0:Nat} {u:Value} {xs:List Tm} (h:To w B0 u xs) (hB:B0<=w.heap.size) (h40:xs.length<=1099511627776):
 Calls Tryz.prog 171 #[u,.func (.func 172) #[] #[]] w fun e w'=>e=.returned (.tuple #[])/\∃ ys,To w' B0 u ys/\ys.Perm xs/\Up ys/\Below B0 w w':=by
 rcases Nat.eq_zero_or_pos xs.length with hz | hz
 · obtain rfl:=List.eq_nil_of_length_eq_zero hz
   obtain ⟨A,cap,rfl,-⟩:=h.trd
   refine (sort_0 A cap w).mono ?_
   rintro e w' ⟨he,rfl⟩
   exact ⟨he,[],h,List.Perm.refl _,List.Pairwise.nil,Below.refl _ _⟩
 · obtain ⟨g,cap,rfl,hs⟩:=h.sr hz
   refine (sortS_t hs rfl hB h40).mono ?_
   rintro e w' ⟨he,ys,h1,h2,h3,h4⟩
   refine ⟨he,ys,?_,h2,h3,h4⟩
   have:=h1.to
   rwa [h2.length_eq] at this
theorem make_v {w:World} {L:Nat} {v:Value} {l:Tms} (hv:Vt w L v l) (h0:0<L) (hL:L<=1048576) (hn:l.length<=4096):
 Calls Tryz.prog 118 #[v] w fun e w'=>∃ u zs,e=.returned u/\Vr w w' u zs/\zs.map Tm.t=mkV l:=by
 obtain ⟨xs,hx,rfl⟩:=hv
 have hn1:xs.length<=4096:=by simpa using hn
 have hq:∀ x∈xs,Qv w L x.num x.q:=by obtain ⟨A,cap,-,-,-,-,-,h⟩:=hx;exact h
 have HS:=Yh5 hx hq hn1 h0 hL
 clear hx hq hn h0 hL hn1
 go_enter Tryz.func118,Tryz.ntmps118
 go_wp2_with fail
 refine (clone_t HS.p0 (by have:=HS.p2;omega)).mono ?_;rintro e w1 ⟨u,rfl,h1,h2⟩
 have R1:=Yh2 h1 h2
 clear h1 h2
 go_wp2_with fail
 refine (sort_any R1.p0 R1.q1.size (by have:=HS.p2;omega)).mono ?_;rintro e w2 ⟨rfl,ys,h1,h2,h3,h4⟩
 obtain ⟨A,cap,rfl,q1,q2,q3,q4⟩:=h1.trd
 obtain ⟨n,hyn⟩:∃ n,ys.length=n:=⟨_,rfl⟩
 have hbw:Yg w w2:=R1.q1.trans h4
 have hyq:∀ y∈ys,Qv w2 L y.num y.q:=fun y hy=>(HS.p1 y (h2.mem_iff.1 hy)).keep hbw
 have hn4:n<=4096:=by rw [<- hyn,h2.length_eq];exact HS.p2
 have hmk:mkV (ys.map Tm.t)=mkV (xs.map Tm.t):=mk_perm (h2.map _)
 rw [hyn]
 have R2:=Yh6 q4 hyq h3 hbw hmk hyn
 have HB:=Yh2 HS.p3 HS.q4
 clear h1 h2 h3 h4 q1 q2 q3 q4 hbw hyq hmk hyn R1 HS
 go_wp2_with fail
 go_loopw [2,13] (fun z1 z2 wr=>∃ (k:Nat) (zs:List Tm) (u1:Value),z2=.int .i64 (k:Int)/\k<=n/\u1=z1/\Hid (Vr w2 wr u1 zs/\Mkg ys k zs)) (fun _ z2 _=>n - (intOf z2).toNat)
 case atStart=>exact ⟨0,[],_,rfl,Nat.zero_le _,rfl,⟨To.nil _ _,by simp,Below.refl _ _⟩,mkg_start ys⟩
 case round=>
  obtain ⟨k,zs,u1,rfl,hk,rfl,H⟩:=hrel
  by_cases hlt:k<n
  · have hky:k<ys.length:=by rw [R2.q5];exact hlt
    obtain ⟨x,hx⟩:∃ x,ys[k]?=some x:=⟨_,List.getElem?_eq_getElem hky⟩
    obtain ⟨g,off,rfl,hgl,c0,c1,c2,c3⟩:=(R2.p0.keep H.p0.2.2).at_ hx
    have HX:=Lib.hid hx
    have d0:(k:Int)<(n:Int):=Yo
    clear hx hgl hky
    go_upto_region 6 with (fail)
    have X:=B4.new 85 wr (.int .i64 x.c) (.bool x.b) (.slice x.A x.l x.k) (.slice x.B x.m x.d)
    have hal:=Ya wr (.cells #[.int .i64 x.c,.bool x.b,.slice x.A x.l x.k,.slice x.B x.m x.d] 85)
    have T:=Yh3 (H.p0.keep hal) X ((R2.p1 x (List.mem_of_getElem? HX.out)).keep (Yb H.p0.2.2 hal))
    have hgw:wr.heap.size<(wr.alloc (.cells #[.int .i64 x.c,.bool x.b,.slice x.A x.l x.k,.slice x.B x.m x.d] 85)).heap.size:=X.lt
    have hw2:=H.p0.2.2.size
    obtain ⟨g5,hg5⟩:∃ k,k=wr.heap.size:=⟨_,rfl⟩
    have HM:=Lib.hid H.q1
    have HO:Hid (∀ ga,u1.ownBlock=some ga->ga<g5):=fun ga hga=>by
     rw [hg5]
     obtain ⟨cs,e,m,hh,-⟩:=own_type H.p0.1 ga hga
     exact heap_lt hh
    rw [<- hg5] at T hw2 ⊢
    generalize wr.alloc _=W1 at T ⊢
    clear X hal hg5 hgw c0 c1 c2 c3 H
    obtain ⟨x0,x1,x2,x3⟩:=T.p1.facts
    by_cases hneg:x.c<0
    · have d1:x.c<0:=hneg
      have hM:=Lib.hid (mkg_neg HM.out HX.out hneg)
      clear hneg
      go_wp2_with fail
      case roundEnd=>exact ⟨⟨k+1,zs,u1,by go_num,Yo,rfl,T.p0,hM.out⟩,by simp [intOf];omega⟩
    · have d1:¬ x.c<0:=hneg
      clear hneg
      rcases List.eq_nil_or_concat zs with rfl | ⟨zs0,z,hzz⟩
      · obtain ⟨Ao,co,rfl,-⟩:=T.p0.1.shape
        have hne:Hid (∀ z∈([]:List Tm),z.c≠x.c):=fun z hz=>by cases hz
        go_upto_region 8 with (fail)
        refine wp_region_held_drew (S:=fun _=>True) (by kernel_rfl) trivial (fun Hh=>?_)
        refine rgRun 13 [0,1,2,3,4,5,6,7,8,9,10,11,12] Hh fun K hK=>?_
        repeat first|refine rgA ?_|refine rgB ?_
        refine hK _ _ ?_;clear hK K
        refine Yw ?_
        have TT:Hid (Vr w2 W1.drew (.slice Ao 0 co) []/\B4 85 W1.drew g5 (.int .i64 x.c) (.bool x.b) (.slice x.A x.l x.k) (.slice x.B x.m x.d)/\Qv W1.drew L x.num x.q):=⟨T.p0.keep (below_dr _ 1),T.p1.keep (below_dr _ 1),T.q2.keep (below_dr _ 1)⟩
        clear Hh T x0 x1 x2 x3
        generalize W1.drew=W1 at TT ⊢
        have T:=TT
        clear TT
        obtain ⟨x0,x1,x2,x3⟩:=T.p1.facts
        go_upto_region 10 with (fail)
        refine wp_region_held_drew (S:=(fun W=>Ye4 W g5 (.int .i64 x.c) (.bool x.b) (.slice x.A x.l x.k) (.slice x.B x.m x.d))) (by kernel_rfl) ((T.p1.keep (below_dr _ 1)).facts) (fun Hh=>?_)
        refine rgRun 5 [0,1,2,3,4] Hh fun K hK=>?_
        repeat refine rgA ?_
        refine hK _ _ ?_;clear hK K
        have T0:Hid (Vr w2 W1.drew (.slice Ao 0 co) []/\B4 85 W1.drew g5 (.int .i64 x.c) (.bool x.b) (.slice x.A x.l x.k) (.slice x.B x.m x.d)/\Qv W1.drew L x.num x.q):=⟨T.p0.keep (below_dr _ 1),T.p1.keep (below_dr _ 1),T.q2.keep (below_dr _ 1)⟩
        generalize W1.drew=Wd at T0 Hh ⊢
        clear T x0 x1 x2 x3
        refine rgO 5 fun K hK=>?_
        go_simp
        go_at_call 119;refine (form_v (a:=x.num) T0.q2 HB.p0 (by have:=HB.q1;omega)).mono ?_;rintro e w4 ⟨v4,rfl,h4⟩
        obtain ⟨p4,A4,l4,k4,B4',m4,d4,rfl⟩:=h4.parts
        have T1:Hid (Vr w2 w4 (.slice Ao 0 co) []/\B4 85 w4 g5 (.int .i64 x.c) (.bool x.b) (.slice x.A x.l x.k) (.slice x.B x.m x.d)/\Qr w2 w4 (.agg #[.bool p4,.slice A4 l4 k4,.slice B4' m4 d4]) x.q):=⟨T0.p0.keep h4.below,T0.p1.keep h4.below,h4.from T0.p0.2.2⟩
        clear h4 Hh T0
        go_wp2_with fail
        refine rgK hK T1.p1.facts fun Hh=>?_;clear hK K
        refine rgT 6 Hh ?_
        refine rgO 7 fun K hK=>?_
        go_simp
        have hal:=Ya w4 (.cells #[.int .i64 x.c,.bool p4,.slice A4 l4 k4,.slice B4' m4 d4] 85)
        have hnew:=(B4.new 85 w4 (.int .i64 x.c) (.bool p4) (.slice A4 l4 k4) (.slice B4' m4 d4))
        have T2:Hid (Vr w2 (w4.alloc (.cells #[.int .i64 x.c,.bool p4,.slice A4 l4 k4,.slice B4' m4 d4] 85)) (.slice Ao 0 co) []/\B4 85 (w4.alloc (.cells #[.int .i64 x.c,.bool p4,.slice A4 l4 k4,.slice B4' m4 d4] 85)) g5 (.int .i64 x.c) (.bool x.b) (.slice x.A x.l x.k) (.slice x.B x.m x.d)/\Qr w2 (w4.alloc (.cells #[.int .i64 x.c,.bool p4,.slice A4 l4 k4,.slice B4' m4 d4] 85)) (.agg #[.bool p4,.slice A4 l4 k4,.slice B4' m4 d4]) x.q/\B4 85 (w4.alloc (.cells #[.int .i64 x.c,.bool p4,.slice A4 l4 k4,.slice B4' m4 d4] 85)) w4.heap.size (.int .i64 x.c) (.bool p4) (.slice A4 l4 k4) (.slice B4' m4 d4)):=⟨T1.p0.keep hal,T1.p1.keep hal,T1.q2.keep hal,hnew⟩
        refine rgK hK T2.p1.facts fun Hh=>?_;clear hK K
        clear hal hnew T1
        obtain ⟨gn,hgn⟩:∃ k,w4.heap.size=k:=⟨_,rfl⟩
        rw [hgn] at T2 ⊢
        generalize w4.alloc _=W5 at T2 Hh ⊢
        clear hgn
        obtain ⟨i0,hi0,hz0,hz1,hz2⟩:=info_parts term_info
        obtain ⟨nw,hnw⟩:∃ z:Tm,z=⟨x.c,p4,A4,l4,k4,B4',m4,d4,x.q⟩:=⟨_,rfl⟩
        have hzl:([]:List Tm).length<=4096:=by have:=HM.out.len;omega
        have hcn:∀ (j:Nat) (u:Value),(flatT [nw])[j]?=some u->W5.cell? ((⟨gn,0,none⟩:Addr).add j)=some u:=fun j u hj=>by
         have e:(⟨gn,0,none⟩:Addr).add j=⟨gn,j,none⟩:=by unfold Addr.add;split<;>simp_all
         obtain ⟨f0,f1,f2,f3⟩:=T2.q3.facts
         rw [e]
         rw [hnw] at hj
         match j,hj with
         | 0,hj=>injection hj with hj;rw [<- hj];exact f0
         | 1,hj=>injection hj with hj;rw [<- hj];exact f1
         | 2,hj=>injection hj with hj;rw [<- hj];exact f2
         | 3,hj=>injection hj with hj;rw [<- hj];exact f3
        refine rgO 8 fun K hK=>?_
        rw [if_pos (by rfl)]
        refine wp_append_own _ (.tmp 49) (.tmp 56) 32 rfl w2.heap.size 85 i0 _ 4 64 Tryz.underlying32 hi0 hz0 hz1 hz2 rfl Yd _ ([]:List Tm).length (flatT ([]:List Tm)) rfl T2.p0.1 ⟨gn,0,none⟩ 1 1 (flatT [nw]) rfl (by rw [flatT_len];rfl) hcn flatT_one (by unfold maxLen;omega) Yo T2.p0.2.2.size ?_
        intro v6 w6 hown hg6 hnil6
        have hkT:KeepT 155 W5 w6:=own_keepT_of T2.p0.1 hg6 (Ne.symm term_word)
        have hb6:Yg w2 w6:=T2.p0.2.2.grown hg6 T2.p0.2.2.size (fun k hk=>((T2.p0.1).lt k hk).1)
        have hM:=Lib.hid (mkg_app (z':=nw) HM.out R2.p2 HX.out Yo hne.out (by rw [hnw]) (by rw [hnw]))
        have hV:Hid (Vr w2 w6 v6 (([]:List Tm)++[nw])):=by
         refine ⟨?_,fun z hz=>?_,hb6⟩
         · unfold To;rw [flatT_app,List.length_append];exact hown
         · rcases List.mem_append.1 hz with hz | hz
           · exact (T2.p0.2.1 z hz).keepT hkT hb6
           · rw [List.mem_singleton.1 hz,hnw];exact T2.p2.keepT hkT hb6
        have hX6:B4 85 w6 g5 (.int .i64 x.c) (.bool x.b) (.slice x.A x.l x.k) (.slice x.B x.m x.d):=by
         unfold B4
         rw [hg6.block g5 T2.p1.lt (fun e=>absurd (HO.out g5 e.symm) (Nat.lt_irrefl _))]
         exact T2.p1
        refine rgK hK hX6.facts fun Hh=>?_;clear hK K
        refine rgT 9 Hh ?_
        refine Yw ?_
        clear Hh hkT hb6 hown hg6 hnil6 hcn hX6 T2 hnw
        go_wp2_with fail
        case roundEnd=>exact ⟨⟨k+1,_,v6,by go_num,Yo,rfl,hV.out,hM.out⟩,by simp [intOf];omega⟩
      · obtain ⟨zs0,z,rfl⟩:∃ zs0 z,zs=zs0++[z]:=⟨zs0,z,by simpa using hzz⟩
        clear hzz
        obtain ⟨go,co,rfl,hsr⟩:=T.p0.1.sr (by simp)
        obtain ⟨m1,hm1⟩:∃ k,zs0.length=k:=⟨_,rfl⟩
        obtain ⟨m,hm⟩:∃ k,(zs0++[z]).length=k:=⟨_,rfl⟩
        have hmm:m=m1+1:=by rw [<- hm,List.length_append,hm1];rfl
        have hz1:(zs0++[z])[m1]?=some z:=by rw [List.getElem?_append_right (by omega),hm1,Nat.sub_self];rfl
        have hgo:go<g5:=HO.out go rfl
        have hme:=HM.out.len
        rw [hm] at T HO hme ⊢
        have HZ:=Yh4 hz1 hm1 hm hmm
        have e3:IntKind.i64.wrap ((m:Int) - 1)=(m1:Int):=by rw [IntKind.wrap_i64];omega
        have e4:(m1:Int)<(m:Int):=Yo
        have e5:0<m:=Yo
        have e7:decide (0<m)=true:=decide_eq_true e5
        have hE:=(hsr.at_ hz1).1
        have HE:=Lib.hid hE
        clear hz1 hm hmm hm1 hE hme
        by_cases hc:z.c=x.c
        · have e6:(z.c==x.c)=true:=by rw [hc];exact beq_self_eq_true _
          have HCC:=Lib.hid hc
          clear hc
          go_upto_region 8 with (fail)
          refine wp_region_held_drew (S:=fun W=>W.cell? ⟨go,m1*4,none⟩=some (.int .i64 z.c)/\W.cell? ⟨g5,0,none⟩=some (.int .i64 x.c)) (by kernel_rfl) ⟨HE.p0,x0⟩ (fun Hh=>?_)
          refine rgRun 13 [0,1,2,3,4,5,6,7,8,9,10,11,12] Hh fun K hK=>?_
          repeat refine rgA ?_
          refine hK _ _ ?_;clear hK K
          refine Yw ?_
          have TT:Hid (Vr w2 W1.drew (.slice (some ⟨go,0,none⟩) m co) (zs0++[z])/\B4 85 W1.drew g5 (.int .i64 x.c) (.bool x.b) (.slice x.A x.l x.k) (.slice x.B x.m x.d)/\Qv W1.drew L x.num x.q/\Sr W1.drew w2.heap.size go co (zs0++[z])):=⟨T.p0.keep (below_dr _ 1),T.p1.keep (below_dr _ 1),T.q2.keep (below_dr _ 1),hsr.keep (below_dr _ 1)⟩
          clear Hh T x0 x1 x2 x3 HE hsr e6
          generalize W1.drew=W1 at TT ⊢
          have T:Hid (Vr w2 W1 (.slice (some ⟨go,0,none⟩) m co) (zs0++[z])/\B4 85 W1 g5 (.int .i64 x.c) (.bool x.b) (.slice x.A x.l x.k) (.slice x.B x.m x.d)/\Qv W1 L x.num x.q):=⟨TT.p0,TT.p1,TT.p2⟩
          have hsr:=Lib.hid TT.q3
          clear TT
          obtain ⟨x0,x1,x2,x3⟩:=T.p1.facts
          obtain ⟨y0,y1,y2,y3⟩:=(hsr.out.at_ HZ.p0).1
          go_upto_region 9 with (fail)
          refine wp_region_held_drew (S:=fun W=>W.cell? ⟨g5,1,none⟩=some (.bool x.b)/\W.cell? ⟨g5,2,none⟩=some (.slice x.A x.l x.k)/\W.cell? ⟨g5,3,none⟩=some (.slice x.B x.m x.d)) (by kernel_rfl) ⟨x1,x2,x3⟩ (fun Hh=>?_)
          refine rgRun 10 [0,1,2,3,4,5,6,7,9,10] Hh fun K hK=>?_
          repeat refine rgA ?_
          refine hK _ _ ?_;clear hK K
          have T0:Hid (Vr w2 W1.drew (.slice (some ⟨go,0,none⟩) m co) (zs0++[z])/\B4 85 W1.drew g5 (.int .i64 x.c) (.bool x.b) (.slice x.A x.l x.k) (.slice x.B x.m x.d)/\Qv W1.drew L x.num x.q/\Sr W1.drew w2.heap.size go co (zs0++[z])):=⟨T.p0.keep (below_dr _ 1),T.p1.keep (below_dr _ 1),T.q2.keep (below_dr _ 1),hsr.out.keep (below_dr _ 1)⟩
          generalize W1.drew=Wd at T0 Hh ⊢
          clear T x0 x1 x2 x3 y0 y1 y2 y3 hsr
          obtain ⟨y0,y1,y2,y3⟩:=(T0.q3.at_ HZ.p0).1
          obtain ⟨x0,x1,x2,x3⟩:=T0.p1.facts
          refine rgO 8 fun K hK=>?_
          go_simp
          refine rgK hK ⟨x1,x2,x3⟩ fun Hh=>?_;clear hK K
          clear x0 x1 x2 x3 y0 y1 y2 y3
          refine rgO 11 fun K hK=>?_
          go_simp
          have hzq:=mkg_size (L:=L) HM.out (fun y hy=>(R2.p1 y hy).sz HB.p0) z (by simp)
          have hzv:Qv Wd (1+k*(L+1)) z.num z.q:=(T0.p0.2.1 z (by simp)).qv hzq
          go_at_call 95;refine (add_v (a:=z.num) (u:=x.num) hzv T0.p2 Yo HB.p0 (by have:=HB.q1;have:=Nat.mul_le_mul (show k<=4096 by omega) (show L+1<=1048577 by omega);omega) (by have:=HB.q1;omega)).mono ?_;rintro e w4 ⟨v4,rfl,h4⟩
          obtain ⟨p4,A4,l4,k4,B4',m4,d4,rfl⟩:=h4.parts
          have T1:Hid (Vr w2 w4 (.slice (some ⟨go,0,none⟩) m co) (zs0++[z])/\B4 85 w4 g5 (.int .i64 x.c) (.bool x.b) (.slice x.A x.l x.k) (.slice x.B x.m x.d)/\Qr w2 w4 (.agg #[.bool p4,.slice A4 l4 k4,.slice B4' m4 d4]) (z.q+x.q)/\Sr w4 w2.heap.size go co (zs0++[z])):=⟨T0.p0.keep h4.below,T0.p1.keep h4.below,h4.from T0.p0.2.2,T0.q3.keep h4.below⟩
          clear h4 Hh T0 hzq hzv
          go_wp2_with fail
          obtain ⟨⟨y0,y1,y2,y3⟩,hBg,-,hfr⟩:=T1.q3.at_ HZ.p0
          obtain ⟨x0,x1,x2,x3⟩:=T1.p1.facts
          refine rgK hK ⟨x1,x2,x3⟩ fun Hh=>?_;clear hK K
          refine rgT 12 Hh ?_
          refine rgT 13 Hh ?_
          have f1:=hfr (m1*4+1);have f2:=hfr (m1*4+2);have f3:=hfr (m1*4+3)
          obtain ⟨nw,hnw⟩:∃ t:Tm,t=⟨z.c,p4,A4,l4,k4,B4',m4,d4,z.q+x.q⟩:=⟨_,rfl⟩
          have hM:=Lib.hid (mkg_add (z':=nw) HM.out R2.p2 HX.out HCC.out (by rw [hnw];exact HCC.out) (by rw [hnw]))
          have hset:(zs0++[z]).set m1 nw=zs0++[nw]:=by rw [List.set_append_right _ _ (by have:=HZ.out;omega),HZ.p1,Nat.sub_self];rfl
          have hV:Hid (Vr w2 (((w4.setCell ⟨go,m1*4+1,none⟩ (.bool p4)).setCell ⟨go,m1*4+2,none⟩ (.slice A4 l4 k4)).setCell ⟨go,m1*4+3,none⟩ (.slice B4' m4 d4)) (.slice (some ⟨go,0,none⟩) m co) (zs0++[nw])):=by
           have hb:Yg w2 (((w4.setCell ⟨go,m1*4+1,none⟩ (.bool p4)).setCell ⟨go,m1*4+2,none⟩ (.slice A4 l4 k4)).setCell ⟨go,m1*4+3,none⟩ (.slice B4' m4 d4)):=((T1.p0.2.2.setCell hBg _).setCell hBg _).setCell hBg _
           have hk:=T1.q3.keepT3 (m1*4+1) (m1*4+2) (m1*4+3) (.bool p4) (.slice A4 l4 k4) (.slice B4' m4 d4)
           refine ⟨?_,fun t ht=>?_,hb⟩
           · have h1:=T1.q3.put3 (z':=nw) HZ.p0 (by rw [hnw])
             rw [hset,hnw] at h1
             have h2:=h1.to
             have e:(zs0++[(⟨z.c,p4,A4,l4,k4,B4',m4,d4,z.q+x.q⟩:Tm)]).length=m:=by rw [List.length_append];have:=HZ.out;simp;omega
             rw [e] at h2
             rw [hnw];exact h2
           · rcases List.mem_append.1 ht with ht | ht
             · exact (T1.p0.2.1 t (by simp [ht])).keepT hk hb
             · rw [List.mem_singleton.1 ht,hnw];exact T1.p2.keepT hk hb
          have hX9:Hid (B4 85 (((w4.setCell ⟨go,m1*4+1,none⟩ (.bool p4)).setCell ⟨go,m1*4+2,none⟩ (.slice A4 l4 k4)).setCell ⟨go,m1*4+3,none⟩ (.slice B4' m4 d4)) g5 (.int .i64 x.c) (.bool x.b) (.slice x.A x.l x.k) (.slice x.B x.m x.d)):=by
           have hne:g5≠go:=Nat.ne_of_gt hgo
           exact ((((Below.heap_setCell _ _ _ _ (by exact hne)).trans (Below.heap_setCell _ _ _ _ (by exact hne))).trans (Below.heap_setCell _ _ _ _ (by exact hne))).trans T1.p1)
          refine rgO 14 fun K hK=>?_
          go_simp
          refine rgK hK ⟨hX9.out.facts.2.1,hX9.out.facts.2.2.1,hX9.out.facts.2.2.2⟩ fun Hh=>?_;clear hK K
          refine Yw ?_
          clear Hh y0 y1 y2 y3 x0 x1 x2 x3 f1 f2 f3 hfr hX9 hset hnw T1
          go_wp2_with fail
          case roundEnd=>exact ⟨⟨k+1,_,_,by go_num,Yo,rfl,hV.out,hM.out⟩,by simp [intOf];omega⟩
        · have e6:(z.c==x.c)=false:=beq_eq_false_iff_ne.2 hc
          have HCC:=Lib.hid hc
          clear hc
          go_upto_region 8 with (fail)
          refine wp_region_held_drew (S:=fun W=>W.cell? ⟨go,m1*4,none⟩=some (.int .i64 z.c)/\W.cell? ⟨g5,0,none⟩=some (.int .i64 x.c)) (by kernel_rfl) ⟨HE.p0,x0⟩ (fun Hh=>?_)
          refine rgRun 13 [0,1,2,3,4,5,6,7,8,9,10,11,12] Hh fun K hK=>?_
          repeat refine rgA ?_
          refine hK _ _ ?_;clear hK K
          refine Yw ?_
          have TT:Hid (Vr w2 W1.drew (.slice (some ⟨go,0,none⟩) m co) (zs0++[z])/\B4 85 W1.drew g5 (.int .i64 x.c) (.bool x.b) (.slice x.A x.l x.k) (.slice x.B x.m x.d)/\Qv W1.drew L x.num x.q/\Sr W1.drew w2.heap.size go co (zs0++[z])):=⟨T.p0.keep (below_dr _ 1),T.p1.keep (below_dr _ 1),T.q2.keep (below_dr _ 1),hsr.keep (below_dr _ 1)⟩
          clear Hh T x0 x1 x2 x3 HE hsr e6
          generalize W1.drew=W1 at TT ⊢
          have T:Hid (Vr w2 W1 (.slice (some ⟨go,0,none⟩) m co) (zs0++[z])/\B4 85 W1 g5 (.int .i64 x.c) (.bool x.b) (.slice x.A x.l x.k) (.slice x.B x.m x.d)/\Qv W1 L x.num x.q):=⟨TT.p0,TT.p1,TT.p2⟩
          have hsr:=Lib.hid TT.q3
          clear TT
          obtain ⟨x0,x1,x2,x3⟩:=T.p1.facts
          have hne:=Lib.hid (mkg_ne HM.out HX.out HCC.out)
          go_upto_region 10 with (fail)
          refine wp_region_held_drew (S:=(fun W=>Ye4 W g5 (.int .i64 x.c) (.bool x.b) (.slice x.A x.l x.k) (.slice x.B x.m x.d))) (by kernel_rfl) ((T.p1.keep (below_dr _ 1)).facts) (fun Hh=>?_)
          refine rgRun 5 [0,1,2,3,4] Hh fun K hK=>?_
          repeat refine rgA ?_
          refine hK _ _ ?_;clear hK K
          have T0:Hid (Vr w2 W1.drew (.slice (some ⟨go,0,none⟩) m co) (zs0++[z])/\B4 85 W1.drew g5 (.int .i64 x.c) (.bool x.b) (.slice x.A x.l x.k) (.slice x.B x.m x.d)/\Qv W1.drew L x.num x.q):=⟨T.p0.keep (below_dr _ 1),T.p1.keep (below_dr _ 1),T.q2.keep (below_dr _ 1)⟩
          generalize W1.drew=Wd at T0 Hh ⊢
          clear T x0 x1 x2 x3
          refine rgO 5 fun K hK=>?_
          go_simp
          go_at_call 119;refine (form_v (a:=x.num) T0.q2 HB.p0 (by have:=HB.q1;omega)).mono ?_;rintro e w4 ⟨v4,rfl,h4⟩
          obtain ⟨p4,A4,l4,k4,B4',m4,d4,rfl⟩:=h4.parts
          have T1:Hid (Vr w2 w4 (.slice (some ⟨go,0,none⟩) m co) (zs0++[z])/\B4 85 w4 g5 (.int .i64 x.c) (.bool x.b) (.slice x.A x.l x.k) (.slice x.B x.m x.d)/\Qr w2 w4 (.agg #[.bool p4,.slice A4 l4 k4,.slice B4' m4 d4]) x.q):=⟨T0.p0.keep h4.below,T0.p1.keep h4.below,h4.from T0.p0.2.2⟩
          clear h4 Hh T0
          go_wp2_with fail
          refine rgK hK T1.p1.facts fun Hh=>?_;clear hK K
          refine rgT 6 Hh ?_
          refine rgO 7 fun K hK=>?_
          go_simp
          have hal:=Ya w4 (.cells #[.int .i64 x.c,.bool p4,.slice A4 l4 k4,.slice B4' m4 d4] 85)
          have hnew:=(B4.new 85 w4 (.int .i64 x.c) (.bool p4) (.slice A4 l4 k4) (.slice B4' m4 d4))
          have T2:Hid (Vr w2 (w4.alloc (.cells #[.int .i64 x.c,.bool p4,.slice A4 l4 k4,.slice B4' m4 d4] 85)) (.slice (some ⟨go,0,none⟩) m co) (zs0++[z])/\B4 85 (w4.alloc (.cells #[.int .i64 x.c,.bool p4,.slice A4 l4 k4,.slice B4' m4 d4] 85)) g5 (.int .i64 x.c) (.bool x.b) (.slice x.A x.l x.k) (.slice x.B x.m x.d)/\Qr w2 (w4.alloc (.cells #[.int .i64 x.c,.bool p4,.slice A4 l4 k4,.slice B4' m4 d4] 85)) (.agg #[.bool p4,.slice A4 l4 k4,.slice B4' m4 d4]) x.q/\B4 85 (w4.alloc (.cells #[.int .i64 x.c,.bool p4,.slice A4 l4 k4,.slice B4' m4 d4] 85)) w4.heap.size (.int .i64 x.c) (.bool p4) (.slice A4 l4 k4) (.slice B4' m4 d4)):=⟨T1.p0.keep hal,T1.p1.keep hal,T1.q2.keep hal,hnew⟩
          refine rgK hK T2.p1.facts fun Hh=>?_;clear hK K
          clear hal hnew T1
          obtain ⟨gn,hgn⟩:∃ k,w4.heap.size=k:=⟨_,rfl⟩
          rw [hgn] at T2 ⊢
          generalize w4.alloc _=W5 at T2 Hh ⊢
          clear hgn
          obtain ⟨i0,hi0,hz0,hz1,hz2⟩:=info_parts term_info
          obtain ⟨nw,hnw⟩:∃ z:Tm,z=⟨x.c,p4,A4,l4,k4,B4',m4,d4,x.q⟩:=⟨_,rfl⟩
          have hzl:(zs0++[z]).length<=4096:=by have:=HM.out.len;omega
          have hcn:∀ (j:Nat) (u:Value),(flatT [nw])[j]?=some u->W5.cell? ((⟨gn,0,none⟩:Addr).add j)=some u:=fun j u hj=>by
           have e:(⟨gn,0,none⟩:Addr).add j=⟨gn,j,none⟩:=by unfold Addr.add;split<;>simp_all
           obtain ⟨f0,f1,f2,f3⟩:=T2.q3.facts
           rw [e]
           rw [hnw] at hj
           match j,hj with
           | 0,hj=>injection hj with hj;rw [<- hj];exact f0
           | 1,hj=>injection hj with hj;rw [<- hj];exact f1
           | 2,hj=>injection hj with hj;rw [<- hj];exact f2
           | 3,hj=>injection hj with hj;rw [<- hj];exact f3
          refine rgO 8 fun K hK=>?_
          rw [if_pos (by rfl)]
          refine wp_append_own _ (.tmp 49) (.tmp 56) 32 rfl w2.heap.size 85 i0 _ 4 64 Tryz.underlying32 hi0 hz0 hz1 hz2 rfl Yd _ (zs0++[z]).length (flatT (zs0++[z])) rfl T2.p0.1 ⟨gn,0,none⟩ 1 1 (flatT [nw]) rfl (by rw [flatT_len];rfl) hcn flatT_one (by unfold maxLen;omega) Yo T2.p0.2.2.size ?_
          intro v6 w6 hown hg6 hnil6
          have hkT:KeepT 155 W5 w6:=own_keepT_of T2.p0.1 hg6 (Ne.symm term_word)
          have hb6:Yg w2 w6:=T2.p0.2.2.grown hg6 T2.p0.2.2.size (fun k hk=>((T2.p0.1).lt k hk).1)
          have hM:=Lib.hid (mkg_app (z':=nw) HM.out R2.p2 HX.out Yo hne.out (by rw [hnw]) (by rw [hnw]))
          have hV:Hid (Vr w2 w6 v6 ((zs0++[z])++[nw])):=by
           refine ⟨?_,fun z hz=>?_,hb6⟩
           · unfold To;rw [flatT_app,List.length_append];exact hown
           · rcases List.mem_append.1 hz with hz | hz
             · exact (T2.p0.2.1 z hz).keepT hkT hb6
             · rw [List.mem_singleton.1 hz,hnw];exact T2.p2.keepT hkT hb6
          have hX6:B4 85 w6 g5 (.int .i64 x.c) (.bool x.b) (.slice x.A x.l x.k) (.slice x.B x.m x.d):=by
           unfold B4
           rw [hg6.block g5 T2.p1.lt (fun e=>absurd (HO.out g5 e.symm) (Nat.lt_irrefl _))]
           exact T2.p1
          refine rgK hK hX6.facts fun Hh=>?_;clear hK K
          refine rgT 9 Hh ?_
          refine Yw ?_
          clear Hh hkT hb6 hown hg6 hnil6 hcn hX6 T2 hnw
          go_wp2_with fail
          case roundEnd=>exact ⟨⟨k+1,_,v6,by go_num,Yo,rfl,hV.out,hM.out⟩,by simp [intOf];omega⟩
  · have hkn:k=ys.length:=by have:=R2.q5;omega
    have hM:Mkg ys ys.length zs:=by rw [<- hkn];exact H.q1
    have hsz:=mkg_size (L:=L) H.q1 (fun y hy=>(R2.p1 y hy).sz HB.p0)
    have hln:=H.q1.len
    have d0:¬ (k:Int)<(n:Int):=Yo
    have HF:=Yh3 (mkg_end hM) hsz hln
    clear hM hsz hln hkn
    go_wp2_with fail
    refine (del_t (L:=1+k*(L+1)) H.p0 HF.p1 (by have:=HB.q1;have:=Nat.mul_le_mul (show k<=4096 by omega) (show L+1<=1048577 by omega);omega) (by have:=HF.q2;omega)).mono ?_;rintro e w4 ⟨v4,rfl,h4⟩
    have R:=Lib.hid h4
    clear h4
    go_wp2_with fail
    go_ret
    exact ⟨_,nzT zs,rfl,R.out.from R2.p3,by rw [HF.p0];exact R2.p4⟩
end
end
section
section
open Go Go.RowKit Go.Proofs Pl
def scaleT (q:Rat) (l:Tms):Tms:=l.map fun t=>(t.1,q*t.2)
theorem scale_succ {l:Tms} {k:Nat} {t:Int × Rat} (h:l[k]?=some t) (q:Rat):scaleT q (l.take (k+1))=scaleT q (l.take k)++[(t.1,q*t.2)]:=by
 obtain ⟨hk,rfl⟩:=List.getElem?_eq_some_iff.1 h
 unfold scaleT
 rw [List.take_succ_eq_append_getElem hk,List.map_append];rfl
theorem axpy_v {w:World} {La L M:Nat} {a v u0:Value} {q:Rat} {l m:Tms} (ha:Qv w La a q) (hv:Vt w L v l) (hu:Vt w M u0 m) (h0:0<La) (h1:0<L) (h2:0<M) (hLa:La<=262144) (hL:L<=262144) (hM:M<=262144) (hl:l.length<=1024) (hm:m.length<=1024):
 Calls Tryz.prog 131 #[a,v,u0] w fun e w'=>∃ u zs,e=.returned u/\Vr w w' u zs/\zs.map Tm.t=mkV (m++scaleT q l):=by
 obtain ⟨xs,hxs,rfl⟩:=hv
 obtain ⟨ys,hys,rfl⟩:=hu
 have hxq:∀ x∈xs,Qv w L x.num x.q:=by obtain ⟨A,cap,-,-,-,-,-,h⟩:=hxs;exact h
 have hyq:∀ x∈ys,Qv w M x.num x.q:=by obtain ⟨A,cap,-,-,-,-,-,h⟩:=hys;exact h
 obtain ⟨A,cap,rfl,q1,q2,q3,q4,-⟩:=hxs
 obtain ⟨pa,Aa,la,ca,Ba,ma,da,rfl⟩:=ha.parts
 obtain ⟨n,hn⟩:∃ n,xs.length=n:=⟨_,rfl⟩
 have hn4:n<=1024:=by rw [<- hn];simpa using hl
 have hy4:ys.length<=1024:=by simpa using hm
 rw [hn]
 have HS:=Yh6 hys hyq hxq q4 hn ha
 have HB:=Yh7 h0 h1 h2 hLa hL hM hy4
 clear hys hyq hxq ha h0 h1 h2 hLa hL hM hl hm hy4 q1 q2 q3 q4 hn
 go_enter Tryz.func131,Tryz.ntmps131
 go_upto_region 1 with (fail)
 have X3:=B3.new 37 w (.bool pa) (.slice Aa la ca) (.slice Ba ma da)
 have hal:=Ya w (.cells #[.bool pa,.slice Aa la ca,.slice Ba ma da] 37)
 have S0:=Yh2 X3 hal
 have hs0:(w.alloc (.cells #[.bool pa,.slice Aa la ca,.slice Ba ma da] 37)).heap.size=w.heap.size+1:=World.size_alloc w _
 clear X3 hal
 generalize w.alloc _=W0 at S0 hs0 ⊢
 go_wp2_with fail
 refine (clone_t (HS.p0.keep S0.q1) (by have:=HB.out;omega)).mono ?_;rintro e w1 ⟨u,rfl,g1,g2⟩
 have R1:=Yh3 (g1.mono (show w.heap.size<=W0.heap.size by omega)) (S0.p0.keep g2) (Yb S0.q1 g2)
 clear g1 g2 S0 hs0
 go_wp2_with fail
 go_loopw [7,14] (fun z1 z2 wr=>∃ (k:Nat) (ns:List Tm) (u1:Value),z2=.int .i64 (k:Int)/\k<=n/\u1=z1/\Hid (To wr w.heap.size u1 (ys++ns)/\(∀ x∈ns,Qr w wr x.num x.q)/\ns.map Tm.t=scaleT q ((xs.map Tm.t).take k)/\Yg w wr/\B3 37 wr w.heap.size (.bool pa) (.slice Aa la ca) (.slice Ba ma da)/\∀ ga,u1.ownBlock=some ga->ga≠w.heap.size)) (fun _ z2 _=>n - (intOf z2).toNat)
 case atStart=>
  refine ⟨0,[],_,rfl,Nat.zero_le _,rfl,by rw [List.append_nil];exact R1.p0,by simp,rfl,R1.q2,R1.p1,fun ga hga e=>?_⟩
  obtain ⟨cs,t,mm,hh,ht⟩:=own_type R1.p0 ga hga
  have hX:w1.heap[w.heap.size]?=_:=R1.p1
  rw [e,hX] at hh
  injection hh with hh
  injection hh with _ h3
  rw [ht] at h3
  exact absurd h3 Yd
 case round=>
  clear R1
  obtain ⟨k,ns,u1,rfl,hk,rfl,H⟩:=hrel
  by_cases hlt:k<n
  · have hkx:k<xs.length:=by rw [HS.p4];exact hlt
    obtain ⟨x,hx⟩:∃ x,xs[k]?=some x:=⟨_,List.getElem?_eq_getElem hkx⟩
    obtain ⟨g,off,rfl,hgl,c0,c1,c2,c3⟩:=(HS.p3.keep H.p3).at_ hx
    have HX:=Lib.hid hx
    have d0:(k:Int)<(n:Int):=Yo
    have hnl:ns.length<=1024:=by have:=congrArg List.length H.p2;simp [scaleT] at this;omega
    clear hx hgl hkx
    go_upto_region 5 with (fail)
    have X:=B4.new 85 wr (.int .i64 x.c) (.bool x.b) (.slice x.A x.l x.k) (.slice x.B x.m x.d)
    have hal:=Ya wr (.cells #[.int .i64 x.c,.bool x.b,.slice x.A x.l x.k,.slice x.B x.m x.d] 85)
    have T:=Yh5 (H.p0.keep hal) (fun y hy=>(H.p1 y hy).keep hal) (Yb H.p3 hal) (H.p4.keep hal) X
    obtain ⟨g5,hg5⟩:∃ k,k=wr.heap.size:=⟨_,rfl⟩
    have HO:Hid (∀ ga,u1.ownBlock=some ga->ga<g5/\ga≠w.heap.size):=fun ga hga=>by
     rw [hg5]
     obtain ⟨cs,e,mm,hh,-⟩:=own_type H.p0 ga hga
     exact ⟨heap_lt hh,H.q5 ga hga⟩
    have HM:=Lib.hid H.p2
    rw [<- hg5] at T ⊢
    generalize wr.alloc _=W1 at T ⊢
    clear X hal hg5 c0 c1 c2 c3 H
    go_upto_region 5 with (fail)
    refine wp_region_held_drew (S:=(fun W=>Yc3 W w.heap.size (.bool pa) (.slice Aa la ca) (.slice Ba ma da) (Ye4 W g5 (.int .i64 x.c) (.bool x.b) (.slice x.A x.l x.k) (.slice x.B x.m x.d)))) (by kernel_rfl) ⟨(T.p3.keep (below_dr _ 1)).facts.1,(T.p3.keep (below_dr _ 1)).facts.2.1,(T.p3.keep (below_dr _ 1)).facts.2.2.1,(T.q4.keep (below_dr _ 1)).facts.1,(T.q4.keep (below_dr _ 1)).facts.2.1,(T.q4.keep (below_dr _ 1)).facts.2.2.1,(T.q4.keep (below_dr _ 1)).facts.2.2.2⟩ (fun Hh=>?_)
    refine rgRun 6 [0,1,2,3,4,5] Hh fun K hK=>?_
    repeat refine rgA ?_
    refine hK _ _ ?_;clear hK K
    have T0:Hid (To W1.drew w.heap.size u1 (ys++ns)/\(∀ yy∈ns,Qr w W1.drew yy.num yy.q)/\Yg w W1.drew/\B3 37 W1.drew w.heap.size (.bool pa) (.slice Aa la ca) (.slice Ba ma da)/\B4 85 W1.drew g5 (.int .i64 x.c) (.bool x.b) (.slice x.A x.l x.k) (.slice x.B x.m x.d)):=⟨T.p0.keep (below_dr _ 1),fun y hy=>(T.p1 y hy).keep (below_dr _ 1),Yb T.p2 (below_dr _ 1),T.p3.keep (below_dr _ 1),T.q4.keep (below_dr _ 1)⟩
    generalize W1.drew=Wd at T0 Hh ⊢
    clear T
    refine rgO 6 fun K hK=>?_
    go_simp
    go_at_call 96;refine (mul_v (a:=.agg #[.bool pa,.slice Aa la ca,.slice Ba ma da]) (u:=x.num) (HS.q5.keep T0.p2) ((HS.p2 x (List.mem_of_getElem? HX.out)).keep T0.p2) HB.p0 HB.p1 (by have:=HB.out;omega) (by have:=HB.out;omega)).mono ?_;rintro e w4 ⟨v4,rfl,h4⟩
    obtain ⟨p4,A4,l4,k4,B4',m4,d4,rfl⟩:=h4.parts
    have T1:Hid (To w4 w.heap.size u1 (ys++ns)/\(∀ yy∈ns,Qr w w4 yy.num yy.q)/\Yg w w4/\B3 37 w4 w.heap.size (.bool pa) (.slice Aa la ca) (.slice Ba ma da)/\B4 85 w4 g5 (.int .i64 x.c) (.bool x.b) (.slice x.A x.l x.k) (.slice x.B x.m x.d)/\Qr w w4 (.agg #[.bool p4,.slice A4 l4 k4,.slice B4' m4 d4]) (q*x.q)):=⟨T0.p0.keep h4.below,fun y hy=>(T0.p1 y hy).keep h4.below,Yb T0.p2 h4.below,T0.p3.keep h4.below,T0.q4.keep h4.below,h4.from T0.p2⟩
    clear h4 Hh T0
    go_wp2_with fail
    refine rgK hK ⟨T1.p3.facts.1,T1.p3.facts.2.1,T1.p3.facts.2.2.1,T1.p4.facts.1,T1.p4.facts.2.1,T1.p4.facts.2.2.1,T1.p4.facts.2.2.2⟩ fun Hh=>?_;clear hK K
    refine rgT 7 Hh ?_
    refine rgO 8 fun K hK=>?_
    go_simp
    have hal:=Ya w4 (.cells #[.int .i64 x.c,.bool p4,.slice A4 l4 k4,.slice B4' m4 d4] 85)
    have hnew:=(B4.new 85 w4 (.int .i64 x.c) (.bool p4) (.slice A4 l4 k4) (.slice B4' m4 d4))
    have T2:Hid (To (w4.alloc (.cells #[.int .i64 x.c,.bool p4,.slice A4 l4 k4,.slice B4' m4 d4] 85)) w.heap.size u1 (ys++ns)/\(∀ yy∈ns,Qr w (w4.alloc (.cells #[.int .i64 x.c,.bool p4,.slice A4 l4 k4,.slice B4' m4 d4] 85)) yy.num yy.q)/\Yg w (w4.alloc (.cells #[.int .i64 x.c,.bool p4,.slice A4 l4 k4,.slice B4' m4 d4] 85))/\B3 37 (w4.alloc (.cells #[.int .i64 x.c,.bool p4,.slice A4 l4 k4,.slice B4' m4 d4] 85)) w.heap.size (.bool pa) (.slice Aa la ca) (.slice Ba ma da)/\B4 85 (w4.alloc (.cells #[.int .i64 x.c,.bool p4,.slice A4 l4 k4,.slice B4' m4 d4] 85)) g5 (.int .i64 x.c) (.bool x.b) (.slice x.A x.l x.k) (.slice x.B x.m x.d)/\Qr w (w4.alloc (.cells #[.int .i64 x.c,.bool p4,.slice A4 l4 k4,.slice B4' m4 d4] 85)) (.agg #[.bool p4,.slice A4 l4 k4,.slice B4' m4 d4]) (q*x.q)/\B4 85 (w4.alloc (.cells #[.int .i64 x.c,.bool p4,.slice A4 l4 k4,.slice B4' m4 d4] 85)) w4.heap.size (.int .i64 x.c) (.bool p4) (.slice A4 l4 k4) (.slice B4' m4 d4)):=⟨T1.p0.keep hal,fun y hy=>(T1.p1 y hy).keep hal,Yb T1.p2 hal,T1.p3.keep hal,T1.p4.keep hal,T1.q5.keep hal,hnew⟩
    refine rgK hK ⟨T2.p3.facts.1,T2.p3.facts.2.1,T2.p3.facts.2.2.1,T2.p4.facts.1,T2.p4.facts.2.1,T2.p4.facts.2.2.1,T2.p4.facts.2.2.2⟩ fun Hh=>?_;clear hK K
    clear hal hnew T1
    obtain ⟨gn,hgn⟩:∃ k,w4.heap.size=k:=⟨_,rfl⟩
    rw [hgn] at T2 ⊢
    generalize w4.alloc _=W5 at T2 Hh ⊢
    clear hgn
    obtain ⟨i0,hi0,hz0,hz1,hz2⟩:=info_parts term_info
    obtain ⟨nw,hnw⟩:∃ z:Tm,z=⟨x.c,p4,A4,l4,k4,B4',m4,d4,q*x.q⟩:=⟨_,rfl⟩
    have hzl:(ys++ns).length<=4096:=by rw [List.length_append];have:=HB.out;omega
    have hcn:∀ (j:Nat) (u:Value),(flatT [nw])[j]?=some u->W5.cell? ((⟨gn,0,none⟩:Addr).add j)=some u:=fun j u hj=>by
     have e:(⟨gn,0,none⟩:Addr).add j=⟨gn,j,none⟩:=by unfold Addr.add;split<;>simp_all
     obtain ⟨f0,f1,f2,f3⟩:=T2.q6.facts
     rw [e]
     rw [hnw] at hj
     match j,hj with
     | 0,hj=>injection hj with hj;rw [<- hj];exact f0
     | 1,hj=>injection hj with hj;rw [<- hj];exact f1
     | 2,hj=>injection hj with hj;rw [<- hj];exact f2
     | 3,hj=>injection hj with hj;rw [<- hj];exact f3
    refine rgO 9 fun K hK=>?_
    rw [if_pos (by rfl)]
    refine wp_append_own _ (.tmp 18) (.tmp 26) 32 rfl w.heap.size 85 i0 _ 4 64 Tryz.underlying32 hi0 hz0 hz1 hz2 rfl Yd _ (ys++ns).length (flatT (ys++ns)) rfl T2.p0 ⟨gn,0,none⟩ 1 1 (flatT [nw]) rfl (by rw [flatT_len];rfl) hcn flatT_one (by unfold maxLen;omega) Yo T2.p2.size ?_
    intro v6 w6 hown hg6 hnil6
    have hkT:KeepT 155 W5 w6:=own_keepT_of T2.p0 hg6 (Ne.symm term_word)
    have hb6:Yg w w6:=T2.p2.grown hg6 T2.p2.size (fun k hk=>((T2.p0).lt k hk).1)
    have hX6:B4 85 w6 g5 (.int .i64 x.c) (.bool x.b) (.slice x.A x.l x.k) (.slice x.B x.m x.d):=by
     unfold B4
     rw [hg6.block g5 T2.p4.lt (fun e=>absurd (HO.out g5 e.symm).1 (Nat.lt_irrefl _))]
     exact T2.p4
    have hX3:B3 37 w6 w.heap.size (.bool pa) (.slice Aa la ca) (.slice Ba ma da):=by
     unfold B3
     rw [hg6.block w.heap.size T2.p3.lt (fun e=>absurd rfl (HO.out w.heap.size e.symm).2)]
     exact T2.p3
    have hV:Hid (To w6 w.heap.size v6 (ys++(ns++[nw]))/\(∀ z∈ns++[nw],Qr w w6 z.num z.q)/\(ns++[nw]).map Tm.t=scaleT q ((xs.map Tm.t).take (k+1))/\Yg w w6/\B3 37 w6 w.heap.size (.bool pa) (.slice Aa la ca) (.slice Ba ma da)/\∀ ga,v6.ownBlock=some ga->ga≠w.heap.size):=by
     refine ⟨?_,fun z hz=>?_,?_,hb6,hX3,fun ga hga e=>?_⟩
     · unfold To;rw [<- List.append_assoc,flatT_app,List.length_append];exact hown
     · rcases List.mem_append.1 hz with hz | hz
       · exact (T2.p1 z hz).keepT hkT hb6
       · rw [List.mem_singleton.1 hz,hnw];exact T2.p5.keepT hkT hb6
     · rw [scale_succ (t:=x.t) (by rw [List.getElem?_map,HX.out];rfl),<- HM.out,List.map_append,hnw];rfl
     · obtain ⟨cs,t,mm,hh,ht⟩:=own_type hown ga hga
       have hX:w6.heap[w.heap.size]?=_:=hX3
       rw [e,hX] at hh
       injection hh with hh
       injection hh with _ h3
       rw [ht] at h3
       exact absurd h3 Yd
    refine rgK hK ⟨hX3.facts.1,hX3.facts.2.1,hX3.facts.2.2.1,hX6.facts.1,hX6.facts.2.1,hX6.facts.2.2.1,hX6.facts.2.2.2⟩ fun Hh=>?_;clear hK K
    refine rgT 10 Hh ?_
    refine Yw ?_
    clear Hh hkT hb6 hown hg6 hnil6 hcn hX6 hX3 T2 hnw
    go_wp2_with fail
    case roundEnd=>exact ⟨⟨k+1,_,v6,by go_num,Yo,rfl,hV.out⟩,by simp [intOf];omega⟩
  · have d0:¬ (k:Int)<(n:Int):=by omega
    obtain rfl:k=n:=by omega
    have hns:ns.map Tm.t=scaleT q (xs.map Tm.t):=by rw [H.p2,List.take_of_length_le (by rw [List.length_map,HS.p4];exact Nat.le_refl _)]
    have hlen:ns.length=k:=by have:=congrArg List.length hns;simp [scaleT] at this;rw [this];exact HS.p4
    have hvt:Vt wr (La+L+M) u1 ((ys++ns).map Tm.t):=by
     obtain ⟨A',cap',e,z1,z2,z3,z4⟩:=H.p0.trd
     refine ⟨_,⟨A',cap',e,z1,z2,z3,z4,fun z hz=>?_⟩,rfl⟩
     rcases List.mem_append.1 hz with hz | hz
     · exact ((HS.p1 z hz).keep H.p3).mono Yo
     · have hmem:z.t∈scaleT q (xs.map Tm.t):=by rw [<- hns];exact List.mem_map_of_mem hz
       obtain ⟨t,ht,e⟩:=List.mem_map.1 hmem
       obtain ⟨x,hx,rfl⟩:=List.mem_map.1 ht
       have eq:z.q=q*x.q:=(congrArg Prod.snd e).symm
       refine (H.p1 z hz).qv ?_
       rw [eq]
       exact ((HS.q5.sz HB.p0).mul ((HS.p2 x hx).sz HB.p1)).mono Yo
    have HV:=Yh4 hvt hns hlen H.p3
    clear hvt hns hlen H
    go_wp2_with fail
    refine (make_v HV.p0 (by have:=HB.out;omega) (by have:=HB.out;omega) (by rw [List.length_map,List.length_append,HV.p2];have:=HB.out;omega)).mono ?_;rintro e w4 ⟨v4,zs,rfl,h4,h5⟩
    have R:=Yh2 (h4.from HV.q3) h5
    clear h4 h5
    go_wp2_with fail
    go_ret
    exact ⟨_,zs,rfl,R.p0,by rw [R.q1,List.map_append,HV.p1]⟩
end
end
section
namespace I
section
open Go Go.RowKit Go.Proofs Pl
theorem get_e {w:World} {L:Nat} {v:Value} {l:Tms} {col:Int} (hv:Vt w L v l) (h0:0<L) (hL:L<=10000) (hn:l.length<=4096):
 Calls Tryz.prog 27 #[v,.int .i64 col] w fun e w'=>∃ u,e=.returned u/\Qe w' (7+l.length*(5*L+1)) u (getV l col)/\Yg w w':=by
 obtain ⟨xs,⟨A,cap,rfl,h1,h2,h3,h4,h5⟩,rfl⟩:=hv
 obtain ⟨n,hnn⟩:∃ n,xs.length=n:=⟨_,rfl⟩
 have hl:n<=4096:=by rw [<- hnn];simpa using hn
 have hlm:(xs.map Tm.t).length=n:=by rw [List.length_map];exact hnn
 have HL:=Yh5 h0 hL h5 h4 hnn
 rw [hlm,hnn]
 clear h0 hL h5 h4 h1 h2 h3 hn hnn hlm
 go_enter Tryz.func27,Tryz.ntmps27
 go_upto_region 1 with (fail)
 have S0:=Yh2 (B3.new 60 w (.bool false) (.slice none 0 0) (.slice none 0 0)) (Ya w (.cells #[.bool false,.slice none 0 0,.slice none 0 0] 60))
 generalize w.alloc _=W0 at S0 ⊢
 go_wp2_with fail
 refine (small_e sm_zero).mono ?_;rintro e w1 ⟨u,rfl,h,hb⟩
 obtain ⟨p,A0,l0,c0,B0,m0,d0,rfl⟩:=h.parts
 have S1:=Yh3 (S0.p0.keep hb) h (Yb S0.q1 hb)
 clear h hb S0
 go_upto_region 2 with (fail)
 have hal:=Ya w1 (.cells #[.bool p,.slice A0 l0 c0,.slice B0 m0 d0] 60)
 obtain ⟨g5,hg5⟩:∃ g,g=w1.heap.size:=⟨_,rfl⟩
 have hgw:w.heap.size<g5:=by rw [hg5];exact S1.p0.lt
 have S2:=Yh4 (S1.p0.keep hal) (B3.new 60 w1 (.bool p) (.slice A0 l0 c0) (.slice B0 m0 d0)) (S1.p1.keep hal) (Yb S1.q2 hal)
 clear S1 hal
 rw [<- hg5] at S2 ⊢
 generalize w1.alloc _=W1 at S2 ⊢
 clear hg5
 go_wp2_with fail
 go_loopw [6] (fun i wr=>∃ (k:Nat) (q:Rat) (p:Bool) (A1:Option Addr) (l1 c1:Nat) (B1:Option Addr) (m1 d1:Nat),i=.int .i64 (k:Int)/\k<=n/\
  Hid (B3 60 wr w.heap.size (.bool false) (.slice none 0 0) (.slice none 0 0)/\B3 60 wr g5 (.bool p) (.slice A1 l1 c1) (.slice B1 m1 d1)/\Qe wr (7+k*(5*L+1)) (.agg #[.bool p,.slice A1 l1 c1,.slice B1 m1 d1]) q/\Yg w wr/\q=getV ((xs.map Tm.t).take k) col)) (fun i _=>n - (intOf i).toNat)
 case atStart=>exact ⟨0,0,p,A0,l0,c0,B0,m0,d0,rfl,Yo,S2.p0,S2.p1,S2.p2.mono Yo,S2.q3,by simp [getV,sumAt]⟩
 case round=>
  obtain ⟨k,q,p1,A1,l1,c1,B1,m1,d1,rfl,hk,H⟩:=hrel
  by_cases hlt:k<n
  · have hkx:k<xs.length:=by rw [HL.q4];exact hlt
    obtain ⟨x,hx⟩:∃ x,xs[k]?=some x:=⟨_,List.getElem?_eq_getElem hkx⟩
    obtain ⟨g,off,rfl,hgl,-⟩:=(HL.p3).at_ hx
    obtain ⟨g',off',eA,-,y0,y1,y2,y3⟩:=(HL.p3.keep H.p3).at_ hx
    injection eA with eA
    injection eA with e1 e2
    subst e1;subst e2
    have HX:=Yh3 hx (List.mem_of_getElem? hx) hgl
    have hnext:=get_succ (l:=xs.map Tm.t) (i:=k) (t:=x.t) (by rw [List.getElem?_map,hx];rfl) col
    have dk:(k:Int)<(n:Int):=Yo
    have hone:7+k*(5*L+1)+5*L+1=7+(k+1)*(5*L+1):=by have:(k+1)*(5*L+1)=k*(5*L+1)+(5*L+1):=Nat.succ_mul _ _;omega
    have HO:=Lib.hid hone
    clear hx hgl hkx hone
    by_cases hc:x.c=col
    · by_cases h0c:0<=col
      · rw [if_pos ⟨hc,h0c⟩] at hnext
        have hN:=Lib.hid hnext
        have e1:(x.c==col)=true:=by rw [hc];exact beq_self_eq_true col
        have e2:decide ((0:Int)<=col)=true:=decide_eq_true h0c
        clear hnext hc h0c
        go_upto_region 6 with (fail)
        clear e1 e2
        refine wp_region_held_drew (S:=fun W=>W.cell? ⟨g,off+k*4+1,none⟩=some (.bool x.b)/\W.cell? ⟨g,off+k*4+2,none⟩=some (.slice x.A x.l x.k)/\W.cell? ⟨g,off+k*4+3,none⟩=some (.slice x.B x.m x.d)) (by kernel_rfl) ⟨y1,y2,y3⟩ (fun Hh=>?_)
        refine rgRun 5 [1,2,3,4,5] Hh fun K hK=>?_
        repeat refine rgA ?_
        refine hK _ _ ?_;clear hK K
        have T0:Hid (B3 60 wr.drew w.heap.size (.bool false) (.slice none 0 0) (.slice none 0 0)/\B3 60 wr.drew g5 (.bool p1) (.slice A1 l1 c1) (.slice B1 m1 d1)/\Qe wr.drew (7+k*(5*L+1)) (.agg #[.bool p1,.slice A1 l1 c1,.slice B1 m1 d1]) q/\Yg w wr.drew):=⟨H.p0.keep (below_dr _ 1),H.p1.keep (below_dr _ 1),H.p2.keep (below_dr _ 1),Yb H.p3 (below_dr _ 1)⟩
        have HQ:=Lib.hid H.q4
        generalize wr.drew=Wd at T0 Hh ⊢
        clear H y0 y1 y2 y3
        obtain ⟨s0,s1,s2,-,-,-⟩:=T0.p1.facts
        have hcell:Hid (∀ W,Yg w W->W.cell? ⟨g,off+k*4+1,none⟩=some (.bool x.b)/\W.cell? ⟨g,off+k*4+2,none⟩=some (.slice x.A x.l x.k)/\W.cell? ⟨g,off+k*4+3,none⟩=some (.slice x.B x.m x.d)):=fun W hW=>by
         obtain ⟨g',off',eA,-,-,y1,y2,y3⟩:=(HL.p3.keep hW).at_ HX.p0
         injection eA with eA
         injection eA with e1 e2
         subst e1;subst e2
         exact ⟨y1,y2,y3⟩
        refine rgReady [0,6] (rgOne (fun K hK=>?_) (rgOne (fun K hK=>?_) rgNil))
        ·
         go_simp
         refine hK.out _ _ (hcell.out _ T0.q3) (fun Hh=>?_);clear hK K s0 s1 s2;try simp only [Yp]
         refine rgO 6 fun K hK=>?_
         go_simp
         go_at_call 28;refine (of_e (a:=x.num) ((HL.p2 x HX.p1).keep T0.q3) HL.p0 (by have:=HL.p1;omega)).mono ?_;rintro e w4 ⟨v4,rfl,h,hb⟩
         obtain ⟨pv,Av,lv,cv,Bv,mv,dv,rfl⟩:=h.parts
         have T1:Hid (B3 60 w4 w.heap.size (.bool false) (.slice none 0 0) (.slice none 0 0)/\B3 60 w4 g5 (.bool p1) (.slice A1 l1 c1) (.slice B1 m1 d1)/\Qe w4 (7+k*(5*L+1)) (.agg #[.bool p1,.slice A1 l1 c1,.slice B1 m1 d1]) q/\Yg w w4/\Qe w4 (5*L) (.agg #[.bool pv,.slice Av lv cv,.slice Bv mv dv]) x.q):=⟨T0.p0.keep hb,T0.p1.keep hb,T0.p2.keep hb,Yb T0.q3 hb,h⟩
         clear h hb T0
         go_wp2_with fail
         refine rgK hK (hcell.out _ T1.p3) fun Hh=>?_;clear hK K
         refine rgO 7 fun K hK=>?_
         go_simp
         go_at_call 25;refine (add_e (L:=7+k*(5*L+1)) (M:=5*L) T1.p2 T1.q4 Yo (by have:=HL.p0;omega) (by have:=HL.p1;have:=Nat.mul_le_mul (show k<=4096 by omega) (show 5*L+1<=50001 by omega);omega) (by have:=HL.p1;omega)).mono ?_;rintro e w5 ⟨v5,rfl,h,hb⟩
         obtain ⟨p2,A2,l2,c2,B2,m2,d2,rfl⟩:=h.parts
         have T2:Hid (B3 60 w5 w.heap.size (.bool false) (.slice none 0 0) (.slice none 0 0)/\B3 60 w5 g5 (.bool p1) (.slice A1 l1 c1) (.slice B1 m1 d1)/\Qe w5 (7+(k+1)*(5*L+1)) (.agg #[.bool p2,.slice A2 l2 c2,.slice B2 m2 d2]) (q+x.q)/\Yg w w5):=⟨T1.p0.keep hb,T1.p1.keep hb,by rw [<- HO.out];exact h,Yb T1.p3 hb⟩
         clear h hb T1
         go_wp2_with fail
         refine rgK hK (hcell.out _ T2.q3) fun Hh=>?_;clear hK K
         obtain ⟨s0,s1,s2,f0,f1,f2⟩:=T2.p1.facts
         refine rgO 8 fun K hK=>?_
         go_simp
         have hb9:=Lib.hid (T2.p1.below T2.q3 (Nat.le_of_lt hgw) (.bool p2) (.slice A2 l2 c2) (.slice B2 m2 d2))
         refine rgK hK (hcell.out _ hb9.out) fun Hh=>?_;clear hK K
         refine Yw ?_
         clear Hh s0 s1 s2 f0 f1 f2
         go_wp2_with fail
         case roundEnd=>exact ⟨⟨k+1,q+x.q,p2,A2,l2,c2,B2,m2,d2,by go_num,Yo,T2.p0.other3 (Nat.ne_of_gt hgw) _ _ _,T2.p1.set _ _ _,Qd.put3 T2.p2 T2.p1 _ _ _,hb9.out,by rw [hN.out,<- HQ.out];rfl⟩,by simp [intOf];omega⟩
        ·
         clear s0 s1 s2
         go_simp
         go_at_call 28;refine (of_e (a:=x.num) ((HL.p2 x HX.p1).keep T0.q3) HL.p0 (by have:=HL.p1;omega)).mono ?_;rintro e w4 ⟨v4,rfl,h,hb⟩
         obtain ⟨pv,Av,lv,cv,Bv,mv,dv,rfl⟩:=h.parts
         have T1:Hid (B3 60 w4 w.heap.size (.bool false) (.slice none 0 0) (.slice none 0 0)/\B3 60 w4 g5 (.bool p1) (.slice A1 l1 c1) (.slice B1 m1 d1)/\Qe w4 (7+k*(5*L+1)) (.agg #[.bool p1,.slice A1 l1 c1,.slice B1 m1 d1]) q/\Yg w w4/\Qe w4 (5*L) (.agg #[.bool pv,.slice Av lv cv,.slice Bv mv dv]) x.q):=⟨T0.p0.keep hb,T0.p1.keep hb,T0.p2.keep hb,Yb T0.q3 hb,h⟩
         clear h hb T0
         go_wp2_with fail
         refine rgK hK (hcell.out _ T1.p3) fun Hh=>?_;clear hK K
         obtain ⟨s0,s1,s2,-,-,-⟩:=T1.p1.facts
         refine rgO 0 fun K hK=>?_
         go_simp
         refine hK.out _ _ (hcell.out _ T1.p3) (fun Hh=>?_);clear hK K s0 s1 s2;try simp only [Yp]
         refine rgO 7 fun K hK=>?_
         go_simp
         go_at_call 25;refine (add_e (L:=7+k*(5*L+1)) (M:=5*L) T1.p2 T1.q4 Yo (by have:=HL.p0;omega) (by have:=HL.p1;have:=Nat.mul_le_mul (show k<=4096 by omega) (show 5*L+1<=50001 by omega);omega) (by have:=HL.p1;omega)).mono ?_;rintro e w5 ⟨v5,rfl,h,hb⟩
         obtain ⟨p2,A2,l2,c2,B2,m2,d2,rfl⟩:=h.parts
         have T2:Hid (B3 60 w5 w.heap.size (.bool false) (.slice none 0 0) (.slice none 0 0)/\B3 60 w5 g5 (.bool p1) (.slice A1 l1 c1) (.slice B1 m1 d1)/\Qe w5 (7+(k+1)*(5*L+1)) (.agg #[.bool p2,.slice A2 l2 c2,.slice B2 m2 d2]) (q+x.q)/\Yg w w5):=⟨T1.p0.keep hb,T1.p1.keep hb,by rw [<- HO.out];exact h,Yb T1.p3 hb⟩
         clear h hb T1
         go_wp2_with fail
         refine rgK hK (hcell.out _ T2.q3) fun Hh=>?_;clear hK K
         obtain ⟨s0,s1,s2,f0,f1,f2⟩:=T2.p1.facts
         refine rgO 8 fun K hK=>?_
         go_simp
         have hb9:=Lib.hid (T2.p1.below T2.q3 (Nat.le_of_lt hgw) (.bool p2) (.slice A2 l2 c2) (.slice B2 m2 d2))
         refine rgK hK (hcell.out _ hb9.out) fun Hh=>?_;clear hK K
         refine Yw ?_
         clear Hh s0 s1 s2 f0 f1 f2
         go_wp2_with fail
         case roundEnd=>exact ⟨⟨k+1,q+x.q,p2,A2,l2,c2,B2,m2,d2,by go_num,Yo,T2.p0.other3 (Nat.ne_of_gt hgw) _ _ _,T2.p1.set _ _ _,Qd.put3 T2.p2 T2.p1 _ _ _,hb9.out,by rw [hN.out,<- HQ.out];rfl⟩,by simp [intOf];omega⟩
      · rw [if_neg (fun h=>h0c h.2)] at hnext
        have hN:=Lib.hid hnext
        have e1:(x.c==col)=true:=by rw [hc];exact beq_self_eq_true col
        have e2:decide ((0:Int)<=col)=false:=decide_eq_false h0c
        clear hnext hc h0c
        go_wp2_with fail
        case roundEnd=>exact ⟨⟨k+1,q,p1,A1,l1,c1,B1,m1,d1,by go_num,Yo,H.p0,H.p1,H.p2.mono (by have:(k+1)*(5*L+1)=k*(5*L+1)+(5*L+1):=Nat.succ_mul _ _;omega),H.p3,by rw [hN.out];exact H.q4⟩,by simp [intOf];omega⟩
    · rw [if_neg (fun h=>hc h.1)] at hnext
      have hN:=Lib.hid hnext
      have e1:(x.c==col)=false:=beq_eq_false_iff_ne.2 hc
      clear hnext hc
      go_wp2_with fail
      case roundEnd=>exact ⟨⟨k+1,q,p1,A1,l1,c1,B1,m1,d1,by go_num,Yo,H.p0,H.p1,H.p2.mono (by have:(k+1)*(5*L+1)=k*(5*L+1)+(5*L+1):=Nat.succ_mul _ _;omega),H.p3,by rw [hN.out];exact H.q4⟩,by simp [intOf];omega⟩
  · have e:q=getV (xs.map Tm.t) col:=by rw [H.q4,List.take_of_length_le (by rw [List.length_map,HL.q4];omega)]
    obtain rfl:k=n:=by omega
    have E:=Lib.hid e
    have d0:¬ (k:Int)<(k:Int):=Yo
    clear e
    obtain ⟨s0,s1,s2,-,-,-⟩:=H.p1.facts
    obtain ⟨r0,r1,r2,f0,f1,f2⟩:=H.p0.facts
    go_wp2_with fail
    refine ret_b3 H.p0 (fun W d0 d1 d2=>by simp [results,Tryz.results27,go_sem,d0,d1,d2];try rfl) rfl ?_
    rw [<- E.out]
    exact ⟨_,rfl,Qd.put3 H.p2 H.p0 _ _ _,H.p0.below H.p3 (Nat.le_refl _) _ _ _⟩
end
end I
end
end Go.Proofs.YtclaiidoomdklaaGreat
