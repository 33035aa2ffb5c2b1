import Derived.Test.YtclaiidoomdklaaGreatSNA19
set_option maxRecDepth 100000
set_option maxHeartbeats 8000000
set_option linter.unusedVariables false
set_option linter.unusedSimpArgs false
namespace Go.Proofs.YtclaiidoomdklaaGreat
section
section
open Go Go.RowKit Go.Proofs Pl
theorem below_d (w:World):Below w.heap.size w w.drew:=below_dr w 1
theorem Cw.no (w w':World) (hb:Below w.heap.size w w'):Cw w w' (.agg #[.int .i64 0,.slice none 0 0,.bool false,.slice none 0 0,.slice none 0 0]) Cx.no:=
 ⟨⟨0,none,0,0,false,none,0,0,none,0,0⟩,rfl,rfl,Tw.nil hb,⟨_,_,rfl,Ow.nil _ _,Ow.nil _ _⟩,hb⟩
theorem sgnQ_pos {q:Rat} (h:0<q):sgnQ q=1:=by
 have h1:0<q.num:=by
  have h2:¬ q<=0:=Rat.not_le.2 h
  have h3:0<=q.num:=Rat.num_nonneg.2 (by rcases Rat.le_total (a:=0) (b:=q) with h | h;exact h;exact absurd h h2)
  have h4:q.num≠0:=fun e=>h2 (by rw [Rat.num_eq_zero.1 e];exact Rat.le_refl)
  omega
 unfold sgnQ signZ
 rw [if_neg (by omega),if_neg (by omega)]
theorem sgnQ_neg {q:Rat} (h:q<0):sgnQ q=-1:=by
 have h1:q.num<0:=by
  have h2:¬ 0<=q:=Rat.not_le.2 h
  exact Int.not_le.1 fun h3=>h2 (Rat.num_nonneg.1 h3)
 unfold sgnQ signZ
 rw [if_neg (by omega),if_pos h1]
theorem rat_cases (q:Rat) (hq:q≠0):0<q/\¬ q<0∨q<0/\¬ 0<q:=by
 rcases Rat.le_total (a:=0) (b:=q) with h | h
 · exact .inl ⟨Rat.lt_iff_le_and_ne.2 ⟨h,Ne.symm hq⟩,Rat.not_lt.2 h⟩
 · exact .inr ⟨Rat.lt_iff_le_and_ne.2 ⟨h,hq⟩,Rat.not_lt.2 h⟩
theorem bad_sign {sense:Int} {c:Cx} {f:Fx} (hq:f.q≠0) (hc:c.s=1∨c.s=2):(signC c.s sense).2=false/\badC sense c f=!((signC c.s sense).1==sgnQ f.q):=by
 have h3:¬ c.s=3:=Yo
 have hs:sgnQ f.q=1/\0<f.q/\¬ f.q<0∨sgnQ f.q=-1/\f.q<0/\¬ 0<f.q:=by
  rcases rat_cases _ hq with ⟨h,h'⟩ | ⟨h,h'⟩
  · exact .inl ⟨sgnQ_pos h,h,h'⟩
  · exact .inr ⟨sgnQ_neg h,h,h'⟩
 unfold signC badC
 rw [if_neg h3]
 by_cases h:sense=3
 · rw [if_pos h,if_pos h]
   rcases hs with ⟨h1,-⟩ | ⟨h1,-⟩<;>rw [h1]<;>exact ⟨rfl,rfl⟩
 · rw [if_neg h,if_neg h]
   by_cases h2:c.s=sense
   · rw [if_pos h2,if_pos h2]
     rcases hs with ⟨h1,h4,h5⟩ | ⟨h1,h4,h5⟩<;>rw [h1]
     · exact ⟨rfl,by rw [decide_eq_false h5];rfl⟩
     · exact ⟨rfl,by rw [decide_eq_true h4];rfl⟩
   · rw [if_neg h2,if_neg h2]
     rcases hs with ⟨h1,h4,h5⟩ | ⟨h1,h4,h5⟩<;>rw [h1]
     · exact ⟨rfl,by rw [decide_eq_true h4];rfl⟩
     · exact ⟨rfl,by rw [decide_eq_false h5];rfl⟩
theorem zip_at {α β:Type} {xs:List α} {ys:List β} {k:Nat} {x:α} {y:β} (hx:xs[k]?=some x) (hy:ys[k]?=some y):(xs.zip ys)[k]?=some (x,y):=by
 rw [List.getElem?_zip_eq_some];exact ⟨hx,hy⟩
theorem szA_fit {sense:Int} {cs:List Cx} {fs:List Fx} (hc:∀ c∈cs,SzC 211 14 c) (hf:∀ f∈fs,Sz 6 f.q) (hl:cs.length<=30) (hn:cs.length=fs.length) {k:Nat} (hk:k<=cs.length):SzA 6600 420 (runC sense ((cs.zip fs).take k)):=by
 have h:=szA_run (sense:=sense) (L:=211) (N:=14) (La:=6) Yd (ps:=cs.zip fs) (fun p hp=>⟨hc _ (List.of_mem_zip hp).1,hf _ (List.of_mem_zip hp).2⟩) k (by rw [List.length_zip];omega)
 exact h.mono Yo Yo
theorem combine_c {w:World} {v u:Value} {cs:List Cx} {fs:List Fx} {sense:Int} (h:Kv w v cs) (hu:Rx w u fs) (hn:cs.length=fs.length) (hl:cs.length<=30) (hc:∀ c∈cs,SzC 211 14 c) (hf:∀ f∈fs,f.xs.length<=6/\f.ds.length<=6):
 Calls Tryz.prog 62 #[v,u,.int .i64 sense] w fun e w'=>∃ r,e=.returned (.tuple #[r,.int .i64 (combX cs fs sense).2])/\Cw w w' r (combX cs fs sense).1:=by
 obtain ⟨A1,cap1,rfl,-,-⟩:=h.shape
 obtain ⟨A2,cap2,rfl,-,-⟩:=hu.shape
 have hq:∀ f∈fs,Sz 6 f.q:=fun f hm=>by
  obtain ⟨i,hi⟩:=List.getElem?_of_mem hm
  obtain ⟨g,o,cap,x,-,-,hv,-⟩:=hu.at_ hi
  exact (hv.qv (hf f hm).1 (hf f hm).2).sz Yd
 obtain ⟨n,hnn⟩:∃ n,cs.length=n:=⟨_,rfl⟩
 have hl':n<=30:=by rw [<- hnn];exact hl
 rw [<- hn,hnn]
 have e0:((n:Int)==(n:Int))=true:=beq_self_eq_true _
 have hZ:∀ k,k<=n->SzA 6600 420 (runC sense ((cs.zip fs).take k)):=fun k hk=>szA_fit hc hq hl hn Yo
 have HS:=Yh8 h hu hnn (hn.symm.trans hnn) hc hf hq hZ
 clear h hu hn hl hc hf hq hnn hZ
 go_enter Tryz.func62,Tryz.ntmps62
 go_upto_region 1 with (fail)
 have S0:=Yh2 (Bl.new w 39 [.int .i64 0,.slice none 0 0,.bool false,.slice none 0 0,.slice none 0 0]) (Ya w (.cells #[.int .i64 0,.slice none 0 0,.bool false,.slice none 0 0,.slice none 0 0] 39))
 generalize w.alloc _=W0 at S0 ⊢
 by_cases hse:0<sense/\sense<4
 · skip
   have hd:decide (0<sense/\sense<4)=true:=decide_eq_true hse
   have HSE:=Lib.hid hse
   clear hse
   go_wp2_with fail
   refine (sensible_c sense).mono ?_;rintro e w1 ⟨rfl,rfl⟩
   rw [hd]
   clear hd
   go_wp2_with fail
   refine (whole_v (z:=0) sm_zero).mono ?_;rintro e w2 ⟨u2,rfl,h2⟩
   have hf2:=h2.fw
   obtain ⟨A2z,l2z,k2z,B2z,m2z,d2z,rfl⟩:=hf2.fv.parts
   have hbz:(fq ((0:Int):Rat)).b=false:=rfl
   rw [hbz] at hf2 ⊢
   have S1:=Yh3 (S0.p0.keep hf2.below) (hf2.from S0.q1) (Yb S0.q1 hf2.below)
   clear h2 hf2 hbz S0 e0
   go_upto_region 5 with (fail)
   have hal:=Ya w2 (.cells #[.int .i64 sense,.slice none 0 0,.bool false,.slice A2z l2z k2z,.slice B2z m2z d2z] 39)
   obtain ⟨g9,hg9⟩:∃ g,g=w2.heap.size:=⟨_,rfl⟩
   have hgw:w.heap.size<g9:=by rw [hg9];exact S1.p0.lt
   have S2:=Yh4 (S1.p0.keep hal) (Bl.new w2 39 [.int .i64 sense,.slice none 0 0,.bool false,.slice A2z l2z k2z,.slice B2z m2z d2z]) (S1.p1.keep hal) (Yb S1.q2 hal)
   rw [<- hg9] at S2 ⊢
   generalize w2.alloc _=W2 at S2 ⊢
   clear hal hg9 S1
   go_wp2_with fail
   go_loopw [8,31] (fun z8 z31 wr=>∃ (k:Nat) (code:Int) (E:Option Addr) (n1 c1:Nat) (b:Bool) (A:Option Addr) (l k1:Nat) (B:Option Addr) (m d:Nat),z8=.int .i64 code/\z31=.int .i64 (k:Int)/\k<=n/\Hid (Bl wr 39 w.heap.size [.int .i64 0,.slice none 0 0,.bool false,.slice none 0 0,.slice none 0 0]/\Bl wr 39 g9 [.int .i64 sense,.slice E n1 c1,.bool b,.slice A l k1,.slice B m d]/\Tw w wr (.slice E n1 c1) (fqT (runC sense ((cs.zip fs).take k)).2.1)/\Fw w wr (.agg #[.bool b,.slice A l k1,.slice B m d]) (fq (runC sense ((cs.zip fs).take k)).2.2)/\code=(if (runC sense ((cs.zip fs).take k)).1=true then 241 else 0))) (fun _ z _=>n - (intOf z).toNat)
   case atStart=>exact ⟨0,0,none,0,0,false,A2z,l2z,k2z,B2z,m2z,d2z,rfl,rfl,Nat.zero_le _,S2.p0,S2.p1,Tw.nil S2.q3,S2.p2,rfl⟩
   case round=>
    clear S2
    obtain ⟨k,code,E,n1,c1,b,A,l,k1,B,m,d,rfl,rfl,hk,H⟩:=hrel
    by_cases hlt:k<n
    · skip
      have hkc:k<cs.length:=by rw [HS.p2];exact hlt
      have hkf:k<fs.length:=by rw [HS.p3];exact hlt
      obtain ⟨c,hc⟩:∃ c,cs[k]?=some c:=⟨_,List.getElem?_eq_getElem hkc⟩
      obtain ⟨f,hf⟩:∃ f,fs[k]?=some f:=⟨_,List.getElem?_eq_getElem hkf⟩
      obtain ⟨gc,oc,capc,x,e,hgl,hTx,hFc,x0,x1,x2,x3,x4⟩:=HS.p0.at_ hc
      rw [HS.p2] at e
      injection e with e1 e2 e3
      subst e1
      obtain ⟨gf,of_,capf,y,e,hgf,hFf,y0,y1,y2⟩:=HS.p1.at_ hf
      rw [HS.p3] at e
      injection e with e4 e5 e6
      subst e4
      have hcm:=HS.p4 c (List.mem_of_getElem? hc)
      have hfm:=HS.p5 f (List.mem_of_getElem? hf)
      have hsu:runC sense ((cs.zip fs).take (k+1))=stepC sense (runC sense ((cs.zip fs).take k)) (c,f):=runC_succ (zip_at hc hf)
      have hza:=HS.q7 k hk
      obtain ⟨acc,hacc⟩:∃ a,a=runC sense ((cs.zip fs).take k):=⟨_,rfl⟩
      rw [<- hacc] at H hsu hza
      have hqv:=hFf.qv hfm.1 hfm.2
      have HX:=Yh6 hTx hFc hqv hcm hsu hza
      have HY:Hid (∀ W,Yg w W->W.cell? ⟨gf,of_+k*3,none⟩=some (.bool y.b)/\W.cell? ⟨gf,of_+k*3+1,none⟩=some (.slice y.A y.l y.k)/\W.cell? ⟨gf,of_+k*3+2,none⟩=some (.slice y.B y.m y.d)):=fun W hb=>⟨(hb.cell (p:=⟨gf,_,none⟩) hgf).trans y0,(hb.cell (p:=⟨gf,_,none⟩) hgf).trans y1,(hb.cell (p:=⟨gf,_,none⟩) hgf).trans y2⟩
      have hb:=H.p2.below
      have d0:(k:Int)<(n:Int):=Yo
      have z0:=(hb.cell (p:=⟨gc,_,none⟩) hgl).trans x0
      have z1:=(hb.cell (p:=⟨gc,_,none⟩) hgl).trans x1
      have z2:=(hb.cell (p:=⟨gc,_,none⟩) hgl).trans x2
      have z3:=(hb.cell (p:=⟨gc,_,none⟩) hgl).trans x3
      have z4:=(hb.cell (p:=⟨gc,_,none⟩) hgl).trans x4
      clear hc hf hkc hkf e2 e3 e5 e6 hTx hFc hFf hqv hcm hfm hsu hza hgl hgf x0 x1 x2 x3 x4 y0 y1 y2 hb capc capf
      go_upto_region 8 with (fail)
      have hal:=Ya wr (.cells #[.int .i64 c.s,.slice x.E x.n x.c,.bool x.b,.slice x.A x.l x.k,.slice x.B x.m x.d] 39)
      obtain ⟨g11,hg11⟩:∃ g,g=wr.heap.size:=⟨_,rfl⟩
      have hg2:w.heap.size<g11/\g9<g11:=by rw [hg11];exact ⟨H.p0.lt,H.p1.lt⟩
      have S3:=Yh6 (H.p0.keep hal) (H.p1.keep hal) (H.p2.keep hal) (H.p3.keep hal) (Bl.new wr 39 [.int .i64 c.s,.slice x.E x.n x.c,.bool x.b,.slice x.A x.l x.k,.slice x.B x.m x.d]) H.q4
      rw [<- hg11] at S3 ⊢
      generalize wr.alloc _=W3 at S3 ⊢
      clear hal hg11 H z0 z1 z2 z3 z4 hacc
      have x0:=Bl.ld S3.p4 0 rfl
      have hd:decide (0<c.s/\c.s<4)=true:=decide_eq_true (by have:=HX.p3.sense;omega)
      go_wp2_with fail
      refine (sensible_c c.s).mono ?_;rintro e w4 ⟨rfl,rfl⟩
      rw [hd]
      clear hd x0
      obtain ⟨y0,y1,y2⟩:=HY.out _ S3.p2.below
      go_wp2_with fail
      refine (sign_v (a:=.agg #[.bool y.b,.slice y.A y.l y.k,.slice y.B y.m y.d]) (HX.p2.keep S3.p2.below) Yd).mono ?_;rintro e w5 ⟨rfl,hb⟩
      have S4:=Yh6 (S3.p0.keep hb) (S3.p1.keep hb) (S3.p2.keep hb) (S3.p3.keep hb) (S3.p4.keep hb) S3.q5
      clear hb S3 y0 y1 y2
      obtain ⟨s,hs⟩:∃ s,s=sgnQ f.q:=⟨_,rfl⟩
      rw [<- hs]
      have HSG:=Lib.hid hs
      clear hs
      by_cases hz:f.q=0
      · skip
        have e1:(s==0)=true:=by rw [HSG.out,hz];rfl
        have hst:stepC sense acc (c,f)=acc:=if_pos hz
        have K:Hid (Bl w5 39 w.heap.size [.int .i64 0,.slice none 0 0,.bool false,.slice none 0 0,.slice none 0 0]/\Bl w5 39 g9 [.int .i64 sense,.slice E n1 c1,.bool b,.slice A l k1,.slice B m d]/\Tw w w5 (.slice E n1 c1) (fqT (runC sense ((cs.zip fs).take (k+1))).2.1)/\Fw w w5 (.agg #[.bool b,.slice A l k1,.slice B m d]) (fq (runC sense ((cs.zip fs).take (k+1))).2.2)/\code=(if (runC sense ((cs.zip fs).take (k+1))).1=true then 241 else 0)):=by
         rw [HX.p4,hst]
         exact ⟨S4.p0,S4.p1,S4.p2,S4.p3,S4.q5⟩
        clear hz hst S4
        go_wp2_with fail
        case roundEnd=>exact ⟨⟨k+1,code,E,n1,c1,b,A,l,k1,B,m,d,rfl,by go_num,Yo,K.out⟩,by simp [intOf];omega⟩
      have e1:(s==0)=false:=beq_eq_false_iff_ne.2 (by rw [HSG.out];exact fun e=>hz ((sgn_zero _).1 e))
      have HNZ:=Lib.hid hz
      obtain ⟨bd1,bd2⟩:=bad_sign (sense:=sense) (c:=c) (f:=f) hz HX.p3.sense
      have hst:stepC sense acc (c,f)=(acc.1 || badC sense c f,mkV (acc.2.1++scaleT f.q (qT c.ts)),acc.2.2+f.q*c.r.q):=if_neg hz
      have HST:=Lib.hid hst
      obtain ⟨want,hwant⟩:∃ s,s=(signC c.s sense).1:=⟨_,rfl⟩
      clear hz hst
      have x0:=Bl.ld S4.p4 0 rfl
      go_wp2_with fail
      refine (sign_c c.s sense).mono ?_;rintro e w6 ⟨rfl,rfl⟩
      rw [bd1,<- hwant]
      rw [<- hwant,<- HSG.out] at bd2
      clear bd1 hwant x0 e1
      by_cases hbd:want=s
      · skip
        have e2:(want==s)=true:=by rw [hbd];exact beq_self_eq_true _
        rw [e2] at bd2
        have HBD:=Lib.hid bd2
        clear bd2 hbd
        go_upto_region 15 with (fail)
        clear e2
        have T0:=Yh6 (S4.p0.keep (below_d _)) (S4.p1.keep (below_d _)) (S4.p2.keep (below_d _)) (S4.p3.keep (below_d _)) (S4.p4.keep (below_d _)) S4.q5
        refine wp_region_late 10 (by kernel_rfl) (by kernel_rfl) (Yl 11 1024).toArray (by kernel_rfl) (S:=fun W=>W.cell? ⟨gf,of_+k*3,none⟩=some (.bool y.b)/\W.cell? ⟨gf,of_+k*3+1,none⟩=some (.slice y.A y.l y.k)/\W.cell? ⟨gf,of_+k*3+2,none⟩=some (.slice y.B y.m y.d)/\Yc5 W g11 (.int .i64 c.s) (.slice x.E x.n x.c) (.bool x.b) (.slice x.A x.l x.k) (.slice x.B x.m x.d) (Ye5 W g9 (.int .i64 sense) (.slice E n1 c1) (.bool b) (.slice A l k1) (.slice B m d))) ⟨(HY.out _ T0.p2.below).1,(HY.out _ T0.p2.below).2.1,(HY.out _ T0.p2.below).2.2,Bl.ld T0.p4 0 rfl,Bl.ld T0.p4 1 rfl,Bl.ld T0.p4 2 rfl,Bl.ld T0.p4 3 rfl,Bl.ld T0.p4 4 rfl,Bl.ld T0.p1 0 rfl,Bl.ld T0.p1 1 rfl,Bl.ld T0.p1 2 rfl,Bl.ld T0.p1 3 rfl,Bl.ld T0.p1 4 rfl⟩ (fun Hh=>?_)
        clear S4
        refine rgRun 8 [0,1,2,3,4,5,6,7] Hh fun K hK=>?_
        repeat refine rgA ?_
        refine hK _ _ ?_;clear hK K
        generalize w6.drew=Wd at T0 Hh ⊢
        refine rgO 8 fun K hK=>?_
        go_simp
        go_at_call 131;refine (axpy_v (La:=6) (L:=211) (M:=6600) (a:=.agg #[.bool y.b,.slice y.A y.l y.k,.slice y.B y.m y.d]) (HX.p2.keep T0.p2.below) ((show Tx w (.slice x.E x.n x.c) c.ts from HX.p0).keep T0.p2.below |>.vt HX.p3.words) (T0.p2.tx.vt (szT_fq HX.q5.ts)) Yd Yd Yd Yd Yd Yd (by unfold qT;rw [List.length_map];have:=HX.p3.len;omega) (by rw [qT_fq];have:=HX.q5.len;omega)).mono ?_;rintro e w7 ⟨u7,zs,rfl,h4,h5⟩
        rw [qT_fq] at h5
        have h6:=h4.tw h5
        obtain ⟨E2,c2,rfl⟩:=h6.shape
        obtain ⟨n2,hn2⟩:∃ n,n=(fqT (mkV (acc.2.1++scaleT f.q (qT c.ts)))).length:=⟨_,rfl⟩
        rw [<- hn2] at h6 ⊢
        have hb:=h6.below
        have T1:=Yh7 (T0.p0.keep hb) (T0.p1.keep hb) (T0.p2.keep hb) (T0.p3.keep hb) (T0.p4.keep hb) T0.q5 (h6.from T0.p2.below)
        clear h4 h5 h6 hn2 hb Hh T0
        go_wp2_with fail
        refine rgK hK ⟨(HY.out _ T1.p2.below).1,(HY.out _ T1.p2.below).2.1,(HY.out _ T1.p2.below).2.2,Bl.ld T1.p4 0 rfl,Bl.ld T1.p4 1 rfl,Bl.ld T1.p4 2 rfl,Bl.ld T1.p4 3 rfl,Bl.ld T1.p4 4 rfl,Bl.ld T1.p1 0 rfl,Bl.ld T1.p1 1 rfl,Bl.ld T1.p1 2 rfl,Bl.ld T1.p1 3 rfl,Bl.ld T1.p1 4 rfl⟩ fun Hh=>?_;clear hK K
        refine rgT 9 Hh ?_
        refine Yw ?_
        clear Hh
        refine late_go (T:=fun _=>True) (Yl 11 1023).toArray 1 (by kernel_rfl) (by kernel_rfl) ?_
        have f1:=Bl.fr T1.p1 1
        have r1:=Bl.ld T1.p1 1 rfl
        refine rgO 10 fun K hK=>?_
        go_simp
        refine rgK hK trivial fun _=>?_;clear hK K
        refine Yw ?_
        clear f1 r1
        have hb8:Yg w (w7.setCell ⟨g9,1,none⟩ (.slice E2 n2 c2)):=T1.p2.below.setCell (Nat.le_of_lt hgw) _
        have S5:Hid (Bl (w7.setCell ⟨g9,1,none⟩ (.slice E2 n2 c2)) 39 w.heap.size [.int .i64 0,.slice none 0 0,.bool false,.slice none 0 0,.slice none 0 0]/\Bl (w7.setCell ⟨g9,1,none⟩ (.slice E2 n2 c2)) 39 g9 [.int .i64 sense,.slice E2 n2 c2,.bool b,.slice A l k1,.slice B m d]/\Tw w (w7.setCell ⟨g9,1,none⟩ (.slice E2 n2 c2)) (.slice E2 n2 c2) (fqT (mkV (acc.2.1++scaleT f.q (qT c.ts))))/\Fw w (w7.setCell ⟨g9,1,none⟩ (.slice E2 n2 c2)) (.agg #[.bool b,.slice A l k1,.slice B m d]) (fq acc.2.2)/\Bl (w7.setCell ⟨g9,1,none⟩ (.slice E2 n2 c2)) 39 g11 [.int .i64 c.s,.slice x.E x.n x.c,.bool x.b,.slice x.A x.l x.k,.slice x.B x.m x.d]/\code=(if acc.1=true then 241 else 0)):=⟨T1.p0.other (p:=⟨g9,1,none⟩) (Nat.ne_of_gt hgw) _,T1.p1.set 1 _,T1.q6.keepT (T1.p1.keepT1 Yd 1 _) (T1.p1.keepT1 Yd 1 _) hb8,T1.p3.keepT (T1.p1.keepT1 Yd 1 _) hb8,T1.p4.other (p:=⟨g9,1,none⟩) (Nat.ne_of_lt hg2.2) _,T1.p5⟩
        generalize w7.setCell ⟨g9,1,none⟩ (.slice E2 n2 c2)=W8 at S5 ⊢
        clear T1 hb8
        go_upto_region 16 with (fail)
        have T2:=Yh6 (S5.p0.keep (below_d _)) (S5.p1.keep (below_d _)) (S5.p2.keep (below_d _)) (S5.p3.keep (below_d _)) (S5.p4.keep (below_d _)) S5.q5
        refine wp_region_late 11 (by kernel_rfl) (by kernel_rfl) (Yl 12 2048).toArray (by kernel_rfl) (S:=fun W=>W.cell? ⟨gf,of_+k*3,none⟩=some (.bool y.b)/\W.cell? ⟨gf,of_+k*3+1,none⟩=some (.slice y.A y.l y.k)/\W.cell? ⟨gf,of_+k*3+2,none⟩=some (.slice y.B y.m y.d)/\Yc5 W g11 (.int .i64 c.s) (.slice x.E x.n x.c) (.bool x.b) (.slice x.A x.l x.k) (.slice x.B x.m x.d) (Ye5 W g9 (.int .i64 sense) (.slice E2 n2 c2) (.bool b) (.slice A l k1) (.slice B m d))) ⟨(HY.out _ T2.p2.below).1,(HY.out _ T2.p2.below).2.1,(HY.out _ T2.p2.below).2.2,Bl.ld T2.p4 0 rfl,Bl.ld T2.p4 1 rfl,Bl.ld T2.p4 2 rfl,Bl.ld T2.p4 3 rfl,Bl.ld T2.p4 4 rfl,Bl.ld T2.p1 0 rfl,Bl.ld T2.p1 1 rfl,Bl.ld T2.p1 2 rfl,Bl.ld T2.p1 3 rfl,Bl.ld T2.p1 4 rfl⟩ (fun Hh=>?_)
        clear S5
        refine rgRun 8 [0,1,2,3,4,5,6,7] Hh fun K hK=>?_
        repeat refine rgA ?_
        refine hK _ _ ?_;clear hK K
        generalize W8.drew=We at T2 Hh ⊢
        refine rgO 8 fun K hK=>?_
        go_simp
        go_at_call 96;refine (mul_v (L:=6) (M:=211) (a:=.agg #[.bool y.b,.slice y.A y.l y.k,.slice y.B y.m y.d]) (u:=.agg #[.bool x.b,.slice x.A x.l x.k,.slice x.B x.m x.d]) (HX.p2.keep T2.p2.below) (((show Fv w (.agg #[.bool x.b,.slice x.A x.l x.k,.slice x.B x.m x.d]) c.r from HX.p1).keep T2.p2.below).qv HX.p3.rw_.1 HX.p3.rw_.2) Yd Yd Yd Yd).mono ?_;rintro e w8 ⟨u8,rfl,h8⟩
        have hb:=h8.below
        obtain ⟨p8,A8,l8,k8,B8,m8,d8,rfl⟩:=h8.parts
        have T3:=Yh7 (T2.p0.keep hb) (T2.p1.keep hb) (T2.p2.keep hb) (T2.p3.keep hb) (T2.p4.keep hb) T2.q5 h8
        clear h8 hb Hh T2
        go_wp2_with fail
        refine rgK hK ⟨(HY.out _ T3.p2.below).1,(HY.out _ T3.p2.below).2.1,(HY.out _ T3.p2.below).2.2,Bl.ld T3.p4 0 rfl,Bl.ld T3.p4 1 rfl,Bl.ld T3.p4 2 rfl,Bl.ld T3.p4 3 rfl,Bl.ld T3.p4 4 rfl,Bl.ld T3.p1 0 rfl,Bl.ld T3.p1 1 rfl,Bl.ld T3.p1 2 rfl,Bl.ld T3.p1 3 rfl,Bl.ld T3.p1 4 rfl⟩ fun Hh=>?_;clear hK K
        refine rgO 9 fun K hK=>?_
        go_simp
        go_at_call 95;refine (add_v (L:=6600) (M:=217) (a:=.agg #[.bool b,.slice A l k1,.slice B m d]) (by have:=T3.p3.fv.qv (fq_len HX.q5.r).1 (fq_len HX.q5.r).2;rw [fq_q] at this;exact this) (T3.q6.qv ((HX.p2.sz Yd).mul HX.p3.r)) Yd Yd Yd Yd).mono ?_;rintro e w9 ⟨u9,rfl,h9⟩
        have hf9:=h9.fw
        have hb:=hf9.below
        obtain ⟨A9,l9,k9,B9,m9,d9,rfl⟩:=hf9.fv.parts
        obtain ⟨b9,hb9⟩:∃ b,b=(fq (acc.2.2+f.q*c.r.q)).b:=⟨_,rfl⟩
        rw [<- hb9] at hf9 ⊢
        have T4:=Yh7 (T3.p0.keep hb) (T3.p1.keep hb) (T3.p2.keep hb) (T3.p3.keep hb) (T3.p4.keep hb) T3.p5 (hf9.from T3.p2.below)
        clear h9 hf9 hb9 hb Hh T3
        go_wp2_with fail
        refine rgK hK ⟨(HY.out _ T4.p2.below).1,(HY.out _ T4.p2.below).2.1,(HY.out _ T4.p2.below).2.2,Bl.ld T4.p4 0 rfl,Bl.ld T4.p4 1 rfl,Bl.ld T4.p4 2 rfl,Bl.ld T4.p4 3 rfl,Bl.ld T4.p4 4 rfl,Bl.ld T4.p1 0 rfl,Bl.ld T4.p1 1 rfl,Bl.ld T4.p1 2 rfl,Bl.ld T4.p1 3 rfl,Bl.ld T4.p1 4 rfl⟩ fun Hh=>?_;clear hK K
        refine rgT 10 Hh ?_
        refine Yw ?_
        clear Hh
        refine late_go (T:=fun _=>True) (Yl 12 2047).toArray 1 (by kernel_rfl) (by kernel_rfl) ?_
        have f2:=Bl.fr T4.p1 2
        have r2:=Bl.ld T4.p1 2 rfl
        have f3:=Bl.fr T4.p1 3
        have r3:=Bl.ld T4.p1 3 rfl
        have f4:=Bl.fr T4.p1 4
        have r4:=Bl.ld T4.p1 4 rfl
        refine rgO 11 fun K hK=>?_
        go_simp
        refine rgK hK trivial fun _=>?_;clear hK K
        refine Yw ?_
        clear f2 f3 f4 r2 r3 r4
        have hb8:Yg w (((w9.setCell ⟨g9,2,none⟩ (.bool b9)).setCell ⟨g9,3,none⟩ (.slice A9 l9 k9)).setCell ⟨g9,4,none⟩ (.slice B9 m9 d9)):=((T4.p2.below.setCell (p:=⟨g9,2,none⟩) (Nat.le_of_lt hgw) _).setCell (p:=⟨g9,3,none⟩) (Nat.le_of_lt hgw) _).setCell (p:=⟨g9,4,none⟩) (Nat.le_of_lt hgw) _
        have K:Hid (Bl (((w9.setCell ⟨g9,2,none⟩ (.bool b9)).setCell ⟨g9,3,none⟩ (.slice A9 l9 k9)).setCell ⟨g9,4,none⟩ (.slice B9 m9 d9)) 39 w.heap.size [.int .i64 0,.slice none 0 0,.bool false,.slice none 0 0,.slice none 0 0]/\Bl (((w9.setCell ⟨g9,2,none⟩ (.bool b9)).setCell ⟨g9,3,none⟩ (.slice A9 l9 k9)).setCell ⟨g9,4,none⟩ (.slice B9 m9 d9)) 39 g9 [.int .i64 sense,.slice E2 n2 c2,.bool b9,.slice A9 l9 k9,.slice B9 m9 d9]/\Tw w (((w9.setCell ⟨g9,2,none⟩ (.bool b9)).setCell ⟨g9,3,none⟩ (.slice A9 l9 k9)).setCell ⟨g9,4,none⟩ (.slice B9 m9 d9)) (.slice E2 n2 c2) (fqT (runC sense ((cs.zip fs).take (k+1))).2.1)/\Fw w (((w9.setCell ⟨g9,2,none⟩ (.bool b9)).setCell ⟨g9,3,none⟩ (.slice A9 l9 k9)).setCell ⟨g9,4,none⟩ (.slice B9 m9 d9)) (.agg #[.bool b9,.slice A9 l9 k9,.slice B9 m9 d9]) (fq (runC sense ((cs.zip fs).take (k+1))).2.2)/\code=(if (runC sense ((cs.zip fs).take (k+1))).1=true then 241 else 0)):=by
         rw [HX.p4,HST.out,HBD.out]
         refine ⟨((T4.p0.other (p:=⟨g9,2,none⟩) (Nat.ne_of_gt hgw) _).other (p:=⟨g9,3,none⟩) (Nat.ne_of_gt hgw) _).other (p:=⟨g9,4,none⟩) (Nat.ne_of_gt hgw) _,((T4.p1.set 2 _).set 3 _).set 4 _,T4.p2.keepT (((T4.p1.keepT1 Yd 2 _).trans ((T4.p1.set 2 _).keepT1 Yd 3 _)).trans (((T4.p1.set 2 _).set 3 _).keepT1 Yd 4 _)) (((T4.p1.keepT1 Yd 2 _).trans ((T4.p1.set 2 _).keepT1 Yd 3 _)).trans (((T4.p1.set 2 _).set 3 _).keepT1 Yd 4 _)) hb8,T4.q6.keepT (((T4.p1.keepT1 Yd 2 _).trans ((T4.p1.set 2 _).keepT1 Yd 3 _)).trans (((T4.p1.set 2 _).set 3 _).keepT1 Yd 4 _)) hb8,?_⟩
         rw [T4.p5];cases acc.1<;>rfl
        clear hb8 T4
        go_wp2_with fail
        case roundEnd=>exact ⟨⟨k+1,code,E2,n2,c2,b9,A9,l9,k9,B9,m9,d9,rfl,by go_num,Yo,K.out⟩,by simp [intOf];omega⟩
      have e2:(want==s)=false:=beq_eq_false_iff_ne.2 hbd
      rw [e2] at bd2
      have HBD:=Lib.hid bd2
      clear bd2 hbd
      go_upto_region 15 with (fail)
      clear e2
      have T0:=Yh6 (S4.p0.keep (below_d _)) (S4.p1.keep (below_d _)) (S4.p2.keep (below_d _)) (S4.p3.keep (below_d _)) (S4.p4.keep (below_d _)) S4.q5
      refine wp_region_late 10 (by kernel_rfl) (by kernel_rfl) (Yl 11 1024).toArray (by kernel_rfl) (S:=fun W=>W.cell? ⟨gf,of_+k*3,none⟩=some (.bool y.b)/\W.cell? ⟨gf,of_+k*3+1,none⟩=some (.slice y.A y.l y.k)/\W.cell? ⟨gf,of_+k*3+2,none⟩=some (.slice y.B y.m y.d)/\Yc5 W g11 (.int .i64 c.s) (.slice x.E x.n x.c) (.bool x.b) (.slice x.A x.l x.k) (.slice x.B x.m x.d) (Ye5 W g9 (.int .i64 sense) (.slice E n1 c1) (.bool b) (.slice A l k1) (.slice B m d))) ⟨(HY.out _ T0.p2.below).1,(HY.out _ T0.p2.below).2.1,(HY.out _ T0.p2.below).2.2,Bl.ld T0.p4 0 rfl,Bl.ld T0.p4 1 rfl,Bl.ld T0.p4 2 rfl,Bl.ld T0.p4 3 rfl,Bl.ld T0.p4 4 rfl,Bl.ld T0.p1 0 rfl,Bl.ld T0.p1 1 rfl,Bl.ld T0.p1 2 rfl,Bl.ld T0.p1 3 rfl,Bl.ld T0.p1 4 rfl⟩ (fun Hh=>?_)
      clear S4
      refine rgRun 8 [0,1,2,3,4,5,6,7] Hh fun K hK=>?_
      repeat refine rgA ?_
      refine hK _ _ ?_;clear hK K
      generalize w6.drew=Wd at T0 Hh ⊢
      refine rgO 8 fun K hK=>?_
      go_simp
      go_at_call 131;refine (axpy_v (La:=6) (L:=211) (M:=6600) (a:=.agg #[.bool y.b,.slice y.A y.l y.k,.slice y.B y.m y.d]) (HX.p2.keep T0.p2.below) ((show Tx w (.slice x.E x.n x.c) c.ts from HX.p0).keep T0.p2.below |>.vt HX.p3.words) (T0.p2.tx.vt (szT_fq HX.q5.ts)) Yd Yd Yd Yd Yd Yd (by unfold qT;rw [List.length_map];have:=HX.p3.len;omega) (by rw [qT_fq];have:=HX.q5.len;omega)).mono ?_;rintro e w7 ⟨u7,zs,rfl,h4,h5⟩
      rw [qT_fq] at h5
      have h6:=h4.tw h5
      obtain ⟨E2,c2,rfl⟩:=h6.shape
      obtain ⟨n2,hn2⟩:∃ n,n=(fqT (mkV (acc.2.1++scaleT f.q (qT c.ts)))).length:=⟨_,rfl⟩
      rw [<- hn2] at h6 ⊢
      have hb:=h6.below
      have T1:=Yh7 (T0.p0.keep hb) (T0.p1.keep hb) (T0.p2.keep hb) (T0.p3.keep hb) (T0.p4.keep hb) T0.q5 (h6.from T0.p2.below)
      clear h4 h5 h6 hn2 hb Hh T0
      go_wp2_with fail
      refine rgK hK ⟨(HY.out _ T1.p2.below).1,(HY.out _ T1.p2.below).2.1,(HY.out _ T1.p2.below).2.2,Bl.ld T1.p4 0 rfl,Bl.ld T1.p4 1 rfl,Bl.ld T1.p4 2 rfl,Bl.ld T1.p4 3 rfl,Bl.ld T1.p4 4 rfl,Bl.ld T1.p1 0 rfl,Bl.ld T1.p1 1 rfl,Bl.ld T1.p1 2 rfl,Bl.ld T1.p1 3 rfl,Bl.ld T1.p1 4 rfl⟩ fun Hh=>?_;clear hK K
      refine rgT 9 Hh ?_
      refine Yw ?_
      clear Hh
      refine late_go (T:=fun _=>True) (Yl 11 1023).toArray 1 (by kernel_rfl) (by kernel_rfl) ?_
      have f1:=Bl.fr T1.p1 1
      have r1:=Bl.ld T1.p1 1 rfl
      refine rgO 10 fun K hK=>?_
      go_simp
      refine rgK hK trivial fun _=>?_;clear hK K
      refine Yw ?_
      clear f1 r1
      have hb8:Yg w (w7.setCell ⟨g9,1,none⟩ (.slice E2 n2 c2)):=T1.p2.below.setCell (Nat.le_of_lt hgw) _
      have S5:Hid (Bl (w7.setCell ⟨g9,1,none⟩ (.slice E2 n2 c2)) 39 w.heap.size [.int .i64 0,.slice none 0 0,.bool false,.slice none 0 0,.slice none 0 0]/\Bl (w7.setCell ⟨g9,1,none⟩ (.slice E2 n2 c2)) 39 g9 [.int .i64 sense,.slice E2 n2 c2,.bool b,.slice A l k1,.slice B m d]/\Tw w (w7.setCell ⟨g9,1,none⟩ (.slice E2 n2 c2)) (.slice E2 n2 c2) (fqT (mkV (acc.2.1++scaleT f.q (qT c.ts))))/\Fw w (w7.setCell ⟨g9,1,none⟩ (.slice E2 n2 c2)) (.agg #[.bool b,.slice A l k1,.slice B m d]) (fq acc.2.2)/\Bl (w7.setCell ⟨g9,1,none⟩ (.slice E2 n2 c2)) 39 g11 [.int .i64 c.s,.slice x.E x.n x.c,.bool x.b,.slice x.A x.l x.k,.slice x.B x.m x.d]/\code=(if acc.1=true then 241 else 0)):=⟨T1.p0.other (p:=⟨g9,1,none⟩) (Nat.ne_of_gt hgw) _,T1.p1.set 1 _,T1.q6.keepT (T1.p1.keepT1 Yd 1 _) (T1.p1.keepT1 Yd 1 _) hb8,T1.p3.keepT (T1.p1.keepT1 Yd 1 _) hb8,T1.p4.other (p:=⟨g9,1,none⟩) (Nat.ne_of_lt hg2.2) _,T1.p5⟩
      generalize w7.setCell ⟨g9,1,none⟩ (.slice E2 n2 c2)=W8 at S5 ⊢
      clear T1 hb8
      go_upto_region 16 with (fail)
      have T2:=Yh6 (S5.p0.keep (below_d _)) (S5.p1.keep (below_d _)) (S5.p2.keep (below_d _)) (S5.p3.keep (below_d _)) (S5.p4.keep (below_d _)) S5.q5
      refine wp_region_late 11 (by kernel_rfl) (by kernel_rfl) (Yl 12 2048).toArray (by kernel_rfl) (S:=fun W=>W.cell? ⟨gf,of_+k*3,none⟩=some (.bool y.b)/\W.cell? ⟨gf,of_+k*3+1,none⟩=some (.slice y.A y.l y.k)/\W.cell? ⟨gf,of_+k*3+2,none⟩=some (.slice y.B y.m y.d)/\Yc5 W g11 (.int .i64 c.s) (.slice x.E x.n x.c) (.bool x.b) (.slice x.A x.l x.k) (.slice x.B x.m x.d) (Ye5 W g9 (.int .i64 sense) (.slice E2 n2 c2) (.bool b) (.slice A l k1) (.slice B m d))) ⟨(HY.out _ T2.p2.below).1,(HY.out _ T2.p2.below).2.1,(HY.out _ T2.p2.below).2.2,Bl.ld T2.p4 0 rfl,Bl.ld T2.p4 1 rfl,Bl.ld T2.p4 2 rfl,Bl.ld T2.p4 3 rfl,Bl.ld T2.p4 4 rfl,Bl.ld T2.p1 0 rfl,Bl.ld T2.p1 1 rfl,Bl.ld T2.p1 2 rfl,Bl.ld T2.p1 3 rfl,Bl.ld T2.p1 4 rfl⟩ (fun Hh=>?_)
      clear S5
      refine rgRun 8 [0,1,2,3,4,5,6,7] Hh fun K hK=>?_
      repeat refine rgA ?_
      refine hK _ _ ?_;clear hK K
      generalize W8.drew=We at T2 Hh ⊢
      refine rgO 8 fun K hK=>?_
      go_simp
      go_at_call 96;refine (mul_v (L:=6) (M:=211) (a:=.agg #[.bool y.b,.slice y.A y.l y.k,.slice y.B y.m y.d]) (u:=.agg #[.bool x.b,.slice x.A x.l x.k,.slice x.B x.m x.d]) (HX.p2.keep T2.p2.below) (((show Fv w (.agg #[.bool x.b,.slice x.A x.l x.k,.slice x.B x.m x.d]) c.r from HX.p1).keep T2.p2.below).qv HX.p3.rw_.1 HX.p3.rw_.2) Yd Yd Yd Yd).mono ?_;rintro e w8 ⟨u8,rfl,h8⟩
      have hb:=h8.below
      obtain ⟨p8,A8,l8,k8,B8,m8,d8,rfl⟩:=h8.parts
      have T3:=Yh7 (T2.p0.keep hb) (T2.p1.keep hb) (T2.p2.keep hb) (T2.p3.keep hb) (T2.p4.keep hb) T2.q5 h8
      clear h8 hb Hh T2
      go_wp2_with fail
      refine rgK hK ⟨(HY.out _ T3.p2.below).1,(HY.out _ T3.p2.below).2.1,(HY.out _ T3.p2.below).2.2,Bl.ld T3.p4 0 rfl,Bl.ld T3.p4 1 rfl,Bl.ld T3.p4 2 rfl,Bl.ld T3.p4 3 rfl,Bl.ld T3.p4 4 rfl,Bl.ld T3.p1 0 rfl,Bl.ld T3.p1 1 rfl,Bl.ld T3.p1 2 rfl,Bl.ld T3.p1 3 rfl,Bl.ld T3.p1 4 rfl⟩ fun Hh=>?_;clear hK K
      refine rgO 9 fun K hK=>?_
      go_simp
      go_at_call 95;refine (add_v (L:=6600) (M:=217) (a:=.agg #[.bool b,.slice A l k1,.slice B m d]) (by have:=T3.p3.fv.qv (fq_len HX.q5.r).1 (fq_len HX.q5.r).2;rw [fq_q] at this;exact this) (T3.q6.qv ((HX.p2.sz Yd).mul HX.p3.r)) Yd Yd Yd Yd).mono ?_;rintro e w9 ⟨u9,rfl,h9⟩
      have hf9:=h9.fw
      have hb:=hf9.below
      obtain ⟨A9,l9,k9,B9,m9,d9,rfl⟩:=hf9.fv.parts
      obtain ⟨b9,hb9⟩:∃ b,b=(fq (acc.2.2+f.q*c.r.q)).b:=⟨_,rfl⟩
      rw [<- hb9] at hf9 ⊢
      have T4:=Yh7 (T3.p0.keep hb) (T3.p1.keep hb) (T3.p2.keep hb) (T3.p3.keep hb) (T3.p4.keep hb) T3.p5 (hf9.from T3.p2.below)
      clear h9 hf9 hb9 hb Hh T3
      go_wp2_with fail
      refine rgK hK ⟨(HY.out _ T4.p2.below).1,(HY.out _ T4.p2.below).2.1,(HY.out _ T4.p2.below).2.2,Bl.ld T4.p4 0 rfl,Bl.ld T4.p4 1 rfl,Bl.ld T4.p4 2 rfl,Bl.ld T4.p4 3 rfl,Bl.ld T4.p4 4 rfl,Bl.ld T4.p1 0 rfl,Bl.ld T4.p1 1 rfl,Bl.ld T4.p1 2 rfl,Bl.ld T4.p1 3 rfl,Bl.ld T4.p1 4 rfl⟩ fun Hh=>?_;clear hK K
      refine rgT 10 Hh ?_
      refine Yw ?_
      clear Hh
      refine late_go (T:=fun _=>True) (Yl 12 2047).toArray 1 (by kernel_rfl) (by kernel_rfl) ?_
      have f2:=Bl.fr T4.p1 2
      have r2:=Bl.ld T4.p1 2 rfl
      have f3:=Bl.fr T4.p1 3
      have r3:=Bl.ld T4.p1 3 rfl
      have f4:=Bl.fr T4.p1 4
      have r4:=Bl.ld T4.p1 4 rfl
      refine rgO 11 fun K hK=>?_
      go_simp
      refine rgK hK trivial fun _=>?_;clear hK K
      refine Yw ?_
      clear f2 f3 f4 r2 r3 r4
      have hb8:Yg w (((w9.setCell ⟨g9,2,none⟩ (.bool b9)).setCell ⟨g9,3,none⟩ (.slice A9 l9 k9)).setCell ⟨g9,4,none⟩ (.slice B9 m9 d9)):=((T4.p2.below.setCell (p:=⟨g9,2,none⟩) (Nat.le_of_lt hgw) _).setCell (p:=⟨g9,3,none⟩) (Nat.le_of_lt hgw) _).setCell (p:=⟨g9,4,none⟩) (Nat.le_of_lt hgw) _
      have K:Hid (Bl (((w9.setCell ⟨g9,2,none⟩ (.bool b9)).setCell ⟨g9,3,none⟩ (.slice A9 l9 k9)).setCell ⟨g9,4,none⟩ (.slice B9 m9 d9)) 39 w.heap.size [.int .i64 0,.slice none 0 0,.bool false,.slice none 0 0,.slice none 0 0]/\Bl (((w9.setCell ⟨g9,2,none⟩ (.bool b9)).setCell ⟨g9,3,none⟩ (.slice A9 l9 k9)).setCell ⟨g9,4,none⟩ (.slice B9 m9 d9)) 39 g9 [.int .i64 sense,.slice E2 n2 c2,.bool b9,.slice A9 l9 k9,.slice B9 m9 d9]/\Tw w (((w9.setCell ⟨g9,2,none⟩ (.bool b9)).setCell ⟨g9,3,none⟩ (.slice A9 l9 k9)).setCell ⟨g9,4,none⟩ (.slice B9 m9 d9)) (.slice E2 n2 c2) (fqT (runC sense ((cs.zip fs).take (k+1))).2.1)/\Fw w (((w9.setCell ⟨g9,2,none⟩ (.bool b9)).setCell ⟨g9,3,none⟩ (.slice A9 l9 k9)).setCell ⟨g9,4,none⟩ (.slice B9 m9 d9)) (.agg #[.bool b9,.slice A9 l9 k9,.slice B9 m9 d9]) (fq (runC sense ((cs.zip fs).take (k+1))).2.2)/\(241:Int)=(if (runC sense ((cs.zip fs).take (k+1))).1=true then 241 else 0)):=by
       rw [HX.p4,HST.out,HBD.out]
       refine ⟨((T4.p0.other (p:=⟨g9,2,none⟩) (Nat.ne_of_gt hgw) _).other (p:=⟨g9,3,none⟩) (Nat.ne_of_gt hgw) _).other (p:=⟨g9,4,none⟩) (Nat.ne_of_gt hgw) _,((T4.p1.set 2 _).set 3 _).set 4 _,T4.p2.keepT (((T4.p1.keepT1 Yd 2 _).trans ((T4.p1.set 2 _).keepT1 Yd 3 _)).trans (((T4.p1.set 2 _).set 3 _).keepT1 Yd 4 _)) (((T4.p1.keepT1 Yd 2 _).trans ((T4.p1.set 2 _).keepT1 Yd 3 _)).trans (((T4.p1.set 2 _).set 3 _).keepT1 Yd 4 _)) hb8,T4.q6.keepT (((T4.p1.keepT1 Yd 2 _).trans ((T4.p1.set 2 _).keepT1 Yd 3 _)).trans (((T4.p1.set 2 _).set 3 _).keepT1 Yd 4 _)) hb8,?_⟩
       exact (if_pos (by cases acc.1<;>rfl)).symm
      clear hb8 T4
      go_wp2_with fail
      case roundEnd=>exact ⟨⟨k+1,(241:Int),E2,n2,c2,b9,A9,l9,k9,B9,m9,d9,rfl,by go_num,Yo,K.out⟩,by simp [intOf];omega⟩
    obtain rfl:k=n:=by omega
    have d0:¬ (k:Int)<(k:Int):=Yo
    have hall:(cs.zip fs).take k=cs.zip fs:=List.take_of_length_le (by rw [List.length_zip,HS.p2,HS.p3];omega)
    rw [hall] at H
    clear hall
    cases hbad:(runC sense (cs.zip fs)).1 with
    | true=>
     have hE:combX cs fs sense=(Cx.no,241):=by unfold combX;rw [if_pos HSE.out,if_pos hbad]
     have hcode:code=241:=by rw [H.q4,if_pos hbad]
     subst hcode
     have HE:=Lib.hid hE
     clear hE hbad
     have f0:=Bl.fr H.p0 0
     have f1:=Bl.fr H.p0 1
     have f2:=Bl.fr H.p0 2
     have f3:=Bl.fr H.p0 3
     have f4:=Bl.fr H.p0 4
     have r0:=Bl.ld H.p0 0 rfl
     have r1:=Bl.ld H.p0 1 rfl
     have r2:=Bl.ld H.p0 2 rfl
     have r3:=Bl.ld H.p0 3 rfl
     have r4:=Bl.ld H.p0 4 rfl
     go_wp2_with fail
     clear f0 r0 f1 r1 f2 r2 f3 r3 f4 r4
     refine ret_bl (H.p0.set5 rfl _ _ _ _ _) (fun W hW=>by have d0:=hW 0 _ rfl;have d1:=hW 1 _ rfl;have d2:=hW 2 _ rfl;have d3:=hW 3 _ rfl;have d4:=hW 4 _ rfl;simp [results,Tryz.results62,go_sem,d0,d1,d2,d3,d4];try rfl) rfl ?_
     rw [HE.out]
     exact ⟨_,rfl,Cw.no _ _ (below5 H.p2.below (Nat.le_refl _) _ _ _ _ _)⟩
    | false=>
     have hE:combX cs fs sense=(⟨sense,fqT (runC sense (cs.zip fs)).2.1,fq (runC sense (cs.zip fs)).2.2⟩,0):=by unfold combX;rw [if_pos HSE.out,if_neg (by rw [hbad];decide)]
     have hcode:code=0:=by rw [H.q4,if_neg (by rw [hbad];decide)]
     subst hcode
     have HE:=Lib.hid hE
     clear hE hbad
     have f0:=Bl.fr H.p0 0
     have f1:=Bl.fr H.p0 1
     have f2:=Bl.fr H.p0 2
     have f3:=Bl.fr H.p0 3
     have f4:=Bl.fr H.p0 4
     have r0:=Bl.ld H.p0 0 rfl
     have r1:=Bl.ld H.p0 1 rfl
     have r2:=Bl.ld H.p0 2 rfl
     have r3:=Bl.ld H.p0 3 rfl
     have r4:=Bl.ld H.p0 4 rfl
     have s0:=Bl.ld H.p1 0 rfl
     have s1:=Bl.ld H.p1 1 rfl
     have s2:=Bl.ld H.p1 2 rfl
     have s3:=Bl.ld H.p1 3 rfl
     have s4:=Bl.ld H.p1 4 rfl
     go_wp2_with fail
     clear f0 r0 f1 r1 f2 r2 f3 r3 f4 r4 s0 s1 s2 s3 s4
     refine ret_bl (H.p0.set5 rfl _ _ _ _ _) (fun W hW=>by have d0:=hW 0 _ rfl;have d1:=hW 1 _ rfl;have d2:=hW 2 _ rfl;have d3:=hW 3 _ rfl;have d4:=hW 4 _ rfl;simp [results,Tryz.results62,go_sem,d0,d1,d2,d3,d4];try rfl) rfl ?_
     rw [HE.out]
     exact ⟨_,rfl,⟨sense,E,n1,c1,b,A,l,k1,B,m,d⟩,rfl,rfl,H.p2.keepT (H.p0.keep5 Yd _ _ _ _ _) (H.p0.keep5 Yd _ _ _ _ _) (below5 H.p2.below (Nat.le_refl _) _ _ _ _ _),H.p3.keepT (H.p0.keep5 Yd _ _ _ _ _) (below5 H.p2.below (Nat.le_refl _) _ _ _ _ _)⟩
 have hE:combX cs fs sense=(Cx.no,2):=if_neg hse
 have HE:=Lib.hid hE
 have hd:decide (0<sense/\sense<4)=false:=decide_eq_false hse
 clear hse e0 hE
 go_wp2_with fail
 refine (sensible_c sense).mono ?_;rintro e w1 ⟨rfl,rfl⟩
 rw [hd]
 have f0:=Bl.fr S0.p0 0
 have f1:=Bl.fr S0.p0 1
 have f2:=Bl.fr S0.p0 2
 have f3:=Bl.fr S0.p0 3
 have f4:=Bl.fr S0.p0 4
 have r0:=Bl.ld S0.p0 0 rfl
 have r1:=Bl.ld S0.p0 1 rfl
 have r2:=Bl.ld S0.p0 2 rfl
 have r3:=Bl.ld S0.p0 3 rfl
 have r4:=Bl.ld S0.p0 4 rfl
 go_wp2_with fail
 clear f0 r0 f1 r1 f2 r2 f3 r3 f4 r4
 refine ret_bl (S0.p0.set5 rfl _ _ _ _ _) (fun W hW=>by have d0:=hW 0 _ rfl;have d1:=hW 1 _ rfl;have d2:=hW 2 _ rfl;have d3:=hW 3 _ rfl;have d4:=hW 4 _ rfl;simp [results,Tryz.results62,go_sem,d0,d1,d2,d3,d4];try rfl) rfl ?_
 rw [HE.out]
 exact ⟨_,rfl,Cw.no _ _ (below5 S0.q1 (Nat.le_refl _) _ _ _ _ _)⟩
end
end
end Go.Proofs.YtclaiidoomdklaaGreat
