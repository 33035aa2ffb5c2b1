import Derived.Test.YtclaiidoomdklaaGreatSNA20
set_option maxRecDepth 100000
set_option maxHeartbeats 8000000
set_option linter.unusedVariables false
set_option linter.unusedSimpArgs false
namespace Go.Proofs.YtclaiidoomdklaaGreat
section
namespace I
section
open Go Go.RowKit Go.Proofs Pl
theorem cell_one {w:World} {g j:Nat} {A:Option Addr} {l c:Nat} (hc:w.cell? ⟨g,j,none⟩=some (.slice A l c)) (x:Value) {b o:Nat} {k:IntKind} {n:Int} (h:w.cell? ⟨b,o,none⟩=some (.int k n)):(w.setCell ⟨g,j,none⟩ x).cell? ⟨b,o,none⟩=some (.int k n):=by
 rw [World.cell?_setCell_other w ⟨g,j,none⟩ ⟨b,o,none⟩ x ?_]
 · exact h
 · intro e
   first
    | (rw [e] at h;rw [hc] at h;cases h)
    | (rw [<- e] at h;rw [hc] at h;cases h)
theorem Nl.set1 {w:World} {g j:Nat} {A:Option Addr} {l c:Nat} (hc:w.cell? ⟨g,j,none⟩=some (.slice A l c)) (x:Value) {v:Value} {xs:List Nat} (h:Nl w v xs):Nl (w.setCell ⟨g,j,none⟩ x) v xs:=by
 obtain ⟨B,c',h1,⟨h2,h3⟩,h4⟩:=h
 refine ⟨B,c',h1,⟨h2,?_⟩,h4⟩
 rcases h3 with h3 | ⟨b,o,h5,h6⟩
 · exact .inl h3
 · exact .inr ⟨b,o,h5,fun j k hj=>cell_one hc x (h6 j k hj)⟩
theorem Qe.set1 {w:World} {g j L:Nat} {A:Option Addr} {l c:Nat} (hc:w.cell? ⟨g,j,none⟩=some (.slice A l c)) (x:Value) {v:Value} {q:Rat} (h:Qe w L v q):Qe (w.setCell ⟨g,j,none⟩ x) L v q:=by
 obtain ⟨s,d,h1,h2,h3⟩:=h
 exact ⟨s,d,h1,⟨Nl.set1 hc x h2.1,h2.2⟩,⟨Nl.set1 hc x h3.1,h3.2⟩⟩
theorem runC_stays {sense:Int} {ps:List (Cx × Fx)} {k:Nat} (h:(runC sense (ps.take k)).1=true):(runC sense ps).1=true:=by
 have e:runC sense ps=(ps.drop k).foldl (stepC sense) (runC sense (ps.take k)):=by
  unfold runC
  rw [<- List.foldl_append,List.take_append_drop]
 rw [e];exact runC_bad _ _ h
theorem bad_ne {sense:Int} {c:Cx} {f:Fx} (hq:f.q≠0) (h3:sense≠3):badC sense c f=((c.s==sense) !=decide (0<sgnQ f.q)):=by
 unfold badC
 rw [if_neg h3]
 have hs:sgnQ f.q=1/\0<f.q/\¬ f.q<0∨sgnQ f.q=-1/\f.q<0/\¬ 0<f.q:=by
  rcases rat_cases _ hq with ⟨h,h'⟩ | ⟨h,h'⟩
  · exact .inl ⟨sgnQ_pos h,h,h'⟩
  · exact .inr ⟨sgnQ_neg h,h,h'⟩
 by_cases h2:c.s=sense
 · rw [if_pos h2,h2,beq_self_eq_true]
   rcases hs with ⟨h1,h4,h5⟩ | ⟨h1,h4,h5⟩<;>rw [h1]
   · rw [decide_eq_false h5];rfl
   · rw [decide_eq_true h4];rfl
 · rw [if_neg h2,beq_eq_false_iff_ne.2 h2]
   rcases hs with ⟨h1,h4,h5⟩ | ⟨h1,h4,h5⟩<;>rw [h1]
   · rw [decide_eq_true h4];rfl
   · rw [decide_eq_false h5];rfl
theorem combine_d {w:World} {v u:Value} {cs:List Cx} {fs:List Fx} {sense:Int} (h:Kv w v cs) (hu:Rx w u fs) (hn:cs.length=fs.length) (hl:cs.length<=30) (hc:∀ c∈cs,SzC 211 14 c) (hf:∀ f∈fs,f.xs.length<=6/\f.ds.length<=6):
 Calls Tryz.prog 68 #[v,u,.int .i64 sense] w fun e w'=>∃ r,e=.returned (.tuple #[r,.int .i64 (combX cs fs sense).2])/\Cw w w' r (combX cs fs sense).1:=by
 obtain ⟨A1,cap1,rfl,-,-⟩:=h.shape
 obtain ⟨A2,cap2,rfl,-,-⟩:=hu.shape
 have hq:∀ f∈fs,Sz 6 f.q:=fun f hm=>by
  obtain ⟨i,hi⟩:=List.getElem?_of_mem hm
  obtain ⟨g,o,cap,x,-,-,hv,-⟩:=hu.at_ hi
  exact (hv.qv (hf f hm).1 (hf f hm).2).sz Yd
 obtain ⟨n,hnn⟩:∃ n,cs.length=n:=⟨_,rfl⟩
 have hl':n<=30:=by rw [<- hnn];exact hl
 rw [<- hn,hnn]
 have e0:((n:Int)==(n:Int))=true:=beq_self_eq_true _
 have hZ:∀ k,k<=n->SzA 6600 420 (runC sense ((cs.zip fs).take k)):=fun k hk=>szA_fit hc hq hl hn Yo
 have HS:=Yh8 h hu hnn (hn.symm.trans hnn) hc hf hq hZ
 clear h hu hn hl hc hf hq hnn hZ
 go_enter Tryz.func68,Tryz.ntmps68
 go_upto_region 1 with (fail)
 have S0:=Yh2 (Bl.new w 39 [.int .i64 0,.slice none 0 0,.bool false,.slice none 0 0,.slice none 0 0]) (Ya w (.cells #[.int .i64 0,.slice none 0 0,.bool false,.slice none 0 0,.slice none 0 0] 39))
 generalize w.alloc _=W0 at S0 ⊢
 by_cases hse:0<sense/\sense<4
 · skip
   have hd:decide (0<sense/\sense<4)=true:=decide_eq_true hse
   have HSE:=Lib.hid hse
   clear hse
   go_wp2_with fail
   refine (sense_d sense).mono ?_;rintro e w1 ⟨rfl,rfl⟩
   rw [hd]
   clear hd
   go_wp2_with fail
   clear e0
   go_loopw [8] (fun z wr=>∃ (k:Nat),z=.int .i64 (k:Int)/\k<=n/\Hid (Bl wr 39 w.heap.size [.int .i64 0,.slice none 0 0,.bool false,.slice none 0 0,.slice none 0 0]/\Yg w wr)) (fun z _=>n - (intOf z).toNat)
   case atStart=>exact ⟨0,rfl,Nat.zero_le _,S0.out⟩
   case round=>
    clear S0
    obtain ⟨k,rfl,hk,H⟩:=hrel
    by_cases hlt:k<n
    · skip
      have hkc:k<cs.length:=by rw [HS.p2];exact hlt
      obtain ⟨c,hc⟩:∃ c,cs[k]?=some c:=⟨_,List.getElem?_eq_getElem hkc⟩
      obtain ⟨gc,oc,capc,x,e,hgl,-,-,x0,-⟩:=HS.p0.at_ hc
      rw [HS.p2] at e
      injection e with e1 e2 e3
      subst e1
      have hcm:=HS.p4 c (List.mem_of_getElem? hc)
      have z0:=(H.q1.cell (p:=⟨gc,_,none⟩) hgl).trans x0
      have d0:(k:Int)<(n:Int):=Yo
      have hd:decide (0<c.s/\c.s<4)=true:=decide_eq_true (by have:=hcm.sense;omega)
      clear hc hkc e2 e3 hgl x0 hcm capc
      go_wp2_with fail
      refine (sense_d c.s).mono ?_;rintro e w4 ⟨rfl,rfl⟩
      rw [hd]
      clear hd z0
      go_wp2_with fail
      case roundEnd=>exact ⟨⟨k+1,by go_num,Yo,H.out⟩,by simp [intOf];omega⟩
    have d0:¬ (k:Int)<(n:Int):=Yo
    clear hlt hk
    go_upto_region 9 with (fail)
    clear d0
    have hal:=Ya wr (.cells #[.int .i64 sense,.slice none 0 0,.bool false,.slice none 0 0,.slice none 0 0] 39)
    obtain ⟨g9,hg9⟩:∃ g,g=wr.heap.size:=⟨_,rfl⟩
    have hgw:w.heap.size<g9:=by rw [hg9];exact H.p0.lt
    have S1:=Yh3 (H.p0.keep hal) (Bl.new wr 39 [.int .i64 sense,.slice none 0 0,.bool false,.slice none 0 0,.slice none 0 0]) (Yb H.q1 hal)
    rw [<- hg9] at S1 ⊢
    generalize wr.alloc _=W2 at S1 ⊢
    clear hal hg9 H
    go_wp2_with fail
    refine (small_e sm_zero).mono ?_;rintro e w2 ⟨u2,rfl,h,hb⟩
    obtain ⟨p,A0,l0,c0,B0,m0,d0,rfl⟩:=h.parts
    have S2:=Yh4 (S1.p0.keep hb) (S1.p1.keep hb) h (Yb S1.q2 hb)
    clear h hb S1
    go_upto_region 10 with (fail)
    have hal:=Ya w2 (.cells #[.bool p,.slice A0 l0 c0,.slice B0 m0 d0] 60)
    obtain ⟨g10,hg10⟩:∃ g,g=w2.heap.size:=⟨_,rfl⟩
    have hgw2:g9<g10:=by rw [hg10];exact S2.p1.lt
    have S3:=Yh5 (S2.p0.keep hal) (S2.p1.keep hal) (S2.p2.keep hal) (B3.new 60 w2 (.bool p) (.slice A0 l0 c0) (.slice B0 m0 d0)) (Yb S2.q3 hal)
    rw [<- hg10] at S3 ⊢
    generalize w2.alloc _=W3 at S3 ⊢
    clear hal hg10 S2
    go_wp2_with fail
    go_loopw [11] (fun z wr=>∃ (k:Nat) (E:Option Addr) (n1 c1:Nat) (b:Bool) (A:Option Addr) (l k1:Nat) (B:Option Addr) (m d:Nat),z=.int .i64 (k:Int)/\k<=n/\Hid (Bl wr 39 w.heap.size [.int .i64 0,.slice none 0 0,.bool false,.slice none 0 0,.slice none 0 0]/\Bl wr 39 g9 [.int .i64 sense,.slice E n1 c1,.bool false,.slice none 0 0,.slice none 0 0]/\Tw w wr (.slice E n1 c1) (fqT (runC sense ((cs.zip fs).take k)).2.1)/\B3 60 wr g10 (.bool b) (.slice A l k1) (.slice B m d)/\Qe wr (7+k*1086) (.agg #[.bool b,.slice A l k1,.slice B m d]) (runC sense ((cs.zip fs).take k)).2.2/\(runC sense ((cs.zip fs).take k)).1=false)) (fun z _=>n - (intOf z).toNat)
    case atStart=>exact ⟨0,none,0,0,p,A0,l0,c0,B0,m0,d0,rfl,Nat.zero_le _,S3.p0,S3.p1,Tw.nil S3.q4,S3.p3,S3.p2.mono Yo,rfl⟩
    case round=>
     clear S3
     obtain ⟨k,E,n1,c1,b,A,l,k1,B,m,d,rfl,hk,H⟩:=hrel
     by_cases hlt:k<n
     · skip
       have hkc:k<cs.length:=by rw [HS.p2];exact hlt
       have hkf:k<fs.length:=by rw [HS.p3];exact hlt
       obtain ⟨c,hc⟩:∃ c,cs[k]?=some c:=⟨_,List.getElem?_eq_getElem hkc⟩
       obtain ⟨f,hf⟩:∃ f,fs[k]?=some f:=⟨_,List.getElem?_eq_getElem hkf⟩
       obtain ⟨gc,oc,capc,x,e,hgl,hTx,hFc,x0,x1,x2,x3,x4⟩:=HS.p0.at_ hc
       rw [HS.p2] at e
       injection e with e1 e2 e3
       subst e1
       obtain ⟨gf,of_,capf,y,e,hgf,hFf,y0,y1,y2⟩:=HS.p1.at_ hf
       rw [HS.p3] at e
       injection e with e4 e5 e6
       subst e4
       have hcm:=HS.p4 c (List.mem_of_getElem? hc)
       have hfm:=HS.p5 f (List.mem_of_getElem? hf)
       have hsu:runC sense ((cs.zip fs).take (k+1))=stepC sense (runC sense ((cs.zip fs).take k)) (c,f):=runC_succ (zip_at hc hf)
       have hst0:(runC sense ((cs.zip fs).take (k+1))).1=true->(runC sense (cs.zip fs)).1=true:=runC_stays
       have hza:=HS.q7 k hk
       obtain ⟨acc,hacc⟩:∃ a,a=runC sense ((cs.zip fs).take k):=⟨_,rfl⟩
       rw [<- hacc] at H hsu hza
       have hqv:=hFf.qv hfm.1 hfm.2
       have hnum:7+k*1086+1085+1=7+(k+1)*1086:=Yo
       have HX:=Yh8 hTx hFc hqv hcm hsu hza hst0 hnum
       have HY:Hid (∀ W,Yg w W->(W.cell? ⟨gf,of_+k*3,none⟩=some (.bool y.b)/\W.cell? ⟨gf,of_+k*3+1,none⟩=some (.slice y.A y.l y.k)/\W.cell? ⟨gf,of_+k*3+2,none⟩=some (.slice y.B y.m y.d))/\W.cell? ⟨gc,oc+k*5,none⟩=some (.int .i64 c.s)/\W.cell? ⟨gc,oc+k*5+1,none⟩=some (.slice x.E x.n x.c)/\W.cell? ⟨gc,oc+k*5+2,none⟩=some (.bool x.b)/\W.cell? ⟨gc,oc+k*5+3,none⟩=some (.slice x.A x.l x.k)/\W.cell? ⟨gc,oc+k*5+4,none⟩=some (.slice x.B x.m x.d)):=fun W hb=>⟨⟨(hb.cell (p:=⟨gf,_,none⟩) hgf).trans y0,(hb.cell (p:=⟨gf,_,none⟩) hgf).trans y1,(hb.cell (p:=⟨gf,_,none⟩) hgf).trans y2⟩,(hb.cell (p:=⟨gc,_,none⟩) hgl).trans x0,(hb.cell (p:=⟨gc,_,none⟩) hgl).trans x1,(hb.cell (p:=⟨gc,_,none⟩) hgl).trans x2,(hb.cell (p:=⟨gc,_,none⟩) hgl).trans x3,(hb.cell (p:=⟨gc,_,none⟩) hgl).trans x4⟩
       have d0:(k:Int)<(n:Int):=Yo
       clear hc hf hkc hkf e2 e3 e5 e6 hTx hFc hFf hqv hcm hfm hsu hza hst0 hnum hgl hgf x0 x1 x2 x3 x4 y0 y1 y2 capc capf hacc
       obtain ⟨⟨y0,y1,y2⟩,x0,-⟩:=HY.out _ H.p2.below
       go_wp2_with fail
       refine (of_e (a:=.agg #[.bool y.b,.slice y.A y.l y.k,.slice y.B y.m y.d]) (HX.p2.keep H.p2.below) Yd Yd).mono ?_;rintro e w4 ⟨u4,rfl,h,hb⟩
       obtain ⟨p4,A4,l4,c4,B4,m4,d4,rfl⟩:=h.parts
       have S4:=Yh7 (H.p0.keep hb) (H.p1.keep hb) (H.p2.keep hb) (H.p3.keep hb) (H.p4.keep hb) H.q5 h
       clear h hb H y0 y1 y2 x0
       go_upto_region 14 with (fail)
       have hal:=Ya w4 (.cells #[.bool p4,.slice A4 l4 c4,.slice B4 m4 d4] 60)
       obtain ⟨g12,hg12⟩:∃ g,g=w4.heap.size:=⟨_,rfl⟩
       have hg4:w.heap.size<g12/\g9<g12/\g10<g12:=by rw [hg12];exact ⟨S4.p0.lt,S4.p1.lt,S4.p3.lt⟩
       have S5:=Yh8 (S4.p0.keep hal) (S4.p1.keep hal) (S4.p2.keep hal) (S4.p3.keep hal) (S4.p4.keep hal) S4.p5 (S4.q6.keep hal) (B3.new 60 w4 (.bool p4) (.slice A4 l4 c4) (.slice B4 m4 d4))
       rw [<- hg12] at S5 ⊢
       generalize w4.alloc _=W5 at S5 ⊢
       clear hal hg12 S4
       obtain ⟨s0,s1,s2,-,-,-⟩:=S5.q7.facts
       go_wp2_with fail
       refine (sign_e S5.p6).mono ?_;rintro e w6 ⟨rfl,hb⟩
       have S6:=Yh8 (S5.p0.keep hb) (S5.p1.keep hb) (S5.p2.keep hb) (S5.p3.keep hb) (S5.p4.keep hb) S5.p5 (S5.p6.keep hb) (S5.q7.keep hb)
       clear hb S5 s0 s1 s2
       obtain ⟨s,hs⟩:∃ s,s=sgnQ f.q:=⟨_,rfl⟩
       rw [<- hs]
       have HSG:=Lib.hid hs
       clear hs
       by_cases hz:f.q=0
       · skip
         have e1:(s==0)=true:=by rw [HSG.out,hz];rfl
         have hst:stepC sense acc (c,f)=acc:=if_pos hz
         have K:Hid (Bl w6 39 w.heap.size [.int .i64 0,.slice none 0 0,.bool false,.slice none 0 0,.slice none 0 0]/\Bl w6 39 g9 [.int .i64 sense,.slice E n1 c1,.bool false,.slice none 0 0,.slice none 0 0]/\Tw w w6 (.slice E n1 c1) (fqT (runC sense ((cs.zip fs).take (k+1))).2.1)/\B3 60 w6 g10 (.bool b) (.slice A l k1) (.slice B m d)/\Qe w6 (7+(k+1)*1086) (.agg #[.bool b,.slice A l k1,.slice B m d]) (runC sense ((cs.zip fs).take (k+1))).2.2/\(runC sense ((cs.zip fs).take (k+1))).1=false):=by
          rw [HX.p4,hst]
          exact ⟨S6.p0,S6.p1,S6.p2,S6.p3,S6.p4.mono Yo,S6.p5⟩
         clear hz hst S6
         go_wp2_with fail
         case roundEnd=>exact ⟨⟨k+1,E,n1,c1,b,A,l,k1,B,m,d,by go_num,Yo,K.out⟩,by simp [intOf];omega⟩
       have e1:(s==0)=false:=beq_eq_false_iff_ne.2 (by rw [HSG.out];exact fun e=>hz ((sgn_zero _).1 e))
       have HNZ:=Lib.hid hz
       have hst:stepC sense acc (c,f)=(acc.1 || badC sense c f,mkV (acc.2.1++scaleT f.q (qT c.ts)),acc.2.2+f.q*c.r.q):=if_neg hz
       have HST:=Lib.hid hst
       have e3:(c.s !=3)=true:=bne_iff_ne.2 (by have:=HX.p3.sense;omega)
       clear hz hst
       obtain ⟨-,x0,-⟩:=HY.out _ S6.p2.below
       by_cases h3:sense=3
       · skip
         have hbd:badC sense c f=true:=if_pos h3
         have HBD:=Lib.hid hbd
         clear hbd
         subst h3
         have hE:combX cs fs 3=(Cx.no,241):=by
          have hb:(runC 3 (cs.zip fs)).1=true:=HX.p6 (by rw [HX.p4,HST.out,HBD.out];cases acc.1<;>rfl)
          unfold combX;rw [if_pos HSE.out,if_pos hb]
         have HE:=Lib.hid hE
         clear hE
         have f0:=Bl.fr S6.p0 0
         have f1:=Bl.fr S6.p0 1
         have f2:=Bl.fr S6.p0 2
         have f3:=Bl.fr S6.p0 3
         have f4:=Bl.fr S6.p0 4
         have r0:=Bl.ld S6.p0 0 rfl
         have r1:=Bl.ld S6.p0 1 rfl
         have r2:=Bl.ld S6.p0 2 rfl
         have r3:=Bl.ld S6.p0 3 rfl
         have r4:=Bl.ld S6.p0 4 rfl
         go_wp2_with fail
         clear f0 r0 f1 r1 f2 r2 f3 r3 f4 r4
         try simp only [Exit.inBlock,Exit.then]
         refine ret_bl (S6.p0.set5 rfl _ _ _ _ _) (fun W hW=>by have d0:=hW 0 _ rfl;have d1:=hW 1 _ rfl;have d2:=hW 2 _ rfl;have d3:=hW 3 _ rfl;have d4:=hW 4 _ rfl;simp [results,Tryz.results68,go_sem,d0,d1,d2,d3,d4];try rfl) rfl ?_
         rw [HE.out]
         exact ⟨_,rfl,Cw.no _ _ (below5 S6.p2.below (Nat.le_refl _) _ _ _ _ _)⟩
       have hbn:=bad_ne (c:=c) (f:=f) HNZ.out h3
       rw [<- HSG.out] at hbn
       obtain ⟨b1,hb1⟩:∃ b,(c.s==sense)=b:=⟨_,rfl⟩
       obtain ⟨b2,hb2⟩:∃ b,decide (0<s)=b:=⟨_,rfl⟩
       rw [hb1,hb2] at hbn
       have e4:(sense==3)=false:=beq_eq_false_iff_ne.2 h3
       clear h3
       cases hbd:badC sense c f with
       | true=>
        have HBD:=Lib.hid hbd
        rw [hbd] at hbn
        clear hbd
        cases b1
        · skip
          obtain rfl:b2=true:=by cases b2<;>first | rfl | cases hbn
          clear hbn
          have hE:combX cs fs sense=(Cx.no,241):=by
           have hb:(runC sense (cs.zip fs)).1=true:=HX.p6 (by rw [HX.p4,HST.out,HBD.out];cases acc.1<;>rfl)
           unfold combX;rw [if_pos HSE.out,if_pos hb]
          have HE:=Lib.hid hE
          clear hE
          have f0:=Bl.fr S6.p0 0
          have f1:=Bl.fr S6.p0 1
          have f2:=Bl.fr S6.p0 2
          have f3:=Bl.fr S6.p0 3
          have f4:=Bl.fr S6.p0 4
          have r0:=Bl.ld S6.p0 0 rfl
          have r1:=Bl.ld S6.p0 1 rfl
          have r2:=Bl.ld S6.p0 2 rfl
          have r3:=Bl.ld S6.p0 3 rfl
          have r4:=Bl.ld S6.p0 4 rfl
          go_wp2_with fail
          clear f0 r0 f1 r1 f2 r2 f3 r3 f4 r4
          try simp only [Exit.inBlock,Exit.then]
          refine ret_bl (S6.p0.set5 rfl _ _ _ _ _) (fun W hW=>by have d0:=hW 0 _ rfl;have d1:=hW 1 _ rfl;have d2:=hW 2 _ rfl;have d3:=hW 3 _ rfl;have d4:=hW 4 _ rfl;simp [results,Tryz.results68,go_sem,d0,d1,d2,d3,d4];try rfl) rfl ?_
          rw [HE.out]
          exact ⟨_,rfl,Cw.no _ _ (below5 S6.p2.below (Nat.le_refl _) _ _ _ _ _)⟩
        obtain rfl:b2=false:=by cases b2<;>first | rfl | cases hbn
        clear hbn
        have hE:combX cs fs sense=(Cx.no,241):=by
         have hb:(runC sense (cs.zip fs)).1=true:=HX.p6 (by rw [HX.p4,HST.out,HBD.out];cases acc.1<;>rfl)
         unfold combX;rw [if_pos HSE.out,if_pos hb]
        have HE:=Lib.hid hE
        clear hE
        have f0:=Bl.fr S6.p0 0
        have f1:=Bl.fr S6.p0 1
        have f2:=Bl.fr S6.p0 2
        have f3:=Bl.fr S6.p0 3
        have f4:=Bl.fr S6.p0 4
        have r0:=Bl.ld S6.p0 0 rfl
        have r1:=Bl.ld S6.p0 1 rfl
        have r2:=Bl.ld S6.p0 2 rfl
        have r3:=Bl.ld S6.p0 3 rfl
        have r4:=Bl.ld S6.p0 4 rfl
        go_wp2_with fail
        clear f0 r0 f1 r1 f2 r2 f3 r3 f4 r4
        try simp only [Exit.inBlock,Exit.then]
        refine ret_bl (S6.p0.set5 rfl _ _ _ _ _) (fun W hW=>by have d0:=hW 0 _ rfl;have d1:=hW 1 _ rfl;have d2:=hW 2 _ rfl;have d3:=hW 3 _ rfl;have d4:=hW 4 _ rfl;simp [results,Tryz.results68,go_sem,d0,d1,d2,d3,d4];try rfl) rfl ?_
        rw [HE.out]
        exact ⟨_,rfl,Cw.no _ _ (below5 S6.p2.below (Nat.le_refl _) _ _ _ _ _)⟩
       | false=>
        have HBD:=Lib.hid hbd
        rw [hbd] at hbn
        obtain rfl:b1=b2:=by cases b1<;>cases b2<;>first | rfl | cases hbn
        clear hbd hbn
        go_upto_region 18 with (fail)
        clear e1 e3 e4 hb1 hb2 x0
        have T0:=Yh8 (S6.p0.keep (below_d _)) (S6.p1.keep (below_d _)) (S6.p2.keep (below_d _)) (S6.p3.keep (below_d _)) (S6.p4.keep (below_d _)) S6.p5 (S6.p6.keep (below_d _)) (S6.q7.keep (below_d _))
        refine wp_region_late 13 (by kernel_rfl) (by kernel_rfl) (Yl 14 8192).toArray (by kernel_rfl) (S:=fun W=>W.cell? ⟨gf,of_+k*3,none⟩=some (.bool y.b)/\W.cell? ⟨gf,of_+k*3+1,none⟩=some (.slice y.A y.l y.k)/\W.cell? ⟨gf,of_+k*3+2,none⟩=some (.slice y.B y.m y.d)/\W.cell? ⟨gc,oc+k*5,none⟩=some (.int .i64 c.s)/\W.cell? ⟨gc,oc+k*5+1,none⟩=some (.slice x.E x.n x.c)/\W.cell? ⟨gc,oc+k*5+2,none⟩=some (.bool x.b)/\W.cell? ⟨gc,oc+k*5+3,none⟩=some (.slice x.A x.l x.k)/\W.cell? ⟨gc,oc+k*5+4,none⟩=some (.slice x.B x.m x.d)/\Ye5 W g9 (.int .i64 sense) (.slice E n1 c1) (.bool false) (.slice none 0 0) (.slice none 0 0)) ⟨(HY.out _ T0.p2.below).1.1,(HY.out _ T0.p2.below).1.2.1,(HY.out _ T0.p2.below).1.2.2,(HY.out _ T0.p2.below).2.1,(HY.out _ T0.p2.below).2.2.1,(HY.out _ T0.p2.below).2.2.2.1,(HY.out _ T0.p2.below).2.2.2.2.1,(HY.out _ T0.p2.below).2.2.2.2.2,Bl.ld T0.p1 0 rfl,Bl.ld T0.p1 1 rfl,Bl.ld T0.p1 2 rfl,Bl.ld T0.p1 3 rfl,Bl.ld T0.p1 4 rfl⟩ (fun Hh=>?_)
        clear S6
        refine rgRun 11 [0,1,2,3,4,5,6,7,8,9,10] Hh fun K hK=>?_
        repeat refine rgA ?_
        refine hK _ _ ?_;clear hK K
        generalize w6.drew=Wd at T0 Hh ⊢
        refine rgO 11 fun K hK=>?_
        go_simp
        go_at_call 133;refine (axpy_e (La:=6) (L:=211) (M:=6600) (J:=6818) (a:=.agg #[.bool y.b,.slice y.A y.l y.k,.slice y.B y.m y.d]) (HX.p2.keep T0.p2.below) ((show Tx w (.slice x.E x.n x.c) c.ts from HX.p0).keep T0.p2.below |>.vt HX.p3.words) (by have:=T0.p2.tx.vt (szT_fq HX.p5.ts);rw [qT_fq] at this;exact this) Yd Yd Yd Yd (by unfold qT;rw [List.length_map];have:=HX.p3.len;omega) (by have:=HX.p5.len;omega) (sz_axpy (M:=6600) (L:=211) (K:=6) Yd Yd HX.p5.vec HX.p3.vec HX.p5.ts HX.p3.ts (HX.p2.sz Yd)) Yd).mono ?_;rintro e w7 ⟨u7,rfl,h6⟩
        obtain ⟨E2,c2,rfl⟩:=h6.shape
        obtain ⟨n2,hn2⟩:∃ n,n=(fqT (mkV (acc.2.1++scaleT f.q (qT c.ts)))).length:=⟨_,rfl⟩
        rw [<- hn2] at h6 ⊢
        have hb:=h6.below
        have T1:=Yh9 (T0.p0.keep hb) (T0.p1.keep hb) (T0.p2.keep hb) (T0.p3.keep hb) (T0.p4.keep hb) T0.p5 (T0.p6.keep hb) (T0.q7.keep hb) (h6.from T0.p2.below)
        clear h6 hn2 hb Hh T0
        go_wp2_with fail
        refine rgK hK ⟨(HY.out _ T1.p2.below).1.1,(HY.out _ T1.p2.below).1.2.1,(HY.out _ T1.p2.below).1.2.2,(HY.out _ T1.p2.below).2.1,(HY.out _ T1.p2.below).2.2.1,(HY.out _ T1.p2.below).2.2.2.1,(HY.out _ T1.p2.below).2.2.2.2.1,(HY.out _ T1.p2.below).2.2.2.2.2,Bl.ld T1.p1 0 rfl,Bl.ld T1.p1 1 rfl,Bl.ld T1.p1 2 rfl,Bl.ld T1.p1 3 rfl,Bl.ld T1.p1 4 rfl⟩ fun Hh=>?_;clear hK K
        refine rgT 12 Hh ?_
        refine Yw ?_
        clear Hh
        refine late_go (T:=fun _=>True) (Yl 14 8191).toArray 1 (by kernel_rfl) (by kernel_rfl) ?_
        have f1:=Bl.fr T1.p1 1
        have r1:=Bl.ld T1.p1 1 rfl
        refine rgO 13 fun K hK=>?_
        go_simp
        refine rgK hK trivial fun _=>?_;clear hK K
        refine Yw ?_
        have hb8:Yg w (w7.setCell ⟨g9,1,none⟩ (.slice E2 n2 c2)):=T1.p2.below.setCell (Nat.le_of_lt hgw) _
        have S7:Hid (Bl (w7.setCell ⟨g9,1,none⟩ (.slice E2 n2 c2)) 39 w.heap.size [.int .i64 0,.slice none 0 0,.bool false,.slice none 0 0,.slice none 0 0]/\Bl (w7.setCell ⟨g9,1,none⟩ (.slice E2 n2 c2)) 39 g9 [.int .i64 sense,.slice E2 n2 c2,.bool false,.slice none 0 0,.slice none 0 0]/\Tw w (w7.setCell ⟨g9,1,none⟩ (.slice E2 n2 c2)) (.slice E2 n2 c2) (fqT (mkV (acc.2.1++scaleT f.q (qT c.ts))))/\B3 60 (w7.setCell ⟨g9,1,none⟩ (.slice E2 n2 c2)) g10 (.bool b) (.slice A l k1) (.slice B m d)/\Qe (w7.setCell ⟨g9,1,none⟩ (.slice E2 n2 c2)) (7+k*1086) (.agg #[.bool b,.slice A l k1,.slice B m d]) acc.2.2/\acc.1=false/\Qe (w7.setCell ⟨g9,1,none⟩ (.slice E2 n2 c2)) (5*6) (.agg #[.bool p4,.slice A4 l4 c4,.slice B4 m4 d4]) f.q/\B3 60 (w7.setCell ⟨g9,1,none⟩ (.slice E2 n2 c2)) g12 (.bool p4) (.slice A4 l4 c4) (.slice B4 m4 d4)):=⟨T1.p0.other (p:=⟨g9,1,none⟩) (Nat.ne_of_gt hgw) _,T1.p1.set 1 _,T1.q8.keepT (T1.p1.keepT1 Yd 1 _) (T1.p1.keepT1 Yd 1 _) hb8,(B3.other T1.p3 (p:=⟨g9,1,none⟩) (by show g9≠_;omega) _),T1.p4.set1 r1 _,T1.p5,T1.p6.set1 r1 _,(B3.other T1.p7 (p:=⟨g9,1,none⟩) (by show g9≠_;omega) _)⟩
        clear f1 r1
        generalize w7.setCell ⟨g9,1,none⟩ (.slice E2 n2 c2)=W8 at S7 ⊢
        clear T1 hb8
        go_upto_region 19 with (fail)
        have T2:=Yh9 (S7.p0.keep (below_d _)) (S7.p1.keep (below_d _)) (S7.p2.keep (below_d _)) (S7.p3.keep (below_d _)) (S7.p4.keep (below_d _)) S7.p5 (S7.p6.keep (below_d _)) (S7.q7.keep (below_d _)) trivial
        refine wp_region_late 10 (by kernel_rfl) (by kernel_rfl) (Yl 11 1024).toArray (by kernel_rfl) (S:=fun W=>W.cell? ⟨gc,oc+k*5,none⟩=some (.int .i64 c.s)/\W.cell? ⟨gc,oc+k*5+1,none⟩=some (.slice x.E x.n x.c)/\W.cell? ⟨gc,oc+k*5+2,none⟩=some (.bool x.b)/\W.cell? ⟨gc,oc+k*5+3,none⟩=some (.slice x.A x.l x.k)/\W.cell? ⟨gc,oc+k*5+4,none⟩=some (.slice x.B x.m x.d)/\Yc3 W g10 (.bool b) (.slice A l k1) (.slice B m d) (Ye3 W g12 (.bool p4) (.slice A4 l4 c4) (.slice B4 m4 d4))) ⟨(HY.out _ T2.p2.below).2.1,(HY.out _ T2.p2.below).2.2.1,(HY.out _ T2.p2.below).2.2.2.1,(HY.out _ T2.p2.below).2.2.2.2.1,(HY.out _ T2.p2.below).2.2.2.2.2,T2.p3.facts.1,T2.p3.facts.2.1,T2.p3.facts.2.2.1,T2.p7.facts.1,T2.p7.facts.2.1,T2.p7.facts.2.2.1⟩ (fun Hh=>?_)
        clear S7
        refine rgRun 7 [0,1,2,3,4,5,6] Hh fun K hK=>?_
        repeat refine rgA ?_
        refine hK _ _ ?_;clear hK K
        generalize W8.drew=We at T2 Hh ⊢
        refine rgO 7 fun K hK=>?_
        go_simp
        go_at_call 28;refine (of_e (L:=211) (a:=.agg #[.bool x.b,.slice x.A x.l x.k,.slice x.B x.m x.d]) (((show Fv w (.agg #[.bool x.b,.slice x.A x.l x.k,.slice x.B x.m x.d]) c.r from HX.p1).keep T2.p2.below).qv HX.p3.rw_.1 HX.p3.rw_.2) Yd Yd).mono ?_;rintro e w8 ⟨u8,rfl,h8,hb⟩
        obtain ⟨p8,A8,l8,k8,B8,m8,d8,rfl⟩:=h8.parts
        have T3:=Yh9 (T2.p0.keep hb) (T2.p1.keep hb) (T2.p2.keep hb) (T2.p3.keep hb) (T2.p4.keep hb) T2.p5 (T2.p6.keep hb) (T2.p7.keep hb) h8
        clear h8 hb Hh T2
        go_wp2_with fail
        refine rgK hK ⟨(HY.out _ T3.p2.below).2.1,(HY.out _ T3.p2.below).2.2.1,(HY.out _ T3.p2.below).2.2.2.1,(HY.out _ T3.p2.below).2.2.2.2.1,(HY.out _ T3.p2.below).2.2.2.2.2,T3.p3.facts.1,T3.p3.facts.2.1,T3.p3.facts.2.2.1,T3.p7.facts.1,T3.p7.facts.2.1,T3.p7.facts.2.2.1⟩ fun Hh=>?_;clear hK K
        refine rgO 8 fun K hK=>?_
        go_simp
        go_at_call 26;refine (mul_e (L:=5*6) (M:=5*211) T3.p6 T3.q8 Yd Yd Yd Yd).mono ?_;rintro e w9 ⟨u9,rfl,h9,hb⟩
        obtain ⟨p9,A9,l9,k9,B9,m9,d9,rfl⟩:=h9.parts
        have T4:=Yh9 (T3.p0.keep hb) (T3.p1.keep hb) (T3.p2.keep hb) (T3.p3.keep hb) (T3.p4.keep hb) T3.p5 (T3.p6.keep hb) (T3.p7.keep hb) h9
        clear h9 hb Hh T3
        go_wp2_with fail
        refine rgK hK ⟨(HY.out _ T4.p2.below).2.1,(HY.out _ T4.p2.below).2.2.1,(HY.out _ T4.p2.below).2.2.2.1,(HY.out _ T4.p2.below).2.2.2.2.1,(HY.out _ T4.p2.below).2.2.2.2.2,T4.p3.facts.1,T4.p3.facts.2.1,T4.p3.facts.2.2.1,T4.p7.facts.1,T4.p7.facts.2.1,T4.p7.facts.2.2.1⟩ fun Hh=>?_;clear hK K
        refine rgO 9 fun K hK=>?_
        go_simp
        go_at_call 25;refine (add_e (L:=7+k*1086) (M:=5*6+5*211) T4.p4 T4.q8 Yo Yd Yo Yd).mono ?_;rintro e wa ⟨ua,rfl,ha,hb⟩
        obtain ⟨pa,Aa,la,ka,Ba,ma,da,rfl⟩:=ha.parts
        rw [show 7+k*1086+(5*6+5*211)+1=7+(k+1)*1086 from HX.q7] at ha
        have T5:=Yh9 (T4.p0.keep hb) (T4.p1.keep hb) (T4.p2.keep hb) (T4.p3.keep hb) (T4.p4.keep hb) T4.p5 (T4.p6.keep hb) (T4.p7.keep hb) ha
        clear ha hb Hh T4
        go_wp2_with fail
        refine rgK hK ⟨(HY.out _ T5.p2.below).2.1,(HY.out _ T5.p2.below).2.2.1,(HY.out _ T5.p2.below).2.2.2.1,(HY.out _ T5.p2.below).2.2.2.2.1,(HY.out _ T5.p2.below).2.2.2.2.2,T5.p3.facts.1,T5.p3.facts.2.1,T5.p3.facts.2.2.1,T5.p7.facts.1,T5.p7.facts.2.1,T5.p7.facts.2.2.1⟩ fun Hh=>?_;clear hK K
        refine Yw ?_
        clear Hh
        refine late_go (T:=fun _=>True) (Yl 11 1023).toArray 1 (by kernel_rfl) (by kernel_rfl) ?_
        obtain ⟨s0,s1,s2,f0,f1,f2⟩:=T5.p3.facts
        refine rgO 10 fun K hK=>?_
        go_simp
        refine rgK hK trivial fun _=>?_;clear hK K
        refine Yw ?_
        clear s0 s1 s2 f0 f1 f2
        have hb8:Yg w (((wa.setCell ⟨g10,0,none⟩ (.bool pa)).setCell ⟨g10,1,none⟩ (.slice Aa la ka)).setCell ⟨g10,2,none⟩ (.slice Ba ma da)):=T5.p3.below T5.p2.below Yo _ _ _
        have kt:∀ T,60≠T->KeepT T wa (((wa.setCell ⟨g10,0,none⟩ (.bool pa)).setCell ⟨g10,1,none⟩ (.slice Aa la ka)).setCell ⟨g10,2,none⟩ (.slice Ba ma da)):=fun T hT=>T5.p3.keepT hT _ _ _
        have K:Hid (Bl (((wa.setCell ⟨g10,0,none⟩ (.bool pa)).setCell ⟨g10,1,none⟩ (.slice Aa la ka)).setCell ⟨g10,2,none⟩ (.slice Ba ma da)) 39 w.heap.size [.int .i64 0,.slice none 0 0,.bool false,.slice none 0 0,.slice none 0 0]/\Bl (((wa.setCell ⟨g10,0,none⟩ (.bool pa)).setCell ⟨g10,1,none⟩ (.slice Aa la ka)).setCell ⟨g10,2,none⟩ (.slice Ba ma da)) 39 g9 [.int .i64 sense,.slice E2 n2 c2,.bool false,.slice none 0 0,.slice none 0 0]/\Tw w (((wa.setCell ⟨g10,0,none⟩ (.bool pa)).setCell ⟨g10,1,none⟩ (.slice Aa la ka)).setCell ⟨g10,2,none⟩ (.slice Ba ma da)) (.slice E2 n2 c2) (fqT (runC sense ((cs.zip fs).take (k+1))).2.1)/\B3 60 (((wa.setCell ⟨g10,0,none⟩ (.bool pa)).setCell ⟨g10,1,none⟩ (.slice Aa la ka)).setCell ⟨g10,2,none⟩ (.slice Ba ma da)) g10 (.bool pa) (.slice Aa la ka) (.slice Ba ma da)/\Qe (((wa.setCell ⟨g10,0,none⟩ (.bool pa)).setCell ⟨g10,1,none⟩ (.slice Aa la ka)).setCell ⟨g10,2,none⟩ (.slice Ba ma da)) (7+(k+1)*1086) (.agg #[.bool pa,.slice Aa la ka,.slice Ba ma da]) (runC sense ((cs.zip fs).take (k+1))).2.2/\(runC sense ((cs.zip fs).take (k+1))).1=false):=by
         rw [HX.p4,HST.out,HBD.out]
         exact ⟨(kt 39 Yd).bl T5.p0,(kt 39 Yd).bl T5.p1,T5.p2.keepT (kt _ Yd) (kt _ Yd) hb8,T5.p3.set _ _ _,Qd.put3 T5.q8 T5.p3 _ _ _,by rw [T5.p5];rfl⟩
        clear hb8 kt T5
        go_wp2_with fail
        case roundEnd=>exact ⟨⟨k+1,E2,n2,c2,pa,Aa,la,ka,Ba,ma,da,by go_num,Yo,K.out⟩,by simp [intOf];omega⟩
     obtain rfl:k=n:=by omega
     have d0:¬ (k:Int)<(k:Int):=Yo
     have hall:(cs.zip fs).take k=cs.zip fs:=List.take_of_length_le (by rw [List.length_zip,HS.p2,HS.p3];omega)
     have hza:=HS.q7 k (Nat.le_refl _)
     rw [hall] at H hza
     clear hall
     have HZA:=Lib.hid hza
     have hE:combX cs fs sense=(⟨sense,fqT (runC sense (cs.zip fs)).2.1,fq (runC sense (cs.zip fs)).2.2⟩,0):=by unfold combX;rw [if_pos HSE.out,if_neg (by rw [H.q5];decide)]
     have HE:=Lib.hid hE
     clear hE hza
     obtain ⟨s0,s1,s2,-,-,-⟩:=H.p3.facts
     go_wp2_with fail
     refine (to_r (K:=6600) H.p4 Yo HZA.out.r Yd).mono ?_;rintro e w4 ⟨u4,rfl,h4⟩
     have hf4:=h4.fw
     obtain ⟨A4,l4,k4,B4,m4,d4,rfl⟩:=hf4.fv.parts
     obtain ⟨b4,hb4⟩:∃ b,b=(fq (runC sense (cs.zip fs)).2.2).b:=⟨_,rfl⟩
     rw [<- hb4] at hf4 ⊢
     have T:=Yh4 (H.p0.keep hf4.below) (H.p1.keep hf4.below) (H.p2.keep hf4.below) (hf4.from H.p2.below)
     clear h4 hf4 hb4 H s0 s1 s2
     have f2:=Bl.fr T.p1 2
     have r2:=Bl.ld T.p1 2 rfl
     have f3:=Bl.fr T.p1 3
     have r3:=Bl.ld T.p1 3 rfl
     have f4:=Bl.fr T.p1 4
     have r4:=Bl.ld T.p1 4 rfl
     go_upto_region 21 with (fail)
     clear f2 f3 f4 r2 r3 r4
     have hb8:Yg w (((w4.setCell ⟨g9,2,none⟩ (.bool b4)).setCell ⟨g9,3,none⟩ (.slice A4 l4 k4)).setCell ⟨g9,4,none⟩ (.slice B4 m4 d4)):=((T.p2.below.setCell (p:=⟨g9,2,none⟩) (Nat.le_of_lt hgw) _).setCell (p:=⟨g9,3,none⟩) (Nat.le_of_lt hgw) _).setCell (p:=⟨g9,4,none⟩) (Nat.le_of_lt hgw) _
     have U:Hid (Bl (((w4.setCell ⟨g9,2,none⟩ (.bool b4)).setCell ⟨g9,3,none⟩ (.slice A4 l4 k4)).setCell ⟨g9,4,none⟩ (.slice B4 m4 d4)) 39 w.heap.size [.int .i64 0,.slice none 0 0,.bool false,.slice none 0 0,.slice none 0 0]/\Bl (((w4.setCell ⟨g9,2,none⟩ (.bool b4)).setCell ⟨g9,3,none⟩ (.slice A4 l4 k4)).setCell ⟨g9,4,none⟩ (.slice B4 m4 d4)) 39 g9 [.int .i64 sense,.slice E n1 c1,.bool b4,.slice A4 l4 k4,.slice B4 m4 d4]/\Tw w (((w4.setCell ⟨g9,2,none⟩ (.bool b4)).setCell ⟨g9,3,none⟩ (.slice A4 l4 k4)).setCell ⟨g9,4,none⟩ (.slice B4 m4 d4)) (.slice E n1 c1) (fqT (runC sense (cs.zip fs)).2.1)/\Fw w (((w4.setCell ⟨g9,2,none⟩ (.bool b4)).setCell ⟨g9,3,none⟩ (.slice A4 l4 k4)).setCell ⟨g9,4,none⟩ (.slice B4 m4 d4)) (.agg #[.bool b4,.slice A4 l4 k4,.slice B4 m4 d4]) (fq (runC sense (cs.zip fs)).2.2)):=⟨((T.p0.other (p:=⟨g9,2,none⟩) (Nat.ne_of_gt hgw) _).other (p:=⟨g9,3,none⟩) (Nat.ne_of_gt hgw) _).other (p:=⟨g9,4,none⟩) (Nat.ne_of_gt hgw) _,((T.p1.set 2 _).set 3 _).set 4 _,T.p2.keepT (((T.p1.keepT1 Yd 2 _).trans ((T.p1.set 2 _).keepT1 Yd 3 _)).trans (((T.p1.set 2 _).set 3 _).keepT1 Yd 4 _)) (((T.p1.keepT1 Yd 2 _).trans ((T.p1.set 2 _).keepT1 Yd 3 _)).trans (((T.p1.set 2 _).set 3 _).keepT1 Yd 4 _)) hb8,T.q3.keepT (((T.p1.keepT1 Yd 2 _).trans ((T.p1.set 2 _).keepT1 Yd 3 _)).trans (((T.p1.set 2 _).set 3 _).keepT1 Yd 4 _)) hb8⟩
     generalize ((w4.setCell ⟨g9,2,none⟩ (.bool b4)).setCell ⟨g9,3,none⟩ (.slice A4 l4 k4)).setCell ⟨g9,4,none⟩ (.slice B4 m4 d4)=W9 at U ⊢
     clear T hb8
     have f0:=Bl.fr U.p0 0
     have f1:=Bl.fr U.p0 1
     have f2:=Bl.fr U.p0 2
     have f3:=Bl.fr U.p0 3
     have f4:=Bl.fr U.p0 4
     have r0:=Bl.ld U.p0 0 rfl
     have r1:=Bl.ld U.p0 1 rfl
     have r2:=Bl.ld U.p0 2 rfl
     have r3:=Bl.ld U.p0 3 rfl
     have r4:=Bl.ld U.p0 4 rfl
     have s0:=Bl.ld U.p1 0 rfl
     have s1:=Bl.ld U.p1 1 rfl
     have s2:=Bl.ld U.p1 2 rfl
     have s3:=Bl.ld U.p1 3 rfl
     have s4:=Bl.ld U.p1 4 rfl
     go_wp2_with fail
     clear f0 r0 f1 r1 f2 r2 f3 r3 f4 r4 s0 s1 s2 s3 s4
     refine ret_bl (U.p0.set5 rfl _ _ _ _ _) (fun W hW=>by have d0:=hW 0 _ rfl;have d1:=hW 1 _ rfl;have d2:=hW 2 _ rfl;have d3:=hW 3 _ rfl;have d4:=hW 4 _ rfl;simp [results,Tryz.results68,go_sem,d0,d1,d2,d3,d4];try rfl) rfl ?_
     rw [HE.out]
     exact ⟨_,rfl,⟨sense,E,n1,c1,b4,A4,l4,k4,B4,m4,d4⟩,rfl,rfl,U.p2.keepT (U.p0.keep5 Yd _ _ _ _ _) (U.p0.keep5 Yd _ _ _ _ _) (below5 U.p2.below (Nat.le_refl _) _ _ _ _ _),U.q3.keepT (U.p0.keep5 Yd _ _ _ _ _) (below5 U.p2.below (Nat.le_refl _) _ _ _ _ _)⟩
 have hE:combX cs fs sense=(Cx.no,2):=if_neg hse
 have HE:=Lib.hid hE
 have hd:decide (0<sense/\sense<4)=false:=decide_eq_false hse
 clear hse e0 hE
 go_wp2_with fail
 refine (sense_d sense).mono ?_;rintro e w1 ⟨rfl,rfl⟩
 rw [hd]
 have f0:=Bl.fr S0.p0 0
 have f1:=Bl.fr S0.p0 1
 have f2:=Bl.fr S0.p0 2
 have f3:=Bl.fr S0.p0 3
 have f4:=Bl.fr S0.p0 4
 have r0:=Bl.ld S0.p0 0 rfl
 have r1:=Bl.ld S0.p0 1 rfl
 have r2:=Bl.ld S0.p0 2 rfl
 have r3:=Bl.ld S0.p0 3 rfl
 have r4:=Bl.ld S0.p0 4 rfl
 go_wp2_with fail
 clear f0 r0 f1 r1 f2 r2 f3 r3 f4 r4
 refine ret_bl (S0.p0.set5 rfl _ _ _ _ _) (fun W hW=>by have d0:=hW 0 _ rfl;have d1:=hW 1 _ rfl;have d2:=hW 2 _ rfl;have d3:=hW 3 _ rfl;have d4:=hW 4 _ rfl;simp [results,Tryz.results68,go_sem,d0,d1,d2,d3,d4];try rfl) rfl ?_
 rw [HE.out]
 exact ⟨_,rfl,Cw.no _ _ (below5 S0.q1 (Nat.le_refl _) _ _ _ _ _)⟩
end
end I
end
end Go.Proofs.YtclaiidoomdklaaGreat
