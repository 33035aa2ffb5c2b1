import Derived.Test.YtclaiidoomdklaaGreatSNA31
import Derived.Test.YtclaiidoomdklaaGreatSNA24
set_option maxRecDepth 100000
set_option maxHeartbeats 8000000
set_option linter.unusedVariables false
set_option linter.unusedSimpArgs false
namespace Go.Proofs.YtclaiidoomdklaaGreat
section
namespace I
section
open Go Go.RowKit Go.Proofs Pl
theorem sum_d {w:World} {v u:Value} {l:LPx} {us:List Ux} {sense:Int} (h:LPv w v l) (hf:Fit l) (hlo:l.lo.length=l.cols.length) (hhi:l.hi.length=l.cols.length) (hbl:l.hasLo.length=l.cols.length) (hbh:l.hasHi.length=l.cols.length) (hn0:0<=l.n) (hn1:l.n<=l.cols.length) (hu:Uv w u us) (hl:us.length<=30) (hw:∀ x∈us,x.f.xs.length<=6/\x.f.ds.length<=6):
 Calls Tryz.prog 15 #[v,u,.int .i64 sense] w fun e w'=>∃ r p,e=.returned (.tuple #[r,.int .i64 p.2])/\Cw w w' r p.1/\SumIs l us sense p:=by
 have hsz:=fit_sz h hf
 have hv:=h
 obtain ⟨⟨n,⟨aA,an,ac⟩,⟨bA,bn,bc⟩,⟨cA,cn,cc⟩,⟨dA,dn,dc⟩,⟨eA,en,ec⟩,⟨fA,fn,fc⟩⟩,rfl,h1,-⟩:=h
 have h1:n=l.n:=h1
 subst h1
 obtain ⟨Au,cu,rfl,-,-⟩:=hu.shape
 obtain ⟨m,hm⟩:∃ m,us.length=m:=⟨_,rfl⟩
 rw [hm] at hl ⊢
 have HS:=Yh6 (show LPv w (.agg #[.int .i64 l.n,.slice aA an ac,.slice bA bn bc,.slice cA cn cc,.slice dA dn dc,.slice eA en ec,.slice fA fn fc]) l from hv) hf hsz hu hw hm
 clear hv hf hsz hu hw hm
 change Calls Tryz.prog 15 #[.agg #[.int .i64 l.n,.slice aA an ac,.slice bA bn bc,.slice cA cn cc,.slice dA dn dc,.slice eA en ec,.slice fA fn fc],_,_] w _
 have HR:=Yh6 hlo hhi hbl hbh hn0 hn1
 clear hlo hhi hbl hbh hn0 hn1
 go_enter Tryz.func15,Tryz.ntmps15
 go_upto_region 1 with (fail)
 have X0:=(Bl.new w 26 [.int .i64 l.n,.slice aA an ac,.slice bA bn bc,.slice cA cn cc,.slice dA dn dc,.slice eA en ec,.slice fA fn fc]).alloc (.cells #[.int .i64 0,.slice none 0 0,.bool false,.slice none 0 0,.slice none 0 0] 39)
 have R0:=Bl.new1 w (.cells #[.int .i64 l.n,.slice aA an ac,.slice bA bn bc,.slice cA cn cc,.slice dA dn dc,.slice eA en ec,.slice fA fn fc] 26) 39 [.int .i64 0,.slice none 0 0,.bool false,.slice none 0 0,.slice none 0 0]
 have hb0:Yg w ((w.alloc (.cells #[.int .i64 l.n,.slice aA an ac,.slice bA bn bc,.slice cA cn cc,.slice dA dn dc,.slice eA en ec,.slice fA fn fc] 26)).alloc (.cells #[.int .i64 0,.slice none 0 0,.bool false,.slice none 0 0,.slice none 0 0] 39)):=Yb (Ya _ _) (Ya _ _)
 obtain ⟨gR,hgR⟩:∃ g,g=w.heap.size+1:=⟨_,rfl⟩
 rw [<- hgR] at R0 ⊢
 have hgl:w.heap.size<gR:=Yo
 have S0:=Yh3 X0 R0 hb0
 generalize (w.alloc _).alloc _=W0 at S0 ⊢
 clear X0 R0 hb0 hgR
 have hgR:gR<W0.heap.size:=S0.p1.lt
 have S0B:=Lib.hid S0.q2
 go_upto_region 2 with (fail)
 have ha:=(Rr.made W0 39 5 Cm.cs Yd).keep (Ya _ (.cells #[] 37))
 have hb:=Rr.made (W0.alloc (.cells #[] 39)) 37 3 Rm.cs Yd
 rw [World.size_alloc] at hb
 have hal:=Yb (Ya W0 (.cells #[] 39)) (Ya (W0.alloc (.cells #[] 39)) (.cells #[] 37))
 have S1:=Yh4 (S0.p0.keep hal) (S0.p1.keep hal) (show Kw W0 ((W0.alloc (.cells #[] 39)).alloc (.cells #[] 37)) (.slice (some ⟨W0.heap.size,0,none⟩) 0 0) [] from ⟨[],ha,Zip2.nil,hal⟩) (show Rq w W0 ((W0.alloc (.cells #[] 39)).alloc (.cells #[] 37)) (.slice (some ⟨W0.heap.size+1,0,none⟩) 0 0) [] from ⟨[],hb.mono (Nat.le_succ _),Zip2.nil⟩)
 generalize (W0.alloc _).alloc _=W1 at S1 ⊢
 clear ha hb hal S0
 go_wp2_with fail
 go_loopw [8,9,10] (fun z8 z9 z10 wr=>∃ (k:Nat) (u8 u9:Value) (cs:List Cx),z10=.int .i64 (k:Int)/\u8=z8/\u9=z9/\k<=m/\Hid (Bl wr 26 w.heap.size [.int .i64 l.n,.slice aA an ac,.slice bA bn bc,.slice cA cn cc,.slice dA dn dc,.slice eA en ec,.slice fA fn fc]/\Bl wr 39 gR [.int .i64 0,.slice none 0 0,.bool false,.slice none 0 0,.slice none 0 0]/\Kw W0 wr u8 cs/\Rq w W0 wr u9 ((us.map Ux.f).take k)/\Zip2 (fun (u:Ux) c=>boundX l u.c u.u=some c) (us.take k) cs)) (fun _ _ z _=>m - (intOf z).toNat)
 case atStart=>exact ⟨0,_,_,[],rfl,rfl,rfl,Nat.zero_le _,S1.p0,S1.p1,S1.p2,S1.q3,Zip2.nil⟩
 case round=>
  clear S1
  obtain ⟨k,u8,u9,cs,rfl,rfl,rfl,hk,H⟩:=hrel
  by_cases hlt:k<m
  · skip
    have hku:k<us.length:=by rw [HS.q5];exact hlt
    obtain ⟨t,ht⟩:∃ t,us[k]?=some t:=⟨_,List.getElem?_eq_getElem hku⟩
    obtain ⟨gu,ou,capu,x,e,hgu,hFt,x0,x1,x2,x3,x4⟩:=HS.p3.at_ ht
    rw [HS.q5] at e
    injection e with e1 e2 e3
    subst e1
    have HU:Hid (∀ W,Yg w W->W.cell? ⟨gu,ou+k*5,none⟩=some (.int .i64 t.c)/\W.cell? ⟨gu,ou+k*5+1,none⟩=some (.bool t.u)/\W.cell? ⟨gu,ou+k*5+2,none⟩=some (.bool x.b)/\W.cell? ⟨gu,ou+k*5+3,none⟩=some (.slice x.A x.l x.k)/\W.cell? ⟨gu,ou+k*5+4,none⟩=some (.slice x.B x.m x.d)):=fun W hb=>⟨(hb.cell (p:=⟨gu,_,none⟩) hgu).trans x0,(hb.cell (p:=⟨gu,_,none⟩) hgu).trans x1,(hb.cell (p:=⟨gu,_,none⟩) hgu).trans x2,(hb.cell (p:=⟨gu,_,none⟩) hgu).trans x3,(hb.cell (p:=⟨gu,_,none⟩) hgu).trans x4⟩
    have hnx:(us.map Ux.f).take (k+1)=(us.map Ux.f).take k++[t.f]:=take_f (by rw [List.getElem?_map,ht];rfl)
    have hl9:((us.map Ux.f).take k).length<=1048576:=by rw [List.length_take];omega
    have hl8:cs.length<=1048576:=by rw [<- H.p4,List.length_take];omega
    have HT:=Yh5 ht hFt hnx hl9 hl8
    have dk:(k:Int)<(m:Int):=Yo
    have hbw:Yg w wr:=Yb S0B.out H.p2.below
    clear ht hku e2 e3 hgu hFt hnx hl9 hl8 x0 x1 x2 x3 x4 capu
    obtain ⟨x0,x1,x2,x3,x4⟩:=HU.out _ hbw
    have HO:Hid (∀ k,u8.ownBlock=some k->W0.heap.size<=k):=fun k hk=>(H.p2.own k hk).1
    go_upto_region 5 with (fail)
    clear dk x0 x1 x2 x3 x4
    have T0:=Yh6 (H.p0.keep (below_d _)) (H.p1.keep (below_d _)) (H.p2.keep (below_d _)) (H.p3.keep (below_d _)) (Yb hbw (below_d _)) H.q4
    clear H hbw
    refine wp_region_held_drew (S:=fun W=>Yc7 W w.heap.size (.int .i64 l.n) (.slice aA an ac) (.slice bA bn bc) (.slice cA cn cc) (.slice dA dn dc) (.slice eA en ec) (.slice fA fn fc) (W.cell? ⟨gu,ou+k*5,none⟩=some (.int .i64 t.c)/\W.cell? ⟨gu,ou+k*5+1,none⟩=some (.bool t.u)/\W.cell? ⟨gu,ou+k*5+2,none⟩=some (.bool x.b)/\W.cell? ⟨gu,ou+k*5+3,none⟩=some (.slice x.A x.l x.k)/\W.cell? ⟨gu,ou+k*5+4,none⟩=some (.slice x.B x.m x.d))) (by kernel_rfl) ⟨Bl.ld T0.p0 0 rfl,Bl.ld T0.p0 1 rfl,Bl.ld T0.p0 2 rfl,Bl.ld T0.p0 3 rfl,Bl.ld T0.p0 4 rfl,Bl.ld T0.p0 5 rfl,Bl.ld T0.p0 6 rfl,HU.out _ T0.p4⟩ (fun Hh=>?_)
    refine rgRun 11 [0,1,2,3,4,5,6,7,8,9,10] Hh fun K hK=>?_
    repeat refine rgA ?_
    refine hK _ _ ?_;clear hK K
    generalize wr.drew=Wd at T0 Hh ⊢
    refine rgReady [11,15] (rgOne (fun K hK=>?_) (rgOne (fun K hK=>?_) rgNil))
    · skip
      go_simp
      go_at_call 19;refine (bound_d (HS.p0.keep T0.p4) HS.p1 HR.p0 HR.p1 HR.p2 HR.p3 HR.p4 HR.q5).mono ?_;rintro e w5 ⟨r5,rfl,hc1⟩
      have hb:=hc1.below
      have hc1:=hc1.from T0.p2.below
      obtain ⟨⟨s9,E9,n9,c9,b9,A9,l9,k9,B9,m9,d9⟩,rfl,hs1,ht1,hr1⟩:=hc1
      have hc1:Cw W0 w5 (.agg #[.int .i64 s9,.slice E9 n9 c9,.bool b9,.slice A9 l9 k9,.slice B9 m9 d9]) (tellX (boundX l t.c t.u)).1:=⟨⟨s9,E9,n9,c9,b9,A9,l9,k9,B9,m9,d9⟩,rfl,hs1,ht1,hr1⟩
      clear hs1 ht1 hr1
      simp only [Cm.agg]
      have T1:=Yh7 (T0.p0.keep hb) (T0.p1.keep hb) (T0.p2.keep hb) (T0.p3.keep hb) (Yb T0.p4 hb) T0.q5 hc1
      clear hb hc1 T0 Hh
      go_wp2_with fail
      refine rgK hK ⟨Bl.ld T1.p0 0 rfl,Bl.ld T1.p0 1 rfl,Bl.ld T1.p0 2 rfl,Bl.ld T1.p0 3 rfl,Bl.ld T1.p0 4 rfl,Bl.ld T1.p0 5 rfl,Bl.ld T1.p0 6 rfl,HU.out _ T1.p4⟩ fun Hh=>?_;clear hK K
      refine rgT 12 Hh ?_
      refine rgT 13 Hh ?_
      refine rgT 14 Hh ?_
      refine rgO 15 fun K hK=>?_
      go_simp
      have hal:=Ya w5 (.cells #[.int .i64 0,.slice none 0 0,.bool false,.slice none 0 0,.slice none 0 0] 39)
      obtain ⟨g11,hg11⟩:∃ g,g=w5.heap.size:=⟨_,rfl⟩
      have hg1:W0.heap.size<=g11/\u8.ownBlock≠some g11:=by rw [hg11];exact ⟨T1.p2.below.size,fun e=>Nat.lt_irrefl _ (T1.p2.own _ e).2⟩
      have T2:=Yh10 (T1.p0.keep hal) (T1.p1.keep hal) (T1.p2.keep hal) (T1.p3.keep hal) (Yb T1.p4 hal) T1.p5 (T1.q6.keep hal) (Bl.new w5 39 [.int .i64 0,.slice none 0 0,.bool false,.slice none 0 0,.slice none 0 0]) hg1.1 hg1.2
      rw [<- hg11] at T2 ⊢
      clear hg1
      refine rgK hK ⟨Bl.ld T2.p0 0 rfl,Bl.ld T2.p0 1 rfl,Bl.ld T2.p0 2 rfl,Bl.ld T2.p0 3 rfl,Bl.ld T2.p0 4 rfl,Bl.ld T2.p0 5 rfl,Bl.ld T2.p0 6 rfl,HU.out _ T2.p4⟩ fun Hh=>?_;clear hK K
      generalize w5.alloc _=W6 at T2 Hh ⊢
      clear hal hg11 T1
      have f0:=Bl.fr T2.p7 0
      have f1:=Bl.fr T2.p7 1
      have f2:=Bl.fr T2.p7 2
      have f3:=Bl.fr T2.p7 3
      have f4:=Bl.fr T2.p7 4
      have r0:=Bl.ld T2.p7 0 rfl
      have r1:=Bl.ld T2.p7 1 rfl
      have r2:=Bl.ld T2.p7 2 rfl
      have r3:=Bl.ld T2.p7 3 rfl
      have r4:=Bl.ld T2.p7 4 rfl
      refine rgO 16 fun K hK=>?_
      go_simp
      clear f0 r0 f1 r1 f2 r2 f3 r3 f4 r4
      have hk5:∀ T,39≠T->KeepT T W6 (cells5 W6 g11 (.int .i64 s9) (.slice E9 n9 c9) (.bool b9) (.slice A9 l9 k9) (.slice B9 m9 d9)):=fun T hT=>T2.p7.keep5 hT _ _ _ _ _
      have hb0:Yg W0 (cells5 W6 g11 (.int .i64 s9) (.slice E9 n9 c9) (.bool b9) (.slice A9 l9 k9) (.slice B9 m9 d9)):=below5 T2.p2.below T2.p8 _ _ _ _ _
      have hbw:Yg w (cells5 W6 g11 (.int .i64 s9) (.slice E9 n9 c9) (.bool b9) (.slice A9 l9 k9) (.slice B9 m9 d9)):=Yb S0B.out hb0
      have S3:=Yh8 ((hk5 _ Yd).bl T2.p0) (T2.p1.other5 (Ne.symm (Nat.ne_of_lt (Nat.lt_of_lt_of_le hgR T2.p8))) (.int .i64 s9) (.slice E9 n9 c9) (.bool b9) (.slice A9 l9 k9) (.slice B9 m9 d9)) (T2.p2.keep5 T2.p7 (fun e=>T2.q9 e) hb0) (T2.p3.keepT (hk5 _ Yd)) hbw T2.p5 (T2.p6.keepT (hk5 _ Yd) (hk5 _ Yd) hb0) (T2.p7.set5 rfl (.int .i64 s9) (.slice E9 n9 c9) (.bool b9) (.slice A9 l9 k9) (.slice B9 m9 d9))
      change K _ (cells5 W6 g11 (.int .i64 s9) (.slice E9 n9 c9) (.bool b9) (.slice A9 l9 k9) (.slice B9 m9 d9))
      refine rgK hK ⟨Bl.ld S3.p0 0 rfl,Bl.ld S3.p0 1 rfl,Bl.ld S3.p0 2 rfl,Bl.ld S3.p0 3 rfl,Bl.ld S3.p0 4 rfl,Bl.ld S3.p0 5 rfl,Bl.ld S3.p0 6 rfl,HU.out _ S3.p4⟩ fun Hh=>?_;clear hK K
      clear hk5 hb0 hbw T2
      generalize cells5 W6 g11 (.int .i64 s9) (.slice E9 n9 c9) (.bool b9) (.slice A9 l9 k9) (.slice B9 m9 d9)=W3 at S3 Hh ⊢
      refine rgT 17 Hh ?_
      refine Yw ?_
      clear Hh
      cases hbx:boundX l t.c t.u with
      | none=>
       rw [hbx] at S3
       simp only [tellX]
       have hE:SumIs l us sense (Cx.no,2):=.inl ⟨⟨t,List.mem_of_getElem? HT.p0,hbx⟩,rfl⟩
       have HE:=Lib.hid hE
       clear hE hbx
       have f0:=Bl.fr S3.p1 0
       have f1:=Bl.fr S3.p1 1
       have f2:=Bl.fr S3.p1 2
       have f3:=Bl.fr S3.p1 3
       have f4:=Bl.fr S3.p1 4
       have r0:=Bl.ld S3.p1 0 rfl
       have r1:=Bl.ld S3.p1 1 rfl
       have r2:=Bl.ld S3.p1 2 rfl
       have r3:=Bl.ld S3.p1 3 rfl
       have r4:=Bl.ld S3.p1 4 rfl
       go_wp2_with fail
       clear f0 r0 f1 r1 f2 r2 f3 r3 f4 r4
       try simp only [Exit.inBlock,Exit.then]
       refine ret_bl (S3.p1.set5 rfl _ _ _ _ _) (fun W hW=>by have d0:=hW 0 _ rfl;have d1:=hW 1 _ rfl;have d2:=hW 2 _ rfl;have d3:=hW 3 _ rfl;have d4:=hW 4 _ rfl;simp [results,Tryz.results15,go_sem,d0,d1,d2,d3,d4];try rfl) rfl ?_
       exact ⟨_,(Cx.no,2),rfl,Cw.no _ _ (below5 (Yb S0B.out S3.p2.below) (Nat.le_of_lt hgl) _ _ _ _ _),HE.out⟩
      | some c=>
       rw [hbx] at S3
       simp only [tellX] at S3 ⊢
       have HB:=Lib.hid hbx
       clear hbx
       have y0:=Bl.ld S3.q7 0 rfl
       have y1:=Bl.ld S3.q7 1 rfl
       have y2:=Bl.ld S3.q7 2 rfl
       have y3:=Bl.ld S3.q7 3 rfl
       have y4:=Bl.ld S3.q7 4 rfl
       have dk:(k:Int)<(m:Int):=Yo
       go_wp2_with ((first | (at_builtin;refine app_qs (w1:=W0) rfl (.tmp 44) (.tmp 50) rfl (x:=Rm.mk x.b x.A x.l x.k x.B x.m x.d) rfl rfl (S4.p3.keep (Ya _ _)) HT.p1 (Bl.new w8 _ _) HT.p3 (Yb S4.p2.below (Ya _ _)) ?_;intro v9 w9 q1 qb q2) | (at_builtin;refine app_ks (c:=c) rfl (.tmp 40) (.tmp 42) rfl (x:=⟨s9,E9,n9,c9,b9,A9,l9,k9,B9,m9,d9⟩) rfl rfl (S3.p2.keep (Ya _ _)) (S3.p6.keep (Ya _ _)) (Bl.new W3 _ _) HT.q4 ?_;intro v8 w8 q1 q2 q3;have hal:=Ya W3 (.cells #[.int .i64 s9,.slice E9 n9 c9,.bool b9,.slice A9 l9 k9,.slice B9 m9 d9] 39);have hR:Bl w8 39 gR [.int .i64 0,.slice none 0 0,.bool false,.slice none 0 0,.slice none 0 0]:=(q3 gR (S3.p1.keep hal).lt (fun e=>by have:=HO.out gR e;omega)).trans (S3.p1.keep hal);have S4:=Yh6 ((q2 _ Yd).bl (S3.p0.keep hal)) hR q1 ((S3.p3.keep hal).keepT (q2 _ Yd)) (Yb S0B.out q1.below) S3.p5;clear q1 q2 q3 hR hal S3 y0 y1 y2 y3 y4;obtain ⟨-,-,x2,x3,x4⟩:=HU.out _ S4.p4)))
       have hal:=Ya w8 (.cells #[.bool x.b,.slice x.A x.l x.k,.slice x.B x.m x.d] 37)
       have KK:Hid (Bl w9 26 w.heap.size [.int .i64 l.n,.slice aA an ac,.slice bA bn bc,.slice cA cn cc,.slice dA dn dc,.slice eA en ec,.slice fA fn fc]/\Bl w9 39 gR [.int .i64 0,.slice none 0 0,.bool false,.slice none 0 0,.slice none 0 0]/\Kw W0 w9 v8 (cs++[c])/\Rq w W0 w9 v9 ((us.map Ux.f).take (k+1))/\Zip2 (fun (u:Ux) c=>boundX l u.c u.u=some c) (us.take (k+1)) (cs++[c])):=⟨(q2 _ Yd).bl (S4.p0.keep hal),(q2 _ Yd).bl (S4.p1.keep hal),(S4.p2.keep hal).keepT (q2 _ Yd) (q2 _ Yd) (q2 _ Yd) qb,by rw [HT.p2];exact q1,zip_take S4.q5 HT.p0 HB.out⟩
       clear q1 qb q2 hal S4 x2 x3 x4
       go_wp2_with fail
       case roundEnd=>exact ⟨⟨k+1,v8,v9,cs++[c],by go_num,rfl,rfl,Yo,KK.out⟩,by simp [intOf];omega⟩
    go_simp
    have hal:=Ya Wd (.cells #[.int .i64 0,.slice none 0 0,.bool false,.slice none 0 0,.slice none 0 0] 39)
    obtain ⟨g11,hg11⟩:∃ g,g=Wd.heap.size:=⟨_,rfl⟩
    have hg1:W0.heap.size<=g11/\u8.ownBlock≠some g11:=by rw [hg11];exact ⟨T0.p2.below.size,fun e=>Nat.lt_irrefl _ (T0.p2.own _ e).2⟩
    have T1:=Yh9 (T0.p0.keep hal) (T0.p1.keep hal) (T0.p2.keep hal) (T0.p3.keep hal) (Yb T0.p4 hal) T0.q5 (Bl.new Wd 39 [.int .i64 0,.slice none 0 0,.bool false,.slice none 0 0,.slice none 0 0]) hg1.1 hg1.2
    rw [<- hg11] at T1 ⊢
    clear hg1
    refine rgK hK ⟨Bl.ld T1.p0 0 rfl,Bl.ld T1.p0 1 rfl,Bl.ld T1.p0 2 rfl,Bl.ld T1.p0 3 rfl,Bl.ld T1.p0 4 rfl,Bl.ld T1.p0 5 rfl,Bl.ld T1.p0 6 rfl,HU.out _ T1.p4⟩ fun Hh=>?_;clear hK K
    generalize Wd.alloc _=W6 at T1 Hh ⊢
    clear hal hg11 T0
    refine rgO 11 fun K hK=>?_
    go_simp
    go_at_call 19;refine (bound_d (HS.p0.keep T1.p4) HS.p1 HR.p0 HR.p1 HR.p2 HR.p3 HR.p4 HR.q5).mono ?_;rintro e w5 ⟨r5,rfl,hc1⟩
    have hb:=hc1.below
    have hc1:=hc1.from T1.p2.below
    obtain ⟨⟨s9,E9,n9,c9,b9,A9,l9,k9,B9,m9,d9⟩,rfl,hs1,ht1,hr1⟩:=hc1
    have hc1:Cw W0 w5 (.agg #[.int .i64 s9,.slice E9 n9 c9,.bool b9,.slice A9 l9 k9,.slice B9 m9 d9]) (tellX (boundX l t.c t.u)).1:=⟨⟨s9,E9,n9,c9,b9,A9,l9,k9,B9,m9,d9⟩,rfl,hs1,ht1,hr1⟩
    clear hs1 ht1 hr1
    simp only [Cm.agg]
    have T2:=Yh10 (T1.p0.keep hb) (T1.p1.keep hb) (T1.p2.keep hb) (T1.p3.keep hb) (Yb T1.p4 hb) T1.p5 hc1 (T1.p6.keep hb) T1.p7 T1.q8
    clear hb hc1 T1 Hh
    go_wp2_with fail
    refine rgK hK ⟨Bl.ld T2.p0 0 rfl,Bl.ld T2.p0 1 rfl,Bl.ld T2.p0 2 rfl,Bl.ld T2.p0 3 rfl,Bl.ld T2.p0 4 rfl,Bl.ld T2.p0 5 rfl,Bl.ld T2.p0 6 rfl,HU.out _ T2.p4⟩ fun Hh=>?_;clear hK K
    refine rgT 12 Hh ?_
    refine rgT 13 Hh ?_
    refine rgT 14 Hh ?_
    have f0:=Bl.fr T2.p7 0
    have f1:=Bl.fr T2.p7 1
    have f2:=Bl.fr T2.p7 2
    have f3:=Bl.fr T2.p7 3
    have f4:=Bl.fr T2.p7 4
    have r0:=Bl.ld T2.p7 0 rfl
    have r1:=Bl.ld T2.p7 1 rfl
    have r2:=Bl.ld T2.p7 2 rfl
    have r3:=Bl.ld T2.p7 3 rfl
    have r4:=Bl.ld T2.p7 4 rfl
    refine rgO 16 fun K hK=>?_
    go_simp
    clear f0 r0 f1 r1 f2 r2 f3 r3 f4 r4
    have hk5:∀ T,39≠T->KeepT T w5 (cells5 w5 g11 (.int .i64 s9) (.slice E9 n9 c9) (.bool b9) (.slice A9 l9 k9) (.slice B9 m9 d9)):=fun T hT=>T2.p7.keep5 hT _ _ _ _ _
    have hb0:Yg W0 (cells5 w5 g11 (.int .i64 s9) (.slice E9 n9 c9) (.bool b9) (.slice A9 l9 k9) (.slice B9 m9 d9)):=below5 T2.p2.below T2.p8 _ _ _ _ _
    have hbw:Yg w (cells5 w5 g11 (.int .i64 s9) (.slice E9 n9 c9) (.bool b9) (.slice A9 l9 k9) (.slice B9 m9 d9)):=Yb S0B.out hb0
    have S3:=Yh8 ((hk5 _ Yd).bl T2.p0) (T2.p1.other5 (Ne.symm (Nat.ne_of_lt (Nat.lt_of_lt_of_le hgR T2.p8))) (.int .i64 s9) (.slice E9 n9 c9) (.bool b9) (.slice A9 l9 k9) (.slice B9 m9 d9)) (T2.p2.keep5 T2.p7 (fun e=>T2.q9 e) hb0) (T2.p3.keepT (hk5 _ Yd)) hbw T2.p5 (T2.p6.keepT (hk5 _ Yd) (hk5 _ Yd) hb0) (T2.p7.set5 rfl (.int .i64 s9) (.slice E9 n9 c9) (.bool b9) (.slice A9 l9 k9) (.slice B9 m9 d9))
    change K _ (cells5 w5 g11 (.int .i64 s9) (.slice E9 n9 c9) (.bool b9) (.slice A9 l9 k9) (.slice B9 m9 d9))
    refine rgK hK ⟨Bl.ld S3.p0 0 rfl,Bl.ld S3.p0 1 rfl,Bl.ld S3.p0 2 rfl,Bl.ld S3.p0 3 rfl,Bl.ld S3.p0 4 rfl,Bl.ld S3.p0 5 rfl,Bl.ld S3.p0 6 rfl,HU.out _ S3.p4⟩ fun Hh=>?_;clear hK K
    clear hk5 hb0 hbw T2
    generalize cells5 w5 g11 (.int .i64 s9) (.slice E9 n9 c9) (.bool b9) (.slice A9 l9 k9) (.slice B9 m9 d9)=W3 at S3 Hh ⊢
    refine rgT 17 Hh ?_
    refine Yw ?_
    clear Hh
    cases hbx:boundX l t.c t.u with
    | none=>
     rw [hbx] at S3
     simp only [tellX]
     have hE:SumIs l us sense (Cx.no,2):=.inl ⟨⟨t,List.mem_of_getElem? HT.p0,hbx⟩,rfl⟩
     have HE:=Lib.hid hE
     clear hE hbx
     have f0:=Bl.fr S3.p1 0
     have f1:=Bl.fr S3.p1 1
     have f2:=Bl.fr S3.p1 2
     have f3:=Bl.fr S3.p1 3
     have f4:=Bl.fr S3.p1 4
     have r0:=Bl.ld S3.p1 0 rfl
     have r1:=Bl.ld S3.p1 1 rfl
     have r2:=Bl.ld S3.p1 2 rfl
     have r3:=Bl.ld S3.p1 3 rfl
     have r4:=Bl.ld S3.p1 4 rfl
     go_wp2_with fail
     clear f0 r0 f1 r1 f2 r2 f3 r3 f4 r4
     try simp only [Exit.inBlock,Exit.then]
     refine ret_bl (S3.p1.set5 rfl _ _ _ _ _) (fun W hW=>by have d0:=hW 0 _ rfl;have d1:=hW 1 _ rfl;have d2:=hW 2 _ rfl;have d3:=hW 3 _ rfl;have d4:=hW 4 _ rfl;simp [results,Tryz.results15,go_sem,d0,d1,d2,d3,d4];try rfl) rfl ?_
     exact ⟨_,(Cx.no,2),rfl,Cw.no _ _ (below5 (Yb S0B.out S3.p2.below) (Nat.le_of_lt hgl) _ _ _ _ _),HE.out⟩
    | some c=>
     rw [hbx] at S3
     simp only [tellX] at S3 ⊢
     have HB:=Lib.hid hbx
     clear hbx
     have y0:=Bl.ld S3.q7 0 rfl
     have y1:=Bl.ld S3.q7 1 rfl
     have y2:=Bl.ld S3.q7 2 rfl
     have y3:=Bl.ld S3.q7 3 rfl
     have y4:=Bl.ld S3.q7 4 rfl
     have dk:(k:Int)<(m:Int):=Yo
     go_wp2_with ((first | (at_builtin;refine app_qs (w1:=W0) rfl (.tmp 44) (.tmp 50) rfl (x:=Rm.mk x.b x.A x.l x.k x.B x.m x.d) rfl rfl (S4.p3.keep (Ya _ _)) HT.p1 (Bl.new w8 _ _) HT.p3 (Yb S4.p2.below (Ya _ _)) ?_;intro v9 w9 q1 qb q2) | (at_builtin;refine app_ks (c:=c) rfl (.tmp 40) (.tmp 42) rfl (x:=⟨s9,E9,n9,c9,b9,A9,l9,k9,B9,m9,d9⟩) rfl rfl (S3.p2.keep (Ya _ _)) (S3.p6.keep (Ya _ _)) (Bl.new W3 _ _) HT.q4 ?_;intro v8 w8 q1 q2 q3;have hal:=Ya W3 (.cells #[.int .i64 s9,.slice E9 n9 c9,.bool b9,.slice A9 l9 k9,.slice B9 m9 d9] 39);have hR:Bl w8 39 gR [.int .i64 0,.slice none 0 0,.bool false,.slice none 0 0,.slice none 0 0]:=(q3 gR (S3.p1.keep hal).lt (fun e=>by have:=HO.out gR e;omega)).trans (S3.p1.keep hal);have S4:=Yh6 ((q2 _ Yd).bl (S3.p0.keep hal)) hR q1 ((S3.p3.keep hal).keepT (q2 _ Yd)) (Yb S0B.out q1.below) S3.p5;clear q1 q2 q3 hR hal S3 y0 y1 y2 y3 y4;obtain ⟨-,-,x2,x3,x4⟩:=HU.out _ S4.p4)))
     have hal:=Ya w8 (.cells #[.bool x.b,.slice x.A x.l x.k,.slice x.B x.m x.d] 37)
     have KK:Hid (Bl w9 26 w.heap.size [.int .i64 l.n,.slice aA an ac,.slice bA bn bc,.slice cA cn cc,.slice dA dn dc,.slice eA en ec,.slice fA fn fc]/\Bl w9 39 gR [.int .i64 0,.slice none 0 0,.bool false,.slice none 0 0,.slice none 0 0]/\Kw W0 w9 v8 (cs++[c])/\Rq w W0 w9 v9 ((us.map Ux.f).take (k+1))/\Zip2 (fun (u:Ux) c=>boundX l u.c u.u=some c) (us.take (k+1)) (cs++[c])):=⟨(q2 _ Yd).bl (S4.p0.keep hal),(q2 _ Yd).bl (S4.p1.keep hal),(S4.p2.keep hal).keepT (q2 _ Yd) (q2 _ Yd) (q2 _ Yd) qb,by rw [HT.p2];exact q1,zip_take S4.q5 HT.p0 HB.out⟩
     clear q1 qb q2 hal S4 x2 x3 x4
     go_wp2_with fail
     case roundEnd=>exact ⟨⟨k+1,v8,v9,cs++[c],by go_num,rfl,rfl,Yo,KK.out⟩,by simp [intOf];omega⟩
  obtain rfl:k=m:=by omega
  have dk:¬ (k:Int)<(k:Int):=Yo
  have hz:Zip2 (fun (u:Ux) c=>boundX l u.c u.u=some c) us cs:=by have h:=H.q4;rw [List.take_of_length_le (by rw [HS.q5];exact Nat.le_refl _)] at h;exact h
  have hr:Rq w W0 wr u9 (us.map Ux.f):=by have h:=H.p3;rw [List.take_of_length_le (by rw [List.length_map,HS.q5];exact Nat.le_refl _)] at h;exact h
  have hbw:Yg w wr:=Yb S0B.out H.p2.below
  have HZ:=Yh3 hz hr hbw
  clear hz hr hbw
  go_wp2_with fail
  refine (combine_d (cs:=cs) (fs:=us.map Ux.f) H.p2.kv (HZ.p1.rx HZ.q2) (by rw [List.length_map];exact HZ.p0.1.symm) (by rw [<- HZ.p0.1,HS.q5];exact hl) (zip_sz HS.p1 HS.p2 HZ.p0) (fun f hf=>by obtain ⟨x,hx,rfl⟩:=List.mem_map.1 hf;exact HS.p4 x hx)).mono ?_;rintro e wz ⟨uz,rfl,hz⟩
  obtain ⟨p,hp⟩:∃ p,p=combX cs (us.map Ux.f) sense:=⟨_,rfl⟩
  rw [<- hp] at hz ⊢
  have HP:Hid (SumIs l us sense p):=.inr ⟨cs,HZ.p0,hp⟩
  clear hp
  have hcb:=hz.below
  obtain ⟨⟨sz,Ez,nz,cz,bz,Az,lz,kz,Bz,mz,dz⟩,rfl,hsz,htz,hrz⟩:=hz
  have Z:Hid (Bl wz 39 gR [.int .i64 0,.slice none 0 0,.bool false,.slice none 0 0,.slice none 0 0]/\Cw w wz (.agg #[.int .i64 sz,.slice Ez nz cz,.bool bz,.slice Az lz kz,.slice Bz mz dz]) p.1):=⟨H.p1.keep hcb,⟨sz,Ez,nz,cz,bz,Az,lz,kz,Bz,mz,dz⟩,rfl,hsz,htz.from HZ.q2,hrz.from HZ.q2⟩
  clear htz hrz hcb hsz H
  have f0:=Bl.fr Z.p0 0
  have f1:=Bl.fr Z.p0 1
  have f2:=Bl.fr Z.p0 2
  have f3:=Bl.fr Z.p0 3
  have f4:=Bl.fr Z.p0 4
  have r0:=Bl.ld Z.p0 0 rfl
  have r1:=Bl.ld Z.p0 1 rfl
  have r2:=Bl.ld Z.p0 2 rfl
  have r3:=Bl.ld Z.p0 3 rfl
  have r4:=Bl.ld Z.p0 4 rfl
  simp only [Cm.agg]
  go_wp2_with fail
  clear f0 r0 f1 r1 f2 r2 f3 r3 f4 r4
  try simp only [Exit.inBlock,Exit.then]
  refine ret_bl (Z.p0.set5 rfl _ _ _ _ _) (fun W hW=>by have d0:=hW 0 _ rfl;have d1:=hW 1 _ rfl;have d2:=hW 2 _ rfl;have d3:=hW 3 _ rfl;have d4:=hW 4 _ rfl;simp [results,Tryz.results15,go_sem,d0,d1,d2,d3,d4];try rfl) rfl ?_
  exact ⟨_,p,rfl,Z.q1.keepT (Z.p0.keep5 Yd _ _ _ _ _) (Z.p0.keep5 Yd _ _ _ _ _) (below5 Z.q1.below (Nat.le_of_lt hgl) _ _ _ _ _),HP.out⟩
end
end I
end
section
section
open Go Go.RowKit Go.Proofs Pl
theorem same_l {w:World} {a b:Value} {l:LPx} (h:LPv w a l) (h':LPv w b l):
 Calls Tryz.prog 21 #[a,b] w fun e w'=>e=.returned (.bool true)/\Yg w w':=by
 obtain ⟨aA,an,ac,bA,bn,bc,cA,cn,cc,dA,dn,dc,eA,en,ec,fA,fn,fc,rfl,hP,hla,hlb,hlc,hld,hle,hlf,hma,hmb,hmc,hmd,hme,hmf⟩:=h.open
 obtain ⟨aA2,an2,ac2,bA2,bn2,bc2,cA2,cn2,cc2,dA2,dn2,dc2,eA2,en2,ec2,fA2,fn2,fc2,rfl,hP2,hla2,hlb2,hlc2,hld2,hle2,hlf2,-⟩:=h'.open
 obtain rfl:an=an2:=hla.symm.trans hla2
 obtain rfl:bn=bn2:=hlb.symm.trans hlb2
 obtain rfl:cn=cn2:=hlc.symm.trans hlc2
 obtain rfl:dn=dn2:=hld.symm.trans hld2
 obtain rfl:en=en2:=hle.symm.trans hle2
 obtain rfl:fn=fn2:=hlf.symm.trans hlf2
 have HS:=Yh2 hP hP2
 have HL:=Yh6 hla hlb hlc hld hle hlf
 have hma2:an<=9223372036854775807:=by unfold maxLen at hma;omega
 have hmb2:bn<=9223372036854775807:=by unfold maxLen at hmb;omega
 have hmc2:cn<=9223372036854775807:=by unfold maxLen at hmc;omega
 clear hP hP2 hla hlb hlc hld hle hlf hla2 hlb2 hlc2 hld2 hle2 hlf2 hma hmb hmc hmd hme hmf h h'
 change Calls Tryz.prog 21 #[.agg #[.int .i64 l.n,.slice aA an ac,.slice bA bn bc,.slice cA cn cc,.slice dA dn dc,.slice eA en ec,.slice fA fn fc],.agg #[.int .i64 l.n,.slice aA2 an ac2,.slice bA2 bn bc2,.slice cA2 cn cc2,.slice dA2 dn dc2,.slice eA2 en ec2,.slice fA2 fn fc2]] w _
 go_enter Tryz.func21,Tryz.ntmps21
 go_upto_region 1 with (fail)
 have hb0:Yg w ((w.alloc (.cells #[.int .i64 l.n,.slice aA an ac,.slice bA bn bc,.slice cA cn cc,.slice dA dn dc,.slice eA en ec,.slice fA fn fc] 26)).alloc (.cells #[.int .i64 l.n,.slice aA2 an ac2,.slice bA2 bn bc2,.slice cA2 cn cc2,.slice dA2 dn dc2,.slice eA2 en ec2,.slice fA2 fn fc2] 26)):=Yb (Ya _ _) (Ya _ _)
 have HBL:=Lib.hid ((Bl.new w 26 [.int .i64 l.n,.slice aA an ac,.slice bA bn bc,.slice cA cn cc,.slice dA dn dc,.slice eA en ec,.slice fA fn fc]).alloc (.cells #[.int .i64 l.n,.slice aA2 an ac2,.slice bA2 bn bc2,.slice cA2 cn cc2,.slice dA2 dn dc2,.slice eA2 en ec2,.slice fA2 fn fc2] 26))
 have R0:=Bl.new1 w (.cells #[.int .i64 l.n,.slice aA an ac,.slice bA bn bc,.slice cA cn cc,.slice dA dn dc,.slice eA en ec,.slice fA fn fc] 26) 26 [.int .i64 l.n,.slice aA2 an ac2,.slice bA2 bn bc2,.slice cA2 cn cc2,.slice dA2 dn dc2,.slice eA2 en ec2,.slice fA2 fn fc2]
 have HA:=Yh6 (HS.p0.1.keep hb0) (HS.p0.2.1.keep hb0) (HS.p0.2.2.1.keep hb0) (HS.p0.2.2.2.1.keep hb0) (HS.p0.2.2.2.2.1.keep hb0) (HS.p0.2.2.2.2.2.keep hb0)
 have HA2:=Yh6 (HS.p1.keep hb0) (HS.p2.keep hb0) (HS.p3.keep hb0) (HS.p4.keep hb0) (HS.p5.keep hb0) (HS.q6.keep hb0)
 obtain ⟨gR,hgR⟩:∃ g,g=w.heap.size+1:=⟨_,rfl⟩
 rw [<- hgR] at R0 ⊢
 have HR0:=Lib.hid R0
 have HBW:=Lib.hid hb0
 clear HS R0 hb0 hgR
 generalize (w.alloc _).alloc _=W0 at HA HA2 HBL HR0 HBW ⊢
 have HC:Hid (∀ W,Yg W0 W->(Ye7 W w.heap.size (.int .i64 l.n) (.slice aA an ac) (.slice bA bn bc) (.slice cA cn cc) (.slice dA dn dc) (.slice eA en ec) (.slice fA fn fc))/\(Ye7 W gR (.int .i64 l.n) (.slice aA2 an ac2) (.slice bA2 bn bc2) (.slice cA2 cn cc2) (.slice dA2 dn dc2) (.slice eA2 en ec2) (.slice fA2 fn fc2))):=fun W hb=>⟨⟨Bl.ld (HBL.out.keep hb) 0 rfl,Bl.ld (HBL.out.keep hb) 1 rfl,Bl.ld (HBL.out.keep hb) 2 rfl,Bl.ld (HBL.out.keep hb) 3 rfl,Bl.ld (HBL.out.keep hb) 4 rfl,Bl.ld (HBL.out.keep hb) 5 rfl,Bl.ld (HBL.out.keep hb) 6 rfl⟩,Bl.ld (HR0.out.keep hb) 0 rfl,Bl.ld (HR0.out.keep hb) 1 rfl,Bl.ld (HR0.out.keep hb) 2 rfl,Bl.ld (HR0.out.keep hb) 3 rfl,Bl.ld (HR0.out.keep hb) 4 rfl,Bl.ld (HR0.out.keep hb) 5 rfl,Bl.ld (HR0.out.keep hb) 6 rfl⟩
 obtain ⟨⟨l0,l1,l2,l3,l4,l5,l6⟩,k0,k1,k2,k3,k4,k5,k6⟩:=HC.out _ (Below.refl _ _)
 have e0:(l.n !=l.n)=false:=bne_self_eq_false _
 have e1:((an:Int) !=(an:Int))=false:=bne_self_eq_false _
 have e2:((bn:Int) !=(bn:Int))=false:=bne_self_eq_false _
 have e3:((cn:Int) !=(cn:Int))=false:=bne_self_eq_false _
 go_wp2_with fail
 clear e0 e1 e2 e3 l0 k0 l1 k1 l2 k2 l3 k3 l4 k4 l5 k5 l6 k6
 go_loopw [5] (fun z4 wr=>∃ (k:Nat),z4=.int .i64 (k:Int)/\k<=an/\Hid (Yg W0 wr)) (fun z _=>an - (intOf z).toNat)
 case atStart=>exact ⟨0,rfl,Nat.zero_le _,Below.refl _ _⟩
 case round=>
  obtain ⟨k,rfl,hk,H⟩:=hrel
  by_cases hlt:k<an
  · skip
    obtain ⟨ta,hta⟩:∃ t,l.cols[k]?=some t:=⟨_,List.getElem?_eq_getElem (by rw [HL.p0];exact hlt)⟩
    obtain ⟨ga,oa,qa,xa,e,hga,hva,za0⟩:=HA.p0.at_ hta
    rw [HL.p0] at e
    injection e with e1 e2 e3
    subst e1
    clear e2 e3 qa
    obtain ⟨ga2,oa2,qa2,xa2,e,hga2,hva2,za20⟩:=HA2.p0.at_ hta
    rw [HL.p0] at e
    injection e with e1 e2 e3
    subst e1
    clear e2 e3 qa2
    have HCx:Hid (∀ W,Yg W0 W->((Ye7 W w.heap.size (.int .i64 l.n) (.slice (some ⟨ga,oa,none⟩) an ac) (.slice bA bn bc) (.slice cA cn cc) (.slice dA dn dc) (.slice eA en ec) (.slice fA fn fc))/\(Ye7 W gR (.int .i64 l.n) (.slice (some ⟨ga2,oa2,none⟩) an ac2) (.slice bA2 bn bc2) (.slice cA2 cn cc2) (.slice dA2 dn dc2) (.slice eA2 en ec2) (.slice fA2 fn fc2)))/\W.cell? ⟨ga,oa+k,none⟩=some (.slice xa.A xa.l xa.k)/\W.cell? ⟨ga2,oa2+k,none⟩=some (.slice xa2.A xa2.l xa2.k)):=fun W hb=>⟨HC.out W hb,(hb.cell (p:=⟨ga,_,none⟩) hga).trans za0,(hb.cell (p:=⟨ga2,_,none⟩) hga2).trans za20⟩
    have HV:=Yh2 hva hva2
    clear hva2
    clear hga hta za0 hva
    clear hga2 za20
    have dk:(k:Int)<(an:Int):=Yo
    obtain ⟨⟨⟨l0,l1,l2,l3,l4,l5,l6⟩,k0,k1,k2,k3,k4,k5,k6⟩,za,zb⟩:=HCx.out _ H.out
    go_upto_region 6 with (fail)
    clear za zb l0 k0 l1 k1 l2 k2 l3 k3 l4 k4 l5 k5 l6 k6
    have B1:=Lib.hid (Yb H.out (below_d _))
    clear H
    refine wp_region_held_drew (S:=fun W=>((Ye7 W w.heap.size (.int .i64 l.n) (.slice (some ⟨ga,oa,none⟩) an ac) (.slice bA bn bc) (.slice cA cn cc) (.slice dA dn dc) (.slice eA en ec) (.slice fA fn fc))/\(Ye7 W gR (.int .i64 l.n) (.slice (some ⟨ga2,oa2,none⟩) an ac2) (.slice bA2 bn bc2) (.slice cA2 cn cc2) (.slice dA2 dn dc2) (.slice eA2 en ec2) (.slice fA2 fn fc2)))/\W.cell? ⟨ga,oa+k,none⟩=some (.slice xa.A xa.l xa.k)/\W.cell? ⟨ga2,oa2+k,none⟩=some (.slice xa2.A xa2.l xa2.k)) (by kernel_rfl) (HCx.out _ B1.out) (fun Hh=>?_)
    generalize wr.drew=Wd at B1 Hh ⊢
    refine rgFree [0,1,2,3,4,5,6,7,8,9,11] (Yl 12 0) (fun HFR=>?_)
    refine rgRun 10 [0,1,2,3,4,5,6,7,8,9] Hh fun K hK=>?_
    repeat refine rgA ?_
    refine hK _ _ ?_;clear hK K
    refine rgO 10 fun K hK=>?_
    go_simp
    go_at_call 65;refine (same_t (HV.p0.keep B1.out) (HV.q1.keep B1.out)).mono ?_;rintro e w2 ⟨rfl,hb⟩
    rw [decide_eq_true rfl]
    have B2:=Lib.hid (Yb B1.out hb)
    clear hb B1 Hh
    go_wp2_with fail
    refine rgK hK (HCx.out _ B2.out) fun Hh=>?_;clear hK K
    refine rgU 11 58 HFR Hh ?_
    refine Yw ?_
    clear Hh
    go_wp2_with fail
    case roundEnd=>exact ⟨⟨k+1,by go_num,Yo,B2.out⟩,by simp [intOf];omega⟩
  obtain rfl:an=k:=by omega
  have dk:¬ (an:Int)<(an:Int):=Yo
  obtain ⟨⟨l0,l1,l2,l3,l4,l5,l6⟩,k0,k1,k2,k3,k4,k5,k6⟩:=HC.out _ H.out
  go_wp2_with fail
  go_loopw [6] (fun z4 wr=>∃ (k:Nat),z4=.int .i64 (k:Int)/\k<=bn/\Hid (Yg W0 wr)) (fun z _=>bn - (intOf z).toNat)
  case atStart=>exact ⟨0,rfl,Nat.zero_le _,H.out⟩
  case round=>
   obtain ⟨k,rfl,hk,H⟩:=hrel
   by_cases hlt:k<bn
   · skip
     obtain ⟨tb,htb⟩:∃ t,l.hasLo[k]?=some t:=⟨_,List.getElem?_eq_getElem (by rw [HL.p1];exact hlt)⟩
     obtain ⟨gb,ob,qb,e,hgb,zb0⟩:=HA.p1.at_ htb
     rw [HL.p1] at e
     injection e with e1 e2 e3
     subst e1
     clear e2 e3 qb
     obtain ⟨gb2,ob2,qb2,e,hgb2,zb20⟩:=HA2.p1.at_ htb
     rw [HL.p1] at e
     injection e with e1 e2 e3
     subst e1
     clear e2 e3 qb2
     have HCx:Hid (∀ W,Yg W0 W->((Ye7 W w.heap.size (.int .i64 l.n) (.slice aA an ac) (.slice (some ⟨gb,ob,none⟩) bn bc) (.slice cA cn cc) (.slice dA dn dc) (.slice eA en ec) (.slice fA fn fc))/\(Ye7 W gR (.int .i64 l.n) (.slice aA2 an ac2) (.slice (some ⟨gb2,ob2,none⟩) bn bc2) (.slice cA2 cn cc2) (.slice dA2 dn dc2) (.slice eA2 en ec2) (.slice fA2 fn fc2)))/\W.cell? ⟨gb,ob+k,none⟩=some (.bool tb)/\W.cell? ⟨gb2,ob2+k,none⟩=some (.bool tb)):=fun W hb=>⟨HC.out W hb,(hb.cell (p:=⟨gb,_,none⟩) hgb).trans zb0,(hb.cell (p:=⟨gb2,_,none⟩) hgb2).trans zb20⟩
     clear hgb htb zb0
     clear hgb2 zb20
     have dk:(k:Int)<(bn:Int):=Yo
     obtain ⟨⟨⟨l0,l1,l2,l3,l4,l5,l6⟩,k0,k1,k2,k3,k4,k5,k6⟩,za,zb⟩:=HCx.out _ H.out
     go_upto_region 11 with (fail)
     clear za zb l0 k0 l1 k1 l2 k2 l3 k3 l4 k4 l5 k5 l6 k6
     cases tb
     · skip
       have B1:=Lib.hid (Yb H.out (below_d _))
       clear H
       refine wp_region_held_drew (S:=fun W=>((Ye7 W w.heap.size (.int .i64 l.n) (.slice aA an ac) (.slice (some ⟨gb,ob,none⟩) bn bc) (.slice cA cn cc) (.slice dA dn dc) (.slice eA en ec) (.slice fA fn fc))/\(Ye7 W gR (.int .i64 l.n) (.slice aA2 an ac2) (.slice (some ⟨gb2,ob2,none⟩) bn bc2) (.slice cA2 cn cc2) (.slice dA2 dn dc2) (.slice eA2 en ec2) (.slice fA2 fn fc2)))/\W.cell? ⟨gb,ob+k,none⟩=some (.bool false)/\W.cell? ⟨gb2,ob2+k,none⟩=some (.bool false)) (by kernel_rfl) (HCx.out _ B1.out) (fun Hh=>?_)
       generalize wr.drew=Wd at B1 Hh ⊢
       refine rgFree [0,1,2,3,4,5,6,7,8,9,10] (Yl 11 0) (fun HFR=>?_)
       refine rgRun 11 [0,1,2,3,4,5,6,7,8,9,10] Hh fun K hK=>?_
       repeat refine rgA ?_
       refine hK _ _ ?_;clear hK K
       refine Yw ?_
       clear Hh
       go_wp2_with fail
       case roundEnd=>exact ⟨⟨k+1,by go_num,Yo,B1.out⟩,by simp [intOf];omega⟩
     have B1:=Lib.hid (Yb H.out (below_d _))
     clear H
     refine wp_region_held_drew (S:=fun W=>((Ye7 W w.heap.size (.int .i64 l.n) (.slice aA an ac) (.slice (some ⟨gb,ob,none⟩) bn bc) (.slice cA cn cc) (.slice dA dn dc) (.slice eA en ec) (.slice fA fn fc))/\(Ye7 W gR (.int .i64 l.n) (.slice aA2 an ac2) (.slice (some ⟨gb2,ob2,none⟩) bn bc2) (.slice cA2 cn cc2) (.slice dA2 dn dc2) (.slice eA2 en ec2) (.slice fA2 fn fc2)))/\W.cell? ⟨gb,ob+k,none⟩=some (.bool true)/\W.cell? ⟨gb2,ob2+k,none⟩=some (.bool true)) (by kernel_rfl) (HCx.out _ B1.out) (fun Hh=>?_)
     generalize wr.drew=Wd at B1 Hh ⊢
     refine rgFree [0,1,2,3,4,5,6,7,8,9,10] (Yl 11 0) (fun HFR=>?_)
     refine rgRun 11 [0,1,2,3,4,5,6,7,8,9,10] Hh fun K hK=>?_
     repeat refine rgA ?_
     refine hK _ _ ?_;clear hK K
     refine Yw ?_
     clear Hh
     go_wp2_with fail
     case roundEnd=>exact ⟨⟨k+1,by go_num,Yo,B1.out⟩,by simp [intOf];omega⟩
   obtain rfl:bn=k:=by omega
   have dk:¬ (bn:Int)<(bn:Int):=Yo
   obtain ⟨⟨l0,l1,l2,l3,l4,l5,l6⟩,k0,k1,k2,k3,k4,k5,k6⟩:=HC.out _ H.out
   go_wp2_with fail
   go_loopw [7] (fun z4 wr=>∃ (k:Nat),z4=.int .i64 (k:Int)/\k<=cn/\Hid (Yg W0 wr)) (fun z _=>cn - (intOf z).toNat)
   case atStart=>exact ⟨0,rfl,Nat.zero_le _,H.out⟩
   case round=>
    obtain ⟨k,rfl,hk,H⟩:=hrel
    by_cases hlt:k<cn
    · skip
      obtain ⟨tc,htc⟩:∃ t,l.hasHi[k]?=some t:=⟨_,List.getElem?_eq_getElem (by rw [HL.p2];exact hlt)⟩
      obtain ⟨gc,oc,qc,e,hgc,zc0⟩:=HA.p2.at_ htc
      rw [HL.p2] at e
      injection e with e1 e2 e3
      subst e1
      clear e2 e3 qc
      obtain ⟨gc2,oc2,qc2,e,hgc2,zc20⟩:=HA2.p2.at_ htc
      rw [HL.p2] at e
      injection e with e1 e2 e3
      subst e1
      clear e2 e3 qc2
      have HCx:Hid (∀ W,Yg W0 W->((Ye7 W w.heap.size (.int .i64 l.n) (.slice aA an ac) (.slice bA bn bc) (.slice (some ⟨gc,oc,none⟩) cn cc) (.slice dA dn dc) (.slice eA en ec) (.slice fA fn fc))/\(Ye7 W gR (.int .i64 l.n) (.slice aA2 an ac2) (.slice bA2 bn bc2) (.slice (some ⟨gc2,oc2,none⟩) cn cc2) (.slice dA2 dn dc2) (.slice eA2 en ec2) (.slice fA2 fn fc2)))/\W.cell? ⟨gc,oc+k,none⟩=some (.bool tc)/\W.cell? ⟨gc2,oc2+k,none⟩=some (.bool tc)):=fun W hb=>⟨HC.out W hb,(hb.cell (p:=⟨gc,_,none⟩) hgc).trans zc0,(hb.cell (p:=⟨gc2,_,none⟩) hgc2).trans zc20⟩
      clear hgc htc zc0
      clear hgc2 zc20
      have dk:(k:Int)<(cn:Int):=Yo
      obtain ⟨⟨⟨l0,l1,l2,l3,l4,l5,l6⟩,k0,k1,k2,k3,k4,k5,k6⟩,za,zb⟩:=HCx.out _ H.out
      go_upto_region 16 with (fail)
      clear za zb l0 k0 l1 k1 l2 k2 l3 k3 l4 k4 l5 k5 l6 k6
      cases tc
      · skip
        have B1:=Lib.hid (Yb H.out (below_d _))
        clear H
        refine wp_region_held_drew (S:=fun W=>((Ye7 W w.heap.size (.int .i64 l.n) (.slice aA an ac) (.slice bA bn bc) (.slice (some ⟨gc,oc,none⟩) cn cc) (.slice dA dn dc) (.slice eA en ec) (.slice fA fn fc))/\(Ye7 W gR (.int .i64 l.n) (.slice aA2 an ac2) (.slice bA2 bn bc2) (.slice (some ⟨gc2,oc2,none⟩) cn cc2) (.slice dA2 dn dc2) (.slice eA2 en ec2) (.slice fA2 fn fc2)))/\W.cell? ⟨gc,oc+k,none⟩=some (.bool false)/\W.cell? ⟨gc2,oc2+k,none⟩=some (.bool false)) (by kernel_rfl) (HCx.out _ B1.out) (fun Hh=>?_)
        generalize wr.drew=Wd at B1 Hh ⊢
        refine rgFree [0,1,2,3,4,5,6,7,8,9,10] (Yl 11 0) (fun HFR=>?_)
        refine rgRun 11 [0,1,2,3,4,5,6,7,8,9,10] Hh fun K hK=>?_
        repeat refine rgA ?_
        refine hK _ _ ?_;clear hK K
        refine Yw ?_
        clear Hh
        go_wp2_with fail
        case roundEnd=>exact ⟨⟨k+1,by go_num,Yo,B1.out⟩,by simp [intOf];omega⟩
      have B1:=Lib.hid (Yb H.out (below_d _))
      clear H
      refine wp_region_held_drew (S:=fun W=>((Ye7 W w.heap.size (.int .i64 l.n) (.slice aA an ac) (.slice bA bn bc) (.slice (some ⟨gc,oc,none⟩) cn cc) (.slice dA dn dc) (.slice eA en ec) (.slice fA fn fc))/\(Ye7 W gR (.int .i64 l.n) (.slice aA2 an ac2) (.slice bA2 bn bc2) (.slice (some ⟨gc2,oc2,none⟩) cn cc2) (.slice dA2 dn dc2) (.slice eA2 en ec2) (.slice fA2 fn fc2)))/\W.cell? ⟨gc,oc+k,none⟩=some (.bool true)/\W.cell? ⟨gc2,oc2+k,none⟩=some (.bool true)) (by kernel_rfl) (HCx.out _ B1.out) (fun Hh=>?_)
      generalize wr.drew=Wd at B1 Hh ⊢
      refine rgFree [0,1,2,3,4,5,6,7,8,9,10] (Yl 11 0) (fun HFR=>?_)
      refine rgRun 11 [0,1,2,3,4,5,6,7,8,9,10] Hh fun K hK=>?_
      repeat refine rgA ?_
      refine hK _ _ ?_;clear hK K
      refine Yw ?_
      clear Hh
      go_wp2_with fail
      case roundEnd=>exact ⟨⟨k+1,by go_num,Yo,B1.out⟩,by simp [intOf];omega⟩
    obtain rfl:cn=k:=by omega
    have dk:¬ (cn:Int)<(cn:Int):=Yo
    obtain ⟨⟨l0,l1,l2,l3,l4,l5,l6⟩,k0,k1,k2,k3,k4,k5,k6⟩:=HC.out _ H.out
    go_wp2_with fail
    refine (sameAll_r (HA.p3.keep H.out) (HA2.p3.keep H.out)).mono ?_;rintro e v1 ⟨rfl,hb⟩
    rw [decide_eq_true rfl]
    have B1:=Lib.hid (Yb H.out hb)
    clear hb l0 k0 l1 k1 l2 k2 l3 k3 l4 k4 l5 k5 l6 k6
    obtain ⟨⟨l0,l1,l2,l3,l4,l5,l6⟩,k0,k1,k2,k3,k4,k5,k6⟩:=HC.out _ B1.out
    go_wp2_with fail
    refine (sameAll_r (HA.p4.keep B1.out) (HA2.p4.keep B1.out)).mono ?_;rintro e v2 ⟨rfl,hb⟩
    rw [decide_eq_true rfl]
    have B2:=Lib.hid (Yb B1.out hb)
    clear hb l0 k0 l1 k1 l2 k2 l3 k3 l4 k4 l5 k5 l6 k6
    obtain ⟨⟨l0,l1,l2,l3,l4,l5,l6⟩,k0,k1,k2,k3,k4,k5,k6⟩:=HC.out _ B2.out
    go_wp2_with fail
    refine (sameAll_r (HA.q5.keep B2.out) (HA2.q5.keep B2.out)).mono ?_;rintro e v3 ⟨rfl,hb⟩
    rw [decide_eq_true rfl]
    have B3:=Lib.hid (Yb B2.out hb)
    clear hb l0 k0 l1 k1 l2 k2 l3 k3 l4 k4 l5 k5 l6 k6
    obtain ⟨⟨l0,l1,l2,l3,l4,l5,l6⟩,k0,k1,k2,k3,k4,k5,k6⟩:=HC.out _ B3.out
    go_wp2_with fail
    go_ret
    exact ⟨rfl,Yb HBW.out B3.out⟩
end
end
end Go.Proofs.YtclaiidoomdklaaGreat
