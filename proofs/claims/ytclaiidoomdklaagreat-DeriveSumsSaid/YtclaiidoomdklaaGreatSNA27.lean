import Derived.Test.YtclaiidoomdklaaGreatSNA22
set_option maxRecDepth 100000
set_option maxHeartbeats 8000000
set_option linter.unusedVariables false
set_option linter.unusedSimpArgs false
namespace Go.Proofs.YtclaiidoomdklaaGreat
section
namespace I
section
open Go Go.RowKit Go.Proofs Pl
def ownT (j k:Nat):Tms:=if j<k then [((j:Int),(1:Rat))] else []
theorem own_at (k:Nat):fqT (ownT k (k+1))=fqT (ownT k k)++[((k:Int),fq 1)]:=by
 unfold ownT;rw [if_pos (Nat.lt_succ_self k),if_neg (Nat.lt_irrefl k)];rfl
theorem own_off {j k:Nat} (h:¬ k=j):ownT j (k+1)=ownT j (k):=by
 unfold ownT
 by_cases hj:j<k
 · rw [if_pos hj,if_pos (by omega)]
 · rw [if_neg hj,if_neg (by omega)]
theorem own_len (j k:Nat):(ownT j k).length<=1:=by
 unfold ownT;split<;>simp
theorem own_all {j k:Nat} (h:j<k):ownT j (k)=[((j:Int),(1:Rat))]:=if_pos h
theorem getV_sz {w:World} {v:Value} {c:List (Int × Fx)} (h:Tx w v c) (hc:c.length<=30/\∀ t∈c,t.2.xs.length<=6/\t.2.ds.length<=6) (i:Int):Sz 211 (getV (qT c) i):=by
 refine (sz_get (L:=6) (l:=qT c) (fun t ht=>?_) i).mono ?_
 · obtain ⟨u,hu,rfl⟩:=List.mem_map.1 ht
   obtain ⟨k,hk⟩:=List.getElem?_of_mem hu
   obtain ⟨g,o,cap,y,-,-,-,-,hq,-⟩:=h.at_ hk
   exact (hq.qv (hc.2 u hu).1 (hc.2 u hu).2).sz Yd
 · have:(qT c).length<=30:=by unfold qT;rw [List.length_map];exact hc.1
   have:=Nat.mul_le_mul_right 7 this
   omega
theorem boundd_bad {w:World} {v:Value} {l:LPx} {col:Int} {up:Bool} (h:LPv w v l) (hf:Fit l) (hlo:l.lo.length=l.cols.length) (hhi:l.hi.length=l.cols.length) (hbl:l.hasLo.length=l.cols.length) (hbh:l.hasHi.length=l.cols.length) (hn0:0<=l.n) (hn1:l.n<=l.cols.length) (hbad:Hid (¬ okB l col)):
 Calls Tryz.prog 19 #[v,.int .i64 col,.bool up] w fun e w'=>∃ r,e=.returned (.tuple #[r,.int .i64 (tellX (boundX l col up)).2])/\Cw w w' r (tellX (boundX l col up)).1:=by
 have hsz:=fit_sz h hf
 obtain ⟨⟨n,⟨aA,an,ac⟩,⟨bA,bn,bc⟩,⟨cA,cn,cc⟩,⟨dA,dn,dc⟩,⟨eA,en,ec⟩,⟨fA,fn,fc⟩⟩,rfl,h1,h2,h3,h4,h5,h6,h7⟩:=h
 have h1:n=l.n:=h1
 subst h1
 have h2:Gx w (.slice aA an ac) l.cols:=h2
 have h3:Ex w (.slice bA bn bc) l.hasLo:=h3
 have h4:Ex w (.slice cA cn cc) l.hasHi:=h4
 have h5:Rx w (.slice dA dn dc) l.lo:=h5
 have h6:Rx w (.slice eA en ec) l.hi:=h6
 obtain ⟨A,c,e,hac,hac2⟩:=h2.shape
 injection e with e1 e2 e3
 subst e3
 have hlen:l.cols.length=an:=e2.symm
 clear e1 e2 A
 obtain ⟨A,c,e,-,-⟩:=h3.shape
 injection e with e1 e2 e3
 have hlb:l.hasLo.length=bn:=e2.symm
 clear e1 e2 e3 A c
 obtain ⟨A,c,e,-,-⟩:=h4.shape
 injection e with e1 e2 e3
 have hlc:l.hasHi.length=cn:=e2.symm
 clear e1 e2 e3 A c
 obtain ⟨A,c,e,-,-⟩:=h5.shape
 injection e with e1 e2 e3
 have hld:l.lo.length=dn:=e2.symm
 clear e1 e2 e3 A c
 obtain ⟨A,c,e,-,-⟩:=h6.shape
 injection e with e1 e2 e3
 have hle:l.hi.length=en:=e2.symm
 clear e1 e2 e3 A c
 have han:an<=14:=by rw [<- hlen];exact hf.1
 have HS:=Yh8 h2 h3 h4 h5 h6 hf hsz hac
 have HL:=Yh5 hlen hlb hlc hld hle
 clear h2 h3 h4 h5 h6 h7 hf hsz hlen hlb hlc hld hle hac hac2
 change Calls Tryz.prog 19 #[.agg #[.int .i64 l.n,.slice aA an ac,.slice bA bn bc,.slice cA cn cc,.slice dA dn dc,.slice eA en ec,.slice fA fn fc],_,_] w _
 go_enter Tryz.func19,Tryz.ntmps19
 go_upto_region 1 with (fail)
 have X0:=(Bl.new w 26 [.int .i64 l.n,.slice aA an ac,.slice bA bn bc,.slice cA cn cc,.slice dA dn dc,.slice eA en ec,.slice fA fn fc]).alloc (.cells #[.int .i64 0,.slice none 0 0,.bool false,.slice none 0 0,.slice none 0 0] 39)
 have R0:=Bl.new1 w (.cells #[.int .i64 l.n,.slice aA an ac,.slice bA bn bc,.slice cA cn cc,.slice dA dn dc,.slice eA en ec,.slice fA fn fc] 26) 39 [.int .i64 0,.slice none 0 0,.bool false,.slice none 0 0,.slice none 0 0]
 have hb0:Yg w ((w.alloc (.cells #[.int .i64 l.n,.slice aA an ac,.slice bA bn bc,.slice cA cn cc,.slice dA dn dc,.slice eA en ec,.slice fA fn fc] 26)).alloc (.cells #[.int .i64 0,.slice none 0 0,.bool false,.slice none 0 0,.slice none 0 0] 39)):=Yb (Ya _ _) (Ya _ _)
 obtain ⟨gR,hgR⟩:∃ g,g=w.heap.size+1:=⟨_,rfl⟩
 rw [<- hgR] at R0 ⊢
 have hgl:w.heap.size<gR:=Yo
 have S0:=Yh3 X0 R0 hb0
 generalize (w.alloc _).alloc _=W0 at S0 ⊢
 clear X0 R0 hb0 hgR
 have l0:=Bl.ld S0.p0 0 rfl
 have l1:=Bl.ld S0.p0 1 rfl
 have l2:=Bl.ld S0.p0 2 rfl
 have l3:=Bl.ld S0.p0 3 rfl
 have l4:=Bl.ld S0.p0 4 rfl
 have l5:=Bl.ld S0.p0 5 rfl
 have l6:=Bl.ld S0.p0 6 rfl
 have k:col<0∨¬ col<0/\(an:Int)<=col:=by
  by_cases h:col<0
  · exact .inl h
  · refine .inr ⟨h,?_⟩
    refine Int.not_lt.1 fun h2=>hbad.out ?_
    exact ⟨Yo,by have:=HL.out;omega,hlo,hhi,hbl,hbh,hn0,hn1⟩
 have hE:tellX (boundX l col up)=(Cx.no,2):=bound_none fun hh=>hbad.out hh.1
 clear hlo hhi hbl hbh hn0 hn1
 rcases k with k | ⟨k,k2⟩
 · skip
   have a1:decide (col<0)=true:=decide_eq_true k
   clear k
   have HE:=Lib.hid hE
   clear hE
   have f0:=Bl.fr S0.p1 0
   have f1:=Bl.fr S0.p1 1
   have f2:=Bl.fr S0.p1 2
   have f3:=Bl.fr S0.p1 3
   have f4:=Bl.fr S0.p1 4
   have r0:=Bl.ld S0.p1 0 rfl
   have r1:=Bl.ld S0.p1 1 rfl
   have r2:=Bl.ld S0.p1 2 rfl
   have r3:=Bl.ld S0.p1 3 rfl
   have r4:=Bl.ld S0.p1 4 rfl
   go_wp2_with fail
   clear f0 r0 f1 r1 f2 r2 f3 r3 f4 r4
   try simp only [Exit.inBlock,Exit.then]
   refine ret_bl (S0.p1.set5 rfl _ _ _ _ _) (fun W hW=>by have d0:=hW 0 _ rfl;have d1:=hW 1 _ rfl;have d2:=hW 2 _ rfl;have d3:=hW 3 _ rfl;have d4:=hW 4 _ rfl;simp [results,Tryz.results19,go_sem,d0,d1,d2,d3,d4];try rfl) rfl ?_
   rw [HE.out]
   exact ⟨_,rfl,Cw.no _ _ (below5 S0.q2 (Nat.le_of_lt hgl) _ _ _ _ _)⟩
 have a1:decide (col<0)=false:=decide_eq_false k
 have a2:decide ((an:Int)<=col)=true:=decide_eq_true k2
 clear k k2
 have HE:=Lib.hid hE
 clear hE
 have f0:=Bl.fr S0.p1 0
 have f1:=Bl.fr S0.p1 1
 have f2:=Bl.fr S0.p1 2
 have f3:=Bl.fr S0.p1 3
 have f4:=Bl.fr S0.p1 4
 have r0:=Bl.ld S0.p1 0 rfl
 have r1:=Bl.ld S0.p1 1 rfl
 have r2:=Bl.ld S0.p1 2 rfl
 have r3:=Bl.ld S0.p1 3 rfl
 have r4:=Bl.ld S0.p1 4 rfl
 go_wp2_with fail
 clear f0 r0 f1 r1 f2 r2 f3 r3 f4 r4
 try simp only [Exit.inBlock,Exit.then]
 refine ret_bl (S0.p1.set5 rfl _ _ _ _ _) (fun W hW=>by have d0:=hW 0 _ rfl;have d1:=hW 1 _ rfl;have d2:=hW 2 _ rfl;have d3:=hW 3 _ rfl;have d4:=hW 4 _ rfl;simp [results,Tryz.results19,go_sem,d0,d1,d2,d3,d4];try rfl) rfl ?_
 rw [HE.out]
 exact ⟨_,rfl,Cw.no _ _ (below5 S0.q2 (Nat.le_of_lt hgl) _ _ _ _ _)⟩
theorem boundd_lo {w:World} {v:Value} {l:LPx} {col:Int}  (h:LPv w v l) (hf:Fit l) (hlo:l.lo.length=l.cols.length) (hhi:l.hi.length=l.cols.length) (hbl:l.hasLo.length=l.cols.length) (hbh:l.hasHi.length=l.cols.length) (hn0:0<=l.n) (hn1:l.n<=l.cols.length) (hok:okB l col):
 Calls Tryz.prog 19 #[v,.int .i64 col,.bool false] w fun e w'=>∃ r,e=.returned (.tuple #[r,.int .i64 (tellX (boundX l col false)).2])/\Cw w w' r (tellX (boundX l col false)).1:=by
 have hsz:=fit_sz h hf
 obtain ⟨⟨n,⟨aA,an,ac⟩,⟨bA,bn,bc⟩,⟨cA,cn,cc⟩,⟨dA,dn,dc⟩,⟨eA,en,ec⟩,⟨fA,fn,fc⟩⟩,rfl,h1,h2,h3,h4,h5,h6,h7⟩:=h
 have h1:n=l.n:=h1
 subst h1
 have h2:Gx w (.slice aA an ac) l.cols:=h2
 have h3:Ex w (.slice bA bn bc) l.hasLo:=h3
 have h4:Ex w (.slice cA cn cc) l.hasHi:=h4
 have h5:Rx w (.slice dA dn dc) l.lo:=h5
 have h6:Rx w (.slice eA en ec) l.hi:=h6
 obtain ⟨A,c,e,hac,hac2⟩:=h2.shape
 injection e with e1 e2 e3
 subst e3
 have hlen:l.cols.length=an:=e2.symm
 clear e1 e2 A
 obtain ⟨A,c,e,-,-⟩:=h3.shape
 injection e with e1 e2 e3
 have hlb:l.hasLo.length=bn:=e2.symm
 clear e1 e2 e3 A c
 obtain ⟨A,c,e,-,-⟩:=h4.shape
 injection e with e1 e2 e3
 have hlc:l.hasHi.length=cn:=e2.symm
 clear e1 e2 e3 A c
 obtain ⟨A,c,e,-,-⟩:=h5.shape
 injection e with e1 e2 e3
 have hld:l.lo.length=dn:=e2.symm
 clear e1 e2 e3 A c
 obtain ⟨A,c,e,-,-⟩:=h6.shape
 injection e with e1 e2 e3
 have hle:l.hi.length=en:=e2.symm
 clear e1 e2 e3 A c
 have han:an<=14:=by rw [<- hlen];exact hf.1
 have HS:=Yh8 h2 h3 h4 h5 h6 hf hsz hac
 have HL:=Yh5 hlen hlb hlc hld hle
 clear h2 h3 h4 h5 h6 h7 hf hsz hlen hlb hlc hld hle hac hac2
 change Calls Tryz.prog 19 #[.agg #[.int .i64 l.n,.slice aA an ac,.slice bA bn bc,.slice cA cn cc,.slice dA dn dc,.slice eA en ec,.slice fA fn fc],_,_] w _
 go_enter Tryz.func19,Tryz.ntmps19
 go_upto_region 1 with (fail)
 have X0:=(Bl.new w 26 [.int .i64 l.n,.slice aA an ac,.slice bA bn bc,.slice cA cn cc,.slice dA dn dc,.slice eA en ec,.slice fA fn fc]).alloc (.cells #[.int .i64 0,.slice none 0 0,.bool false,.slice none 0 0,.slice none 0 0] 39)
 have R0:=Bl.new1 w (.cells #[.int .i64 l.n,.slice aA an ac,.slice bA bn bc,.slice cA cn cc,.slice dA dn dc,.slice eA en ec,.slice fA fn fc] 26) 39 [.int .i64 0,.slice none 0 0,.bool false,.slice none 0 0,.slice none 0 0]
 have hb0:Yg w ((w.alloc (.cells #[.int .i64 l.n,.slice aA an ac,.slice bA bn bc,.slice cA cn cc,.slice dA dn dc,.slice eA en ec,.slice fA fn fc] 26)).alloc (.cells #[.int .i64 0,.slice none 0 0,.bool false,.slice none 0 0,.slice none 0 0] 39)):=Yb (Ya _ _) (Ya _ _)
 obtain ⟨gR,hgR⟩:∃ g,g=w.heap.size+1:=⟨_,rfl⟩
 rw [<- hgR] at R0 ⊢
 have hgl:w.heap.size<gR:=Yo
 have S0:=Yh3 X0 R0 hb0
 generalize (w.alloc _).alloc _=W0 at S0 ⊢
 clear X0 R0 hb0 hgR
 have l0:=Bl.ld S0.p0 0 rfl
 have l1:=Bl.ld S0.p0 1 rfl
 have l2:=Bl.ld S0.p0 2 rfl
 have l3:=Bl.ld S0.p0 3 rfl
 have l4:=Bl.ld S0.p0 4 rfl
 have l5:=Bl.ld S0.p0 5 rfl
 have l6:=Bl.ld S0.p0 6 rfl
 have HOK:=Lib.hid hok
 have k1:¬ col<0:=by have:=hok.1;omega
 have k2:¬ (an:Int)<=col:=by have:=hok.2.1;have:=HL.out;omega
 have k3:dn=an:=by have:=HL.out;omega
 have k4:en=an:=by have:=HL.out;omega
 have k5:bn=an:=by have:=HL.out;omega
 have k6:cn=an:=by have:=HL.out;omega
 have k7:¬ l.n<0:=Yo
 have k8:¬ (an:Int)<l.n:=by have:=HL.out;omega
 have a1:decide (col<0)=false:=decide_eq_false k1
 have a2:decide ((an:Int)<=col)=false:=decide_eq_false k2
 clear hlo hhi hbl hbh hn0 hn1 hok
 obtain ⟨N,hN⟩:∃ N:Nat,l.n=(N:Int):=⟨l.n.toNat,Yo⟩
 obtain ⟨j,hj⟩:∃ j:Nat,col=(j:Int):=⟨col.toNat,Yo⟩
 have hNa:N<=an:=Yo
 have hja:j<an:=Yo
 have HN:=Yh2 hN hj
 have LEN:Hid (bn=an/\cn=an/\dn=an/\en=an):=⟨Yo,Yo,Yo,Yo⟩
 obtain ⟨bL,hbL⟩:∃ b,l.hasLo[j]?=some b:=⟨_,List.getElem?_eq_getElem (by rw [HL.p1];omega)⟩
 obtain ⟨gbL,obL,cbL,e,hgbL,cb0L⟩:=HS.p1.at_ hbL
 rw [HL.p1] at e
 injection e with e1 e2 e3
 subst e1
 clear e2 e3 cbL
 obtain ⟨fL,hfL⟩:∃ f,l.lo[j]?=some f:=⟨_,List.getElem?_eq_getElem (by rw [HL.p3];omega)⟩
 obtain ⟨gfL,ofL,cfL,yL,e,hgfL,hFL,y0L,y1L,y2L⟩:=HS.p3.at_ hfL
 rw [HL.p3] at e
 injection e with e1 e2 e3
 subst e1
 clear e2 e3 cfL
 have hhas:hasX l col false=bL:=by unfold hasX;rw [hj];simp [List.getD_eq_getElem?_getD,hbL]
 have hrhs:rhsX l col false=fL:=by unfold rhsX;rw [hj];simp [List.getD_eq_getElem?_getD,hfL]
 have HX:=Yh4 hFL hhas hrhs (HS.p5.2.2 fL (.inl (List.mem_of_getElem? hfL)))
 clear hhas hrhs hbL hfL hFL
 have HCL:Hid (∀ W,Yg w W->W.cell? ⟨gbL,obL+j,none⟩=some (.bool bL)/\W.cell? ⟨gfL,ofL+j*3,none⟩=some (.bool yL.b)/\W.cell? ⟨gfL,ofL+j*3+1,none⟩=some (.slice yL.A yL.l yL.k)/\W.cell? ⟨gfL,ofL+j*3+2,none⟩=some (.slice yL.B yL.m yL.d)):=fun W hb=>⟨(hb.cell (p:=⟨gbL,_,none⟩) hgbL).trans cb0L,(hb.cell (p:=⟨gfL,_,none⟩) hgfL).trans y0L,(hb.cell (p:=⟨gfL,_,none⟩) hgfL).trans y1L,(hb.cell (p:=⟨gfL,_,none⟩) hgfL).trans y2L⟩
 have B0L:=(S0.q2.cell (p:=⟨gbL,_,none⟩) hgbL).trans cb0L
 have Y0L:=(S0.q2.cell (p:=⟨gfL,_,none⟩) hgfL).trans y0L
 have Y1L:=(S0.q2.cell (p:=⟨gfL,_,none⟩) hgfL).trans y1L
 have Y2L:=(S0.q2.cell (p:=⟨gfL,_,none⟩) hgfL).trans y2L
 clear hgbL hgfL cb0L y0L y1L y2L
 have a9:(j:Int)<(an:Int):=Yo
 have HBND:=Yh2 hNa hja
 rw [hN] at S0 l0 k7 k8
 subst hj
 clear k1 k2 k3 k4 k5 k6 k7 k8
 have hdn:(j:Int)<(dn:Int):=by have:=LEN.out;omega
 have hen:(j:Int)<(en:Int):=by have:=LEN.out;omega
 have hbn:(j:Int)<(bn:Int):=by have:=LEN.out;omega
 have hcn:(j:Int)<(cn:Int):=by have:=LEN.out;omega
 cases bL with
 | false=>
  have hE:tellX (boundX l (j:Int) false)=(Cx.no,2):=bound_none fun hh=>by have h:=hh.2;rw [HX.p1] at h;cases h
  have HE:=Lib.hid hE
  clear hE
  have f0:=Bl.fr S0.p1 0
  have f1:=Bl.fr S0.p1 1
  have f2:=Bl.fr S0.p1 2
  have f3:=Bl.fr S0.p1 3
  have f4:=Bl.fr S0.p1 4
  have r0:=Bl.ld S0.p1 0 rfl
  have r1:=Bl.ld S0.p1 1 rfl
  have r2:=Bl.ld S0.p1 2 rfl
  have r3:=Bl.ld S0.p1 3 rfl
  have r4:=Bl.ld S0.p1 4 rfl
  go_wp2_with fail
  clear f0 r0 f1 r1 f2 r2 f3 r3 f4 r4
  try simp only [Exit.inBlock,Exit.then]
  refine ret_bl (S0.p1.set5 rfl _ _ _ _ _) (fun W hW=>by have d0:=hW 0 _ rfl;have d1:=hW 1 _ rfl;have d2:=hW 2 _ rfl;have d3:=hW 3 _ rfl;have d4:=hW 4 _ rfl;simp [results,Tryz.results19,go_sem,d0,d1,d2,d3,d4];try rfl) rfl ?_
  rw [HE.out]
  exact ⟨_,rfl,Cw.no _ _ (below5 S0.q2 (Nat.le_of_lt hgl) _ _ _ _ _)⟩
 | true=>
  have hE:tellX (boundX l (j:Int) false)=(cB l (j:Int) false,0):=bound_ok HOK.out HX.p1
  have HE:=Lib.hid hE
  clear hE
  go_upto_region 6 with (fail)
  have hal:=Ya W0 (.cells #[.int .i64 2,.slice none 0 0,.bool yL.b,.slice yL.A yL.l yL.k,.slice yL.B yL.m yL.d] 39)
  obtain ⟨g9,hg9⟩:∃ g,g=W0.heap.size:=⟨_,rfl⟩
  have hg99:w.heap.size<g9/\gR<g9:=by rw [hg9];exact ⟨S0.p0.lt,S0.p1.lt⟩
  have S1:=Yh4 (S0.p0.keep hal) (S0.p1.keep hal) (Bl.new W0 39 [.int .i64 2,.slice none 0 0,.bool yL.b,.slice yL.A yL.l yL.k,.slice yL.B yL.m yL.d]) (Yb S0.q2 hal)
  rw [<- hg9] at S1 ⊢
  generalize W0.alloc _=W1 at S1 ⊢
  clear hal hg9 S0 l0 l1 l2 l3 l4 l5 l6 B0L Y0L Y1L Y2L
  have l0:=Bl.ld S1.p0 0 rfl
  by_cases hlt:j<N
  · skip
    have hrow:mkV (qT (fqT [((j:Int),(1:Rat))]))=mkV (rowT l (j:Int)):=by
     rw [qT_fq];unfold rowT;rw [if_pos (by rw [HN.p0];omega)]
    have HROW:=Lib.hid hrow
    clear hrow
    have dj:decide ((j:Int)<(N:Int))=true:=decide_eq_true Yo
    go_wp2_with fail
    clear l0
    go_loopw [9] (fun z wr=>∃ (k:Nat) (E:Option Addr) (n1 c1:Nat),z=.int .i64 (k:Int)/\k<=N/\Hid (Bl wr 26 w.heap.size [.int .i64 (N:Int),.slice aA an ac,.slice (some ⟨gbL,obL,none⟩) bn bc,.slice cA cn cc,.slice (some ⟨gfL,ofL,none⟩) dn dc,.slice eA en ec,.slice fA fn fc]/\Bl wr 39 gR [.int .i64 0,.slice none 0 0,.bool false,.slice none 0 0,.slice none 0 0]/\Bl wr 39 g9 [.int .i64 2,.slice E n1 c1,.bool yL.b,.slice yL.A yL.l yL.k,.slice yL.B yL.m yL.d]/\Tw w wr (.slice E n1 c1) (fqT (ownT j k)))) (fun z _=>N - (intOf z).toNat)
    case atStart=>exact ⟨0,none,0,0,rfl,Nat.zero_le _,S1.p0,S1.p1,S1.p2,by first | (rw [show ownT j 0=[] from if_neg (Nat.not_lt_zero j)];exact Tw.nil S1.q3) | (simpa [fqT] using Tw.nil S1.q3)⟩
    case round=>
     clear S1
     obtain ⟨k,E,n1,c1,rfl,hk,H⟩:=hrel
     have l0:=Bl.ld H.p0 0 rfl
     by_cases hkN:k<N
     · skip
       have dk:(k:Int)<(N:Int):=Yo
       by_cases hkj:k=j
       · skip
         have e1:((k:Int)==(j:Int))=true:=by rw [hkj];exact beq_self_eq_true _
         have hnx:fqT (ownT j (k+1))=fqT (ownT j k)++[((k:Int),fq 1)]:=by rw [<- hkj];exact own_at k
         have hlen:(fqT (ownT j k)).length<=1048576:=by unfold fqT;rw [List.length_map];exact Nat.le_trans (own_len j k) Yd
         have HY:=Yh2 hnx hlen
         have HKJ:=Lib.hid hkj
         clear hnx hlen hkj
         go_upto_region 13 with (fail)
         clear e1 dk l0
         have T0:=Yh4 (H.p0.keep (below_d _)) (H.p1.keep (below_d _)) (H.p2.keep (below_d _)) (H.q3.keep (below_d _))
         refine wp_region_late 9 (by kernel_rfl) (by kernel_rfl) (Yl 10 512).toArray (by kernel_rfl) (S:=fun W=>Yc5 W g9 (.int .i64 2) (.slice E n1 c1) (.bool yL.b) (.slice yL.A yL.l yL.k) (.slice yL.B yL.m yL.d) (Ye7 W w.heap.size (.int .i64 (N:Int)) (.slice aA an ac) (.slice (some ⟨gbL,obL,none⟩) bn bc) (.slice cA cn cc) (.slice (some ⟨gfL,ofL,none⟩) dn dc) (.slice eA en ec) (.slice fA fn fc))) ⟨Bl.ld T0.p2 0 rfl,Bl.ld T0.p2 1 rfl,Bl.ld T0.p2 2 rfl,Bl.ld T0.p2 3 rfl,Bl.ld T0.p2 4 rfl,Bl.ld T0.p0 0 rfl,Bl.ld T0.p0 1 rfl,Bl.ld T0.p0 2 rfl,Bl.ld T0.p0 3 rfl,Bl.ld T0.p0 4 rfl,Bl.ld T0.p0 5 rfl,Bl.ld T0.p0 6 rfl⟩ (fun Hh=>?_)
         clear H
         refine rgT 0 Hh ?_
         refine rgT 1 Hh ?_
         refine rgT 2 Hh ?_
         generalize wr.drew=Wd at T0 Hh ⊢
         refine rgO 3 fun K hK=>?_
         go_simp
         go_at_call 24;refine (small_e (z:=1) sm_one).mono ?_;rintro e w3 ⟨u3,rfl,h3,hb⟩
         obtain ⟨p3,A3,l3,k3,B3,m3,d3,rfl⟩:=h3.parts
         have T0b:=Yh5 (T0.p0.keep hb) (T0.p1.keep hb) (T0.p2.keep hb) (T0.q3.keep hb) h3
         clear h3 hb Hh T0
         go_wp2_with fail
         refine rgK hK ⟨Bl.ld T0b.p2 0 rfl,Bl.ld T0b.p2 1 rfl,Bl.ld T0b.p2 2 rfl,Bl.ld T0b.p2 3 rfl,Bl.ld T0b.p2 4 rfl,Bl.ld T0b.p0 0 rfl,Bl.ld T0b.p0 1 rfl,Bl.ld T0b.p0 2 rfl,Bl.ld T0b.p0 3 rfl,Bl.ld T0b.p0 4 rfl,Bl.ld T0b.p0 5 rfl,Bl.ld T0b.p0 6 rfl⟩ fun Hh=>?_;clear hK K
         refine rgO 4 fun K hK=>?_
         go_simp
         go_at_call 29;refine (to_r (K:=1) T0b.q4 Yd sz_one Yd).mono ?_;rintro e w4 ⟨u4,rfl,h4⟩
         have hf4:=h4.fw
         have hb:=hf4.below
         obtain ⟨A4,l4,k4,B4,m4,d4,rfl⟩:=hf4.fv.parts
         obtain ⟨b4,hb4⟩:∃ b,b=(fq ((1:Int):Rat)).b:=⟨_,rfl⟩
         rw [<- hb4] at hf4 ⊢
         have T1:=Yh5 (T0b.p0.keep hb) (T0b.p1.keep hb) (T0b.p2.keep hb) (T0b.p3.keep hb) (hf4.from T0b.p3.below)
         clear h4 hf4 hb4 hb Hh T0b
         go_wp2_with fail
         refine rgK hK ⟨Bl.ld T1.p2 0 rfl,Bl.ld T1.p2 1 rfl,Bl.ld T1.p2 2 rfl,Bl.ld T1.p2 3 rfl,Bl.ld T1.p2 4 rfl,Bl.ld T1.p0 0 rfl,Bl.ld T1.p0 1 rfl,Bl.ld T1.p0 2 rfl,Bl.ld T1.p0 3 rfl,Bl.ld T1.p0 4 rfl,Bl.ld T1.p0 5 rfl,Bl.ld T1.p0 6 rfl⟩ fun Hh=>?_;clear hK K
         refine rgT 5 Hh ?_
         refine rgO 6 fun K hK=>?_
         go_simp
         have hal:=Ya w4 (.cells #[.int .i64 (k:Int),.bool b4,.slice A4 l4 k4,.slice B4 m4 d4] 85)
         have T2:=Yh6 (T1.p0.keep hal) (T1.p1.keep hal) (T1.p2.keep hal) (T1.p3.keep hal) (T1.q4.keep hal) (Bl.new w4 85 [.int .i64 (k:Int),.bool b4,.slice A4 l4 k4,.slice B4 m4 d4])
         refine rgK hK ⟨Bl.ld T2.p2 0 rfl,Bl.ld T2.p2 1 rfl,Bl.ld T2.p2 2 rfl,Bl.ld T2.p2 3 rfl,Bl.ld T2.p2 4 rfl,Bl.ld T2.p0 0 rfl,Bl.ld T2.p0 1 rfl,Bl.ld T2.p0 2 rfl,Bl.ld T2.p0 3 rfl,Bl.ld T2.p0 4 rfl,Bl.ld T2.p0 5 rfl,Bl.ld T2.p0 6 rfl⟩ fun Hh=>?_;clear hK K
         clear T1 hal
         obtain ⟨gn,hgn⟩:∃ k,w4.heap.size=k:=⟨_,rfl⟩
         rw [hgn] at T2 ⊢
         generalize w4.alloc _=W5 at T2 Hh ⊢
         clear hgn
         refine rgO 7 fun K hK=>?_
         rw [if_pos (by rfl)]
         refine app_t (t:=((k:Int),fq (1))) (.tmp 72) (.tmp 77) rfl (x:=⟨(k:Int),b4,A4,l4,k4,B4,m4,d4,1⟩) rfl rfl T2.p3 rfl (fq_q _).symm T2.p4 T2.q5 HY.q1 ?_
         intro u6 w6 q1 q2 q3
         rw [show fqT (ownT j k)++[((k:Int),fq (1))]=fqT (ownT j (k+1)) from HY.p0.symm] at q1
         obtain ⟨E6,c6,rfl⟩:=q1.shape
         obtain ⟨n6,hn6⟩:∃ n,n=(fqT (ownT j (k+1))).length:=⟨_,rfl⟩
         rw [<- hn6] at q1 ⊢
         have T3:Hid (Bl w6 26 w.heap.size [.int .i64 (N:Int),.slice aA an ac,.slice (some ⟨gbL,obL,none⟩) bn bc,.slice cA cn cc,.slice (some ⟨gfL,ofL,none⟩) dn dc,.slice eA en ec,.slice fA fn fc]/\Bl w6 39 gR [.int .i64 0,.slice none 0 0,.bool false,.slice none 0 0,.slice none 0 0]/\Bl w6 39 g9 [.int .i64 2,.slice E n1 c1,.bool yL.b,.slice yL.A yL.l yL.k,.slice yL.B yL.m yL.d]/\Tw w w6 (.slice E6 n6 c6) (fqT (ownT j (k+1)))):=⟨(q2 _ Yd).bl T2.p0,(q2 _ Yd).bl T2.p1,(q2 _ Yd).bl T2.p2,q1⟩
         clear q1 q2 q3 hn6
         refine rgK hK ⟨Bl.ld T3.p2 0 rfl,Bl.ld T3.p2 1 rfl,Bl.ld T3.p2 2 rfl,Bl.ld T3.p2 3 rfl,Bl.ld T3.p2 4 rfl,Bl.ld T3.p0 0 rfl,Bl.ld T3.p0 1 rfl,Bl.ld T3.p0 2 rfl,Bl.ld T3.p0 3 rfl,Bl.ld T3.p0 4 rfl,Bl.ld T3.p0 5 rfl,Bl.ld T3.p0 6 rfl⟩ fun Hh=>?_;clear hK K
         clear T2
         refine rgT 8 Hh ?_
         refine Yw ?_
         clear Hh
         refine late_go (T:=fun _=>True) (Yl 10 511).toArray 1 (by kernel_rfl) (by kernel_rfl) ?_
         have f1:=Bl.fr T3.p2 1
         have r1:=Bl.ld T3.p2 1 rfl
         refine rgO 9 fun K hK=>?_
         go_simp
         refine rgK hK trivial fun _=>?_;clear hK K
         refine Yw ?_
         clear f1 r1
         have K2:Hid (Bl (w6.setCell ⟨g9,1,none⟩ (.slice E6 n6 c6)) 26 w.heap.size [.int .i64 (N:Int),.slice aA an ac,.slice (some ⟨gbL,obL,none⟩) bn bc,.slice cA cn cc,.slice (some ⟨gfL,ofL,none⟩) dn dc,.slice eA en ec,.slice fA fn fc]/\Bl (w6.setCell ⟨g9,1,none⟩ (.slice E6 n6 c6)) 39 gR [.int .i64 0,.slice none 0 0,.bool false,.slice none 0 0,.slice none 0 0]/\Bl (w6.setCell ⟨g9,1,none⟩ (.slice E6 n6 c6)) 39 g9 [.int .i64 2,.slice E6 n6 c6,.bool yL.b,.slice yL.A yL.l yL.k,.slice yL.B yL.m yL.d]/\Tw w (w6.setCell ⟨g9,1,none⟩ (.slice E6 n6 c6)) (.slice E6 n6 c6) (fqT (ownT j (k+1)))):=⟨T3.p0.other (p:=⟨g9,1,none⟩) (Nat.ne_of_gt hg99.1) _,T3.p1.other (p:=⟨g9,1,none⟩) (Nat.ne_of_gt hg99.2) _,T3.p2.set 1 _,T3.q3.keepT (T3.p2.keepT1 Yd 1 _) (T3.p2.keepT1 Yd 1 _) (T3.q3.below.setCell (p:=⟨g9,1,none⟩) (Nat.le_of_lt hg99.1) _)⟩
         clear T3
         generalize w6.setCell ⟨g9,1,none⟩ (.slice E6 n6 c6)=W9 at K2 ⊢
         have l0:=Bl.ld K2.p0 0 rfl
         go_wp2_with fail
         case roundEnd=>exact ⟨⟨k+1,E6,n6,c6,by go_num,Yo,K2.out⟩,by simp [intOf];omega⟩
       have e1:((k:Int)==(j:Int))=false:=beq_eq_false_iff_ne.2 Yo
       have K2:Hid (Bl wr 26 w.heap.size [.int .i64 (N:Int),.slice aA an ac,.slice (some ⟨gbL,obL,none⟩) bn bc,.slice cA cn cc,.slice (some ⟨gfL,ofL,none⟩) dn dc,.slice eA en ec,.slice fA fn fc]/\Bl wr 39 gR [.int .i64 0,.slice none 0 0,.bool false,.slice none 0 0,.slice none 0 0]/\Bl wr 39 g9 [.int .i64 2,.slice E n1 c1,.bool yL.b,.slice yL.A yL.l yL.k,.slice yL.B yL.m yL.d]/\Tw w wr (.slice E n1 c1) (fqT (ownT j (k+1)))):=by
        rw [own_off hkj]
        exact H.out
       go_wp2_with fail
       case roundEnd=>exact ⟨⟨k+1,E,n1,c1,by go_num,Yo,K2.out⟩,by simp [intOf];omega⟩
     obtain rfl:k=N:=by omega
     have dk:¬ (k:Int)<(k:Int):=Yo
     have S5:Hid (Bl wr 26 w.heap.size [.int .i64 (k:Int),.slice aA an ac,.slice (some ⟨gbL,obL,none⟩) bn bc,.slice cA cn cc,.slice (some ⟨gfL,ofL,none⟩) dn dc,.slice eA en ec,.slice fA fn fc]/\Bl wr 39 gR [.int .i64 0,.slice none 0 0,.bool false,.slice none 0 0,.slice none 0 0]/\Bl wr 39 g9 [.int .i64 2,.slice E n1 c1,.bool yL.b,.slice yL.A yL.l yL.k,.slice yL.B yL.m yL.d]/\Yg w wr/\Tx wr (.slice E n1 c1) (fqT [((j:Int),(1:Rat))])):=by
      have h:=H.q3
      rw [own_all hlt] at h
      exact ⟨H.p0,H.p1,H.p2,h.below,h.tx⟩
     clear H
     have s0:=Bl.ld S5.p2 0 rfl
     have s1:=Bl.ld S5.p2 1 rfl
     have s2:=Bl.ld S5.p2 2 rfl
     have s3:=Bl.ld S5.p2 3 rfl
     have s4:=Bl.ld S5.p2 4 rfl
     go_wp2_with fail
     refine (form_cd (L:=211) (J:=211) (c:=⟨2,fqT [((j:Int),(1:Rat))],fL⟩) ⟨⟨2,E,n1,c1,yL.b,yL.A,yL.l,yL.k,yL.B,yL.m,yL.d⟩,rfl,rfl,S5.q4,HX.p0.keep S5.p3⟩ Yd Yd (by unfold fqT;simp) (fun t ht=>by rw [List.mem_singleton.1 ht];exact ⟨Nat.le_trans (fq_len sz_one).1 Yd,Nat.le_trans (fq_len sz_one).2 Yd⟩) ⟨Nat.le_trans HX.p3 Yd,Nat.le_trans HX.q4 Yd⟩ (fun i=>by rw [qT_fq];exact sz_getV Yd (List.pairwise_singleton _ _) (fun t ht=>by rw [List.mem_singleton.1 ht];exact sz_one.mono Yd) i) (by have h:=rhs_sz HS.p6 (j:Int) false;rw [HX.p2] at h;exact h.mono Yd) Yd).mono ?_;rintro e wz ⟨uz,rfl,hz⟩
     obtain ⟨⟨sz,Ez,nz,cz,bz,Az,lz,kz,Bz,mz,dz⟩,rfl,hsz,htz,hrz⟩:=hz
     have hb:=htz.below
     have hcB:(⟨2,fqT (mkV (qT (fqT [((j:Int),(1:Rat))]))),fq fL.q⟩:Cx)=cB l (j:Int) false:=by unfold cB;rw [HX.p2,HROW.out];rfl
     have hsz:sz=2:=hsz
     subst hsz
     have Z:Hid (Bl wz 39 gR [.int .i64 0,.slice none 0 0,.bool false,.slice none 0 0,.slice none 0 0]/\Cw w wz (.agg #[.int .i64 2,.slice Ez nz cz,.bool bz,.slice Az lz kz,.slice Bz mz dz]) (cB l (j:Int) false)):=⟨S5.p1.keep hb,by rw [<- hcB];exact ⟨⟨2,Ez,nz,cz,bz,Az,lz,kz,Bz,mz,dz⟩,rfl,rfl,htz.from S5.p3,hrz.from S5.p3⟩⟩
     clear htz hrz hb hcB s0 s1 s2 s3 s4
     have f0:=Bl.fr Z.p0 0
     have f1:=Bl.fr Z.p0 1
     have f2:=Bl.fr Z.p0 2
     have f3:=Bl.fr Z.p0 3
     have f4:=Bl.fr Z.p0 4
     have r0:=Bl.ld Z.p0 0 rfl
     have r1:=Bl.ld Z.p0 1 rfl
     have r2:=Bl.ld Z.p0 2 rfl
     have r3:=Bl.ld Z.p0 3 rfl
     have r4:=Bl.ld Z.p0 4 rfl
     simp only [Cm.agg]
     go_wp2_with fail
     clear f0 r0 f1 r1 f2 r2 f3 r3 f4 r4
     try simp only [Exit.inBlock,Exit.then]
     refine ret_bl (Z.p0.set5 rfl _ _ _ _ _) (fun W hW=>by have d0:=hW 0 _ rfl;have d1:=hW 1 _ rfl;have d2:=hW 2 _ rfl;have d3:=hW 3 _ rfl;have d4:=hW 4 _ rfl;simp [results,Tryz.results19,go_sem,d0,d1,d2,d3,d4];try rfl) rfl ?_
     rw [HE.out]
     exact ⟨_,rfl,Z.q1.keepT (Z.p0.keep5 Yd _ _ _ _ _) (Z.p0.keep5 Yd _ _ _ _ _) (below5 Z.q1.below (Nat.le_of_lt hgl) _ _ _ _ _)⟩
  have dj:decide ((j:Int)<(N:Int))=false:=decide_eq_false Yo
  have dj2:decide ((N:Int)<=(j:Int))=true:=decide_eq_true Yo
  have HCL2:=Lib.hid (show l.n<=(j:Int) by rw [HN.p0];omega)
  have hrow:mkV (qT (fqT (rowT l (j:Int))))=mkV (rowT l (j:Int)):=by rw [qT_fq]
  have HROW:=Lib.hid hrow
  clear hrow
  go_wp2_with fail
  clear l0
  go_loopw [9] (fun z wr=>∃ (k:Nat) (E:Option Addr) (n1 c1:Nat),z=.int .i64 (k:Int)/\k<=N/\Hid (Bl wr 26 w.heap.size [.int .i64 (N:Int),.slice aA an ac,.slice (some ⟨gbL,obL,none⟩) bn bc,.slice cA cn cc,.slice (some ⟨gfL,ofL,none⟩) dn dc,.slice eA en ec,.slice fA fn fc]/\Bl wr 39 gR [.int .i64 0,.slice none 0 0,.bool false,.slice none 0 0,.slice none 0 0]/\Bl wr 39 g9 [.int .i64 2,.slice E n1 c1,.bool yL.b,.slice yL.A yL.l yL.k,.slice yL.B yL.m yL.d]/\Tw w wr (.slice E n1 c1) (fqT ((rowT l (j:Int)).take k)))) (fun z _=>N - (intOf z).toNat)
  case atStart=>exact ⟨0,none,0,0,rfl,Nat.zero_le _,S1.p0,S1.p1,S1.p2,by first | (rw [show ownT j 0=[] from if_neg (Nat.not_lt_zero j)];exact Tw.nil S1.q3) | (simpa [fqT] using Tw.nil S1.q3)⟩
  case round=>
   clear S1
   obtain ⟨k,E,n1,c1,rfl,hk,H⟩:=hrel
   have l0:=Bl.ld H.p0 0 rfl
   by_cases hkN:k<N
   · skip
     obtain ⟨c,hc⟩:∃ c,l.cols[k]?=some c:=⟨_,List.getElem?_eq_getElem (by rw [HL.p0];have:=HBND.out;omega)⟩
     obtain ⟨gc,oc,capc,x,e,hgc,hTx,c0⟩:=HS.p0.at_ hc
     injection e with e1 e2 e3
     subst e1
     clear e2 e3 capc
     have HC0:Hid (∀ W,Yg w W->W.cell? ⟨gc,oc+k,none⟩=some (.slice x.A x.l x.k)):=fun W hb=>(hb.cell (p:=⟨gc,_,none⟩) hgc).trans c0
     have hfc:=fit_cols HS.p5 hc
     have hnx:=rowT_take (l:=l) (col:=(j:Int)) (k:=k) (by rw [HN.p0];omega) (Int.not_lt.2 HCL2.out) hc
     rw [HN.p0] at hnx
     have hnx2:fqT ((rowT l (j:Int)).take (k+1))=fqT ((rowT l (j:Int)).take k)++[((k:Int),fq (getV (qT c) ((j:Int) - (N:Int))))]:=by rw [hnx,fqT_app];rfl
     have hlen:(fqT ((rowT l (j:Int)).take k)).length<=1048576:=by unfold fqT;rw [List.length_map,List.length_take];have:=HBND.out;omega
     have HY:=Yh2 hnx2 hlen
     have HT:=Yh2 hTx hfc
     have dk:(k:Int)<(N:Int):=Yo
     have dn2:(k:Int)<(an:Int):=by have:=HBND.out;omega
     have hsub:IntKind.i64.wrap ((j:Int) - (N:Int))=(j:Int) - (N:Int):=by rw [IntKind.wrap_i64];have:=HBND.out;omega
     clear hc hgc hTx hfc hnx hnx2 hlen c0
     go_upto_region 15 with (fail)
     clear dk dj dj2 l0
     have T0:=Yh4 (H.p0.keep (below_d _)) (H.p1.keep (below_d _)) (H.p2.keep (below_d _)) (H.q3.keep (below_d _))
     refine wp_region_late 18 (by kernel_rfl) (by kernel_rfl) (Yl 19 262144).toArray (by kernel_rfl) (S:=fun W=>W.cell? ⟨g9,1,none⟩=some (.slice E n1 c1)/\W.cell? ⟨w.heap.size,0,none⟩=some (.int .i64 (N:Int))/\W.cell? ⟨w.heap.size,1,none⟩=some (.slice (some ⟨gc,oc,none⟩) an ac)/\W.cell? ⟨gc,oc+k,none⟩=some (.slice x.A x.l x.k)) ⟨Bl.ld T0.p2 1 rfl,Bl.ld T0.p0 0 rfl,Bl.ld T0.p0 1 rfl,HC0.out _ T0.q3.below⟩ (fun Hh=>?_)
     clear H
     refine rgRun 12 [0,1,2,3,4,5,6,7,8,9,10,11] Hh fun K hK=>?_
     repeat refine rgA ?_
     refine hK _ _ ?_;clear hK K
     generalize wr.drew=Wd at T0 Hh ⊢
     refine rgO 12 fun K hK=>?_
     go_simp
     go_at_call 27;refine (get_e (L:=6) (col:=(j:Int) - (N:Int)) ((HT.p0.keep T0.q3.below).vt HT.q2) Yd Yd (by unfold qT;rw [List.length_map];exact Nat.le_trans HT.p1 Yd)).mono ?_;rintro e w3 ⟨u3,rfl,h3,hb⟩
     have hqT:(qT c).length<=30:=by unfold qT;rw [List.length_map];exact HT.p1
     obtain ⟨p3,A3,l3,k3,B3,m3,d3,rfl⟩:=h3.parts
     have h3:=h3.mono (M:=937) (by have:=Nat.mul_le_mul_right 31 hqT;omega)
     have T0b:=Yh5 (T0.p0.keep hb) (T0.p1.keep hb) (T0.p2.keep hb) (T0.q3.keep hb) h3
     clear h3 hb Hh T0 hqT
     go_wp2_with fail
     refine rgK hK ⟨Bl.ld T0b.p2 1 rfl,Bl.ld T0b.p0 0 rfl,Bl.ld T0b.p0 1 rfl,HC0.out _ T0b.p3.below⟩ fun Hh=>?_;clear hK K
     refine rgO 13 fun K hK=>?_
     go_simp
     go_at_call 29;refine (to_r (K:=211) T0b.q4 Yd (getV_sz HT.p0 HT.q1 _) Yd).mono ?_;rintro e w4 ⟨u4,rfl,h4⟩
     have hf4:=h4.fw
     have hb:=hf4.below
     obtain ⟨A4,l4,k4,B4,m4,d4,rfl⟩:=hf4.fv.parts
     obtain ⟨b4,hb4⟩:∃ b,b=(fq (getV (qT c) ((j:Int) - (N:Int)))).b:=⟨_,rfl⟩
     rw [<- hb4] at hf4 ⊢
     have T1:=Yh5 (T0b.p0.keep hb) (T0b.p1.keep hb) (T0b.p2.keep hb) (T0b.p3.keep hb) (hf4.from T0b.p3.below)
     clear h4 hf4 hb4 hb Hh T0b
     go_wp2_with fail
     refine rgK hK ⟨Bl.ld T1.p2 1 rfl,Bl.ld T1.p0 0 rfl,Bl.ld T1.p0 1 rfl,HC0.out _ T1.p3.below⟩ fun Hh=>?_;clear hK K
     refine rgT 14 Hh ?_
     refine rgO 15 fun K hK=>?_
     go_simp
     have hal:=Ya w4 (.cells #[.int .i64 (k:Int),.bool b4,.slice A4 l4 k4,.slice B4 m4 d4] 85)
     have T2:=Yh6 (T1.p0.keep hal) (T1.p1.keep hal) (T1.p2.keep hal) (T1.p3.keep hal) (T1.q4.keep hal) (Bl.new w4 85 [.int .i64 (k:Int),.bool b4,.slice A4 l4 k4,.slice B4 m4 d4])
     refine rgK hK ⟨Bl.ld T2.p2 1 rfl,Bl.ld T2.p0 0 rfl,Bl.ld T2.p0 1 rfl,HC0.out _ T2.p3.below⟩ fun Hh=>?_;clear hK K
     clear T1 hal
     obtain ⟨gn,hgn⟩:∃ k,w4.heap.size=k:=⟨_,rfl⟩
     rw [hgn] at T2 ⊢
     generalize w4.alloc _=W5 at T2 Hh ⊢
     clear hgn
     refine rgO 16 fun K hK=>?_
     rw [if_pos (by rfl)]
     refine app_t (t:=((k:Int),fq (getV (qT c) ((j:Int) - (N:Int))))) (.tmp 85) (.tmp 99) rfl (x:=⟨(k:Int),b4,A4,l4,k4,B4,m4,d4,getV (qT c) ((j:Int) - (N:Int))⟩) rfl rfl T2.p3 rfl (fq_q _).symm T2.p4 T2.q5 HY.q1 ?_
     intro u6 w6 q1 q2 q3
     rw [show fqT ((rowT l (j:Int)).take k)++[((k:Int),fq (getV (qT c) ((j:Int) - (N:Int))))]=fqT ((rowT l (j:Int)).take (k+1)) from HY.p0.symm] at q1
     obtain ⟨E6,c6,rfl⟩:=q1.shape
     obtain ⟨n6,hn6⟩:∃ n,n=(fqT ((rowT l (j:Int)).take (k+1))).length:=⟨_,rfl⟩
     rw [<- hn6] at q1 ⊢
     have T3:Hid (Bl w6 26 w.heap.size [.int .i64 (N:Int),.slice (some ⟨gc,oc,none⟩) an ac,.slice (some ⟨gbL,obL,none⟩) bn bc,.slice cA cn cc,.slice (some ⟨gfL,ofL,none⟩) dn dc,.slice eA en ec,.slice fA fn fc]/\Bl w6 39 gR [.int .i64 0,.slice none 0 0,.bool false,.slice none 0 0,.slice none 0 0]/\Bl w6 39 g9 [.int .i64 2,.slice E n1 c1,.bool yL.b,.slice yL.A yL.l yL.k,.slice yL.B yL.m yL.d]/\Tw w w6 (.slice E6 n6 c6) (fqT ((rowT l (j:Int)).take (k+1)))):=⟨(q2 _ Yd).bl T2.p0,(q2 _ Yd).bl T2.p1,(q2 _ Yd).bl T2.p2,q1⟩
     clear q1 q2 q3 hn6
     refine rgK hK ⟨Bl.ld T3.p2 1 rfl,Bl.ld T3.p0 0 rfl,Bl.ld T3.p0 1 rfl,HC0.out _ T3.q3.below⟩ fun Hh=>?_;clear hK K
     clear T2
     refine rgT 17 Hh ?_
     refine Yw ?_
     clear Hh
     refine late_go (T:=fun _=>True) (Yl 19 262143).toArray 1 (by kernel_rfl) (by kernel_rfl) ?_
     have f1:=Bl.fr T3.p2 1
     have r1:=Bl.ld T3.p2 1 rfl
     refine rgO 18 fun K hK=>?_
     go_simp
     refine rgK hK trivial fun _=>?_;clear hK K
     refine Yw ?_
     clear f1 r1
     have K2:Hid (Bl (w6.setCell ⟨g9,1,none⟩ (.slice E6 n6 c6)) 26 w.heap.size [.int .i64 (N:Int),.slice (some ⟨gc,oc,none⟩) an ac,.slice (some ⟨gbL,obL,none⟩) bn bc,.slice cA cn cc,.slice (some ⟨gfL,ofL,none⟩) dn dc,.slice eA en ec,.slice fA fn fc]/\Bl (w6.setCell ⟨g9,1,none⟩ (.slice E6 n6 c6)) 39 gR [.int .i64 0,.slice none 0 0,.bool false,.slice none 0 0,.slice none 0 0]/\Bl (w6.setCell ⟨g9,1,none⟩ (.slice E6 n6 c6)) 39 g9 [.int .i64 2,.slice E6 n6 c6,.bool yL.b,.slice yL.A yL.l yL.k,.slice yL.B yL.m yL.d]/\Tw w (w6.setCell ⟨g9,1,none⟩ (.slice E6 n6 c6)) (.slice E6 n6 c6) (fqT ((rowT l (j:Int)).take (k+1)))):=⟨T3.p0.other (p:=⟨g9,1,none⟩) (Nat.ne_of_gt hg99.1) _,T3.p1.other (p:=⟨g9,1,none⟩) (Nat.ne_of_gt hg99.2) _,T3.p2.set 1 _,T3.q3.keepT (T3.p2.keepT1 Yd 1 _) (T3.p2.keepT1 Yd 1 _) (T3.q3.below.setCell (p:=⟨g9,1,none⟩) (Nat.le_of_lt hg99.1) _)⟩
     clear T3
     generalize w6.setCell ⟨g9,1,none⟩ (.slice E6 n6 c6)=W9 at K2 ⊢
     clear hsub dn2
     go_wp2_with fail
     case roundEnd=>exact ⟨⟨k+1,E6,n6,c6,by go_num,Yo,K2.out⟩,by simp [intOf];omega⟩
   obtain rfl:k=N:=by omega
   have dk:¬ (k:Int)<(k:Int):=Yo
   have S5:Hid (Bl wr 26 w.heap.size [.int .i64 (k:Int),.slice aA an ac,.slice (some ⟨gbL,obL,none⟩) bn bc,.slice cA cn cc,.slice (some ⟨gfL,ofL,none⟩) dn dc,.slice eA en ec,.slice fA fn fc]/\Bl wr 39 gR [.int .i64 0,.slice none 0 0,.bool false,.slice none 0 0,.slice none 0 0]/\Bl wr 39 g9 [.int .i64 2,.slice E n1 c1,.bool yL.b,.slice yL.A yL.l yL.k,.slice yL.B yL.m yL.d]/\Yg w wr/\Tx wr (.slice E n1 c1) (fqT (rowT l (j:Int)))):=by
    have h:=H.q3
    rw [rowT_all HN.p0 (Int.not_lt.2 HCL2.out)] at h
    exact ⟨H.p0,H.p1,H.p2,h.below,h.tx⟩
   clear H
   have hz:=rowT_sz (l:=l) (col:=(j:Int)) (L:=6) (M:=30) fun c hc=>⟨(HS.p5.2.1 c hc).1,fun t ht=>HS.p6.1 c hc t ht⟩
   have hlen:(fqT (rowT l (j:Int))).length<=4096:=by unfold fqT;rw [List.length_map];exact Nat.le_trans (rowT_len (m:=14) (by rw [HN.p0];have:=HBND.out;omega) Yd) Yd
   have HW:=Yh2 hz hlen
   clear hz hlen
   have s0:=Bl.ld S5.p2 0 rfl
   have s1:=Bl.ld S5.p2 1 rfl
   have s2:=Bl.ld S5.p2 2 rfl
   have s3:=Bl.ld S5.p2 3 rfl
   have s4:=Bl.ld S5.p2 4 rfl
   go_wp2_with fail
   refine (form_cd (L:=211) (J:=211) (c:=⟨2,fqT (rowT l (j:Int)),fL⟩) ⟨⟨2,E,n1,c1,yL.b,yL.A,yL.l,yL.k,yL.B,yL.m,yL.d⟩,rfl,rfl,S5.q4,HX.p0.keep S5.p3⟩ Yd Yd HW.q1 (szT_fq HW.p0) ⟨Nat.le_trans HX.p3 Yd,Nat.le_trans HX.q4 Yd⟩ (fun i=>by rw [qT_fq];exact sz_getV Yd (rowT_up l _) HW.p0 i) (by have h:=rhs_sz HS.p6 (j:Int) false;rw [HX.p2] at h;exact h.mono Yd) Yd).mono ?_;rintro e wz ⟨uz,rfl,hz⟩
   obtain ⟨⟨sz,Ez,nz,cz,bz,Az,lz,kz,Bz,mz,dz⟩,rfl,hsz,htz,hrz⟩:=hz
   have hb:=htz.below
   have hcB:(⟨2,fqT (mkV (qT (fqT (rowT l (j:Int))))),fq fL.q⟩:Cx)=cB l (j:Int) false:=by unfold cB;rw [HX.p2,HROW.out];rfl
   have hsz:sz=2:=hsz
   subst hsz
   have Z:Hid (Bl wz 39 gR [.int .i64 0,.slice none 0 0,.bool false,.slice none 0 0,.slice none 0 0]/\Cw w wz (.agg #[.int .i64 2,.slice Ez nz cz,.bool bz,.slice Az lz kz,.slice Bz mz dz]) (cB l (j:Int) false)):=⟨S5.p1.keep hb,by rw [<- hcB];exact ⟨⟨2,Ez,nz,cz,bz,Az,lz,kz,Bz,mz,dz⟩,rfl,rfl,htz.from S5.p3,hrz.from S5.p3⟩⟩
   clear htz hrz hb hcB s0 s1 s2 s3 s4
   have f0:=Bl.fr Z.p0 0
   have f1:=Bl.fr Z.p0 1
   have f2:=Bl.fr Z.p0 2
   have f3:=Bl.fr Z.p0 3
   have f4:=Bl.fr Z.p0 4
   have r0:=Bl.ld Z.p0 0 rfl
   have r1:=Bl.ld Z.p0 1 rfl
   have r2:=Bl.ld Z.p0 2 rfl
   have r3:=Bl.ld Z.p0 3 rfl
   have r4:=Bl.ld Z.p0 4 rfl
   simp only [Cm.agg]
   go_wp2_with fail
   clear f0 r0 f1 r1 f2 r2 f3 r3 f4 r4
   try simp only [Exit.inBlock,Exit.then]
   refine ret_bl (Z.p0.set5 rfl _ _ _ _ _) (fun W hW=>by have d0:=hW 0 _ rfl;have d1:=hW 1 _ rfl;have d2:=hW 2 _ rfl;have d3:=hW 3 _ rfl;have d4:=hW 4 _ rfl;simp [results,Tryz.results19,go_sem,d0,d1,d2,d3,d4];try rfl) rfl ?_
   rw [HE.out]
   exact ⟨_,rfl,Z.q1.keepT (Z.p0.keep5 Yd _ _ _ _ _) (Z.p0.keep5 Yd _ _ _ _ _) (below5 Z.q1.below (Nat.le_of_lt hgl) _ _ _ _ _)⟩
end
end I
end
end Go.Proofs.YtclaiidoomdklaaGreat
