import Derived.Test.YtclaiidoomdklaaGreatSNA21
set_option maxRecDepth 100000
set_option maxHeartbeats 8000000
set_option linter.unusedVariables false
set_option linter.unusedSimpArgs false
namespace Go.Proofs.YtclaiidoomdklaaGreat
section
section
open Go Go.RowKit Go.Proofs Pl
theorem Tx.one {w:World} {g:Nat} {c:Int} {b:Bool} {A B:Option Addr} {l k m d:Nat} {f:Fx} (X:Bl w 85 g [.int .i64 c,.bool b,.slice A l k,.slice B m d]) (h:Fv w (.agg #[.bool b,.slice A l k,.slice B m d]) f):Tx w (.slice (some ⟨g,0,none⟩) 1 1) [(c,f)]:=by
 refine ⟨[⟨c,b,A,l,k,B,m,d,f.q⟩],⟨some ⟨g,0,none⟩,1,rfl,Nat.le_refl _,by unfold maxLen;decide,by simp,.inr ⟨g,0,rfl,X.lt,fun i u hi=>?_⟩⟩,rfl,fun i x y hx hy=>?_⟩
 · rw [Nat.zero_add];exact X.ld i (by simpa [flat,Tm.cs] using hi)
 · match i,hx,hy with
   | 0,hx,hy=>
    obtain rfl:=Option.some.inj hx
    obtain rfl:=Option.some.inj hy
    exact ⟨rfl,rfl,h⟩
   | i+1,hx,_=>cases hx
theorem fit_cols {l:LPx} (hf:Fit l) {i:Nat} {c:List (Int × Fx)} (h:l.cols[i]?=some c):c.length<=30/\∀ t∈c,t.2.xs.length<=6/\t.2.ds.length<=6:=hf.2.1 c (List.mem_of_getElem? h)
theorem rowT_take {l:LPx} {col:Int} {k:Nat} {c:List (Int × Fx)} (hk:(k:Int)<l.n) (h:¬ col<l.n) (hc:l.cols[k]?=some c):
 (rowT l col).take (k+1)=(rowT l col).take k++[((k:Int),getV (qT c) (col - l.n))]:=by
 have e:(rowT l col)[k]?=some ((k:Int),getV (qT c) (col - l.n)):=by
  unfold rowT
  rw [if_neg h,List.getElem?_map,List.getElem?_range (by omega),Option.map_some,List.getD_eq_getElem?_getD,hc];rfl
 exact take_f e
theorem rowT_all {l:LPx} {col:Int} {N:Nat} (hN:l.n=(N:Int)) (h:¬ col<l.n):(rowT l col).take N=rowT l col:=by
 refine List.take_of_length_le ?_
 unfold rowT
 rw [if_neg h,List.length_map,List.length_range];omega
theorem bound_ok {l:LPx} {col:Int} {up:Bool} (h:okB l col) (hh:hasX l col up=true):tellX (boundX l col up)=(cB l col up,0):=by
 unfold boundX;rw [if_pos ⟨h,hh⟩];rfl
theorem bound_none {l:LPx} {col:Int} {up:Bool} (h:¬ (okB l col/\hasX l col up=true)):tellX (boundX l col up)=(Cx.no,2):=by
 unfold boundX;rw [if_neg h];rfl
theorem bound_bad {w:World} {v:Value} {l:LPx} {col:Int} {up:Bool} (h:LPv w v l) (hf:Fit l) (hbad:Hid (¬ okB l col)):
 Calls Tryz.prog 18 #[v,.int .i64 col,.bool up] w fun e w'=>∃ r,e=.returned (.tuple #[r,.int .i64 (tellX (boundX l col up)).2])/\Cw w w' r (tellX (boundX l col up)).1:=by
 have hsz:=fit_sz h hf
 obtain ⟨⟨n,⟨aA,an,ac⟩,⟨bA,bn,bc⟩,⟨cA,cn,cc⟩,⟨dA,dn,dc⟩,⟨eA,en,ec⟩,⟨fA,fn,fc⟩⟩,rfl,h1,h2,h3,h4,h5,h6,h7⟩:=h
 have h1:n=l.n:=h1
 subst h1
 have h2:Gx w (.slice aA an ac) l.cols:=h2
 have h3:Ex w (.slice bA bn bc) l.hasLo:=h3
 have h4:Ex w (.slice cA cn cc) l.hasHi:=h4
 have h5:Rx w (.slice dA dn dc) l.lo:=h5
 have h6:Rx w (.slice eA en ec) l.hi:=h6
 obtain ⟨A,c,e,hac,hac2⟩:=h2.shape
 injection e with e1 e2 e3
 subst e3
 have hlen:l.cols.length=an:=e2.symm
 clear e1 e2 A
 obtain ⟨A,c,e,-,-⟩:=h3.shape
 injection e with e1 e2 e3
 have hlb:l.hasLo.length=bn:=e2.symm
 clear e1 e2 e3 A c
 obtain ⟨A,c,e,-,-⟩:=h4.shape
 injection e with e1 e2 e3
 have hlc:l.hasHi.length=cn:=e2.symm
 clear e1 e2 e3 A c
 obtain ⟨A,c,e,-,-⟩:=h5.shape
 injection e with e1 e2 e3
 have hld:l.lo.length=dn:=e2.symm
 clear e1 e2 e3 A c
 obtain ⟨A,c,e,-,-⟩:=h6.shape
 injection e with e1 e2 e3
 have hle:l.hi.length=en:=e2.symm
 clear e1 e2 e3 A c
 have han:an<=14:=by rw [<- hlen];exact hf.1
 have HS:=Yh8 h2 h3 h4 h5 h6 hf hsz hac
 have HL:=Yh5 hlen hlb hlc hld hle
 clear h2 h3 h4 h5 h6 h7 hf hsz hlen hlb hlc hld hle hac hac2
 change Calls Tryz.prog 18 #[.agg #[.int .i64 l.n,.slice aA an ac,.slice bA bn bc,.slice cA cn cc,.slice dA dn dc,.slice eA en ec,.slice fA fn fc],_,_] w _
 go_enter Tryz.func18,Tryz.ntmps18
 go_upto_region 1 with (fail)
 have X0:=(Bl.new w 26 [.int .i64 l.n,.slice aA an ac,.slice bA bn bc,.slice cA cn cc,.slice dA dn dc,.slice eA en ec,.slice fA fn fc]).alloc (.cells #[.int .i64 0,.slice none 0 0,.bool false,.slice none 0 0,.slice none 0 0] 39)
 have R0:=Bl.new1 w (.cells #[.int .i64 l.n,.slice aA an ac,.slice bA bn bc,.slice cA cn cc,.slice dA dn dc,.slice eA en ec,.slice fA fn fc] 26) 39 [.int .i64 0,.slice none 0 0,.bool false,.slice none 0 0,.slice none 0 0]
 have hb0:Yg w ((w.alloc (.cells #[.int .i64 l.n,.slice aA an ac,.slice bA bn bc,.slice cA cn cc,.slice dA dn dc,.slice eA en ec,.slice fA fn fc] 26)).alloc (.cells #[.int .i64 0,.slice none 0 0,.bool false,.slice none 0 0,.slice none 0 0] 39)):=Yb (Ya _ _) (Ya _ _)
 obtain ⟨gR,hgR⟩:∃ g,g=w.heap.size+1:=⟨_,rfl⟩
 rw [<- hgR] at R0 ⊢
 have hgl:w.heap.size<gR:=Yo
 have S0:=Yh3 X0 R0 hb0
 generalize (w.alloc _).alloc _=W0 at S0 ⊢
 clear X0 R0 hb0 hgR
 have l0:=Bl.ld S0.p0 0 rfl
 have l1:=Bl.ld S0.p0 1 rfl
 have l2:=Bl.ld S0.p0 2 rfl
 have l3:=Bl.ld S0.p0 3 rfl
 have l4:=Bl.ld S0.p0 4 rfl
 have l5:=Bl.ld S0.p0 5 rfl
 have l6:=Bl.ld S0.p0 6 rfl
 by_cases k1:col<0
 · skip
   have a1:decide (col<0)=true:=decide_eq_true k1
   have hE:tellX (boundX l col up)=(Cx.no,2):=bound_none fun hh=>by have h:=hh.1;have:=h.1;have:=HL.out;omega
   clear k1
   have HE:=Lib.hid hE
   clear hE
   have f0:=Bl.fr S0.p1 0
   have f1:=Bl.fr S0.p1 1
   have f2:=Bl.fr S0.p1 2
   have f3:=Bl.fr S0.p1 3
   have f4:=Bl.fr S0.p1 4
   have r0:=Bl.ld S0.p1 0 rfl
   have r1:=Bl.ld S0.p1 1 rfl
   have r2:=Bl.ld S0.p1 2 rfl
   have r3:=Bl.ld S0.p1 3 rfl
   have r4:=Bl.ld S0.p1 4 rfl
   go_wp2_with fail
   clear f0 r0 f1 r1 f2 r2 f3 r3 f4 r4 l0 l1 l2 l3 l4 l5 l6
   try simp only [Exit.inBlock,Exit.then]
   refine ret_bl (S0.p1.set5 rfl _ _ _ _ _) (fun W hW=>by have d0:=hW 0 _ rfl;have d1:=hW 1 _ rfl;have d2:=hW 2 _ rfl;have d3:=hW 3 _ rfl;have d4:=hW 4 _ rfl;simp [results,Tryz.results18,go_sem,d0,d1,d2,d3,d4];try rfl) rfl ?_
   rw [HE.out]
   exact ⟨_,rfl,Cw.no _ _ (below5 S0.q2 (Nat.le_of_lt hgl) _ _ _ _ _)⟩
 have a1:decide (col<0)=false:=decide_eq_false k1
 by_cases k2:(an:Int)<=col
 · skip
   have a2:decide ((an:Int)<=col)=true:=decide_eq_true k2
   have hE:tellX (boundX l col up)=(Cx.no,2):=bound_none fun hh=>by have h:=hh.1;have:=h.2.1;have:=HL.out;omega
   clear k2
   have HE:=Lib.hid hE
   clear hE
   have f0:=Bl.fr S0.p1 0
   have f1:=Bl.fr S0.p1 1
   have f2:=Bl.fr S0.p1 2
   have f3:=Bl.fr S0.p1 3
   have f4:=Bl.fr S0.p1 4
   have r0:=Bl.ld S0.p1 0 rfl
   have r1:=Bl.ld S0.p1 1 rfl
   have r2:=Bl.ld S0.p1 2 rfl
   have r3:=Bl.ld S0.p1 3 rfl
   have r4:=Bl.ld S0.p1 4 rfl
   go_wp2_with fail
   clear f0 r0 f1 r1 f2 r2 f3 r3 f4 r4 l0 l1 l2 l3 l4 l5 l6
   try simp only [Exit.inBlock,Exit.then]
   refine ret_bl (S0.p1.set5 rfl _ _ _ _ _) (fun W hW=>by have d0:=hW 0 _ rfl;have d1:=hW 1 _ rfl;have d2:=hW 2 _ rfl;have d3:=hW 3 _ rfl;have d4:=hW 4 _ rfl;simp [results,Tryz.results18,go_sem,d0,d1,d2,d3,d4];try rfl) rfl ?_
   rw [HE.out]
   exact ⟨_,rfl,Cw.no _ _ (below5 S0.q2 (Nat.le_of_lt hgl) _ _ _ _ _)⟩
 have a2:decide ((an:Int)<=col)=false:=decide_eq_false k2
 by_cases k3:dn≠an
 · skip
   have a3:((dn:Int) !=(an:Int))=true:=bne_iff_ne.2 Yo
   have hE:tellX (boundX l col up)=(Cx.no,2):=bound_none fun hh=>by have h:=hh.1;have:=h.2.2.1;have:=HL.out;omega
   clear k3
   have HE:=Lib.hid hE
   clear hE
   have f0:=Bl.fr S0.p1 0
   have f1:=Bl.fr S0.p1 1
   have f2:=Bl.fr S0.p1 2
   have f3:=Bl.fr S0.p1 3
   have f4:=Bl.fr S0.p1 4
   have r0:=Bl.ld S0.p1 0 rfl
   have r1:=Bl.ld S0.p1 1 rfl
   have r2:=Bl.ld S0.p1 2 rfl
   have r3:=Bl.ld S0.p1 3 rfl
   have r4:=Bl.ld S0.p1 4 rfl
   go_wp2_with fail
   clear f0 r0 f1 r1 f2 r2 f3 r3 f4 r4 l0 l1 l2 l3 l4 l5 l6
   try simp only [Exit.inBlock,Exit.then]
   refine ret_bl (S0.p1.set5 rfl _ _ _ _ _) (fun W hW=>by have d0:=hW 0 _ rfl;have d1:=hW 1 _ rfl;have d2:=hW 2 _ rfl;have d3:=hW 3 _ rfl;have d4:=hW 4 _ rfl;simp [results,Tryz.results18,go_sem,d0,d1,d2,d3,d4];try rfl) rfl ?_
   rw [HE.out]
   exact ⟨_,rfl,Cw.no _ _ (below5 S0.q2 (Nat.le_of_lt hgl) _ _ _ _ _)⟩
 have a3:((dn:Int) !=(an:Int))=false:=by rw [show dn=an from by omega];exact bne_self_eq_false _
 by_cases k4:en≠an
 · skip
   have a4:((en:Int) !=(an:Int))=true:=bne_iff_ne.2 Yo
   have hE:tellX (boundX l col up)=(Cx.no,2):=bound_none fun hh=>by have h:=hh.1;have:=h.2.2.2.1;have:=HL.out;omega
   clear k4
   have HE:=Lib.hid hE
   clear hE
   have f0:=Bl.fr S0.p1 0
   have f1:=Bl.fr S0.p1 1
   have f2:=Bl.fr S0.p1 2
   have f3:=Bl.fr S0.p1 3
   have f4:=Bl.fr S0.p1 4
   have r0:=Bl.ld S0.p1 0 rfl
   have r1:=Bl.ld S0.p1 1 rfl
   have r2:=Bl.ld S0.p1 2 rfl
   have r3:=Bl.ld S0.p1 3 rfl
   have r4:=Bl.ld S0.p1 4 rfl
   go_wp2_with fail
   clear f0 r0 f1 r1 f2 r2 f3 r3 f4 r4 l0 l1 l2 l3 l4 l5 l6
   try simp only [Exit.inBlock,Exit.then]
   refine ret_bl (S0.p1.set5 rfl _ _ _ _ _) (fun W hW=>by have d0:=hW 0 _ rfl;have d1:=hW 1 _ rfl;have d2:=hW 2 _ rfl;have d3:=hW 3 _ rfl;have d4:=hW 4 _ rfl;simp [results,Tryz.results18,go_sem,d0,d1,d2,d3,d4];try rfl) rfl ?_
   rw [HE.out]
   exact ⟨_,rfl,Cw.no _ _ (below5 S0.q2 (Nat.le_of_lt hgl) _ _ _ _ _)⟩
 have a4:((en:Int) !=(an:Int))=false:=by rw [show en=an from by omega];exact bne_self_eq_false _
 by_cases k5:bn≠an
 · skip
   have a5:((bn:Int) !=(an:Int))=true:=bne_iff_ne.2 Yo
   have hE:tellX (boundX l col up)=(Cx.no,2):=bound_none fun hh=>by have h:=hh.1;have:=h.2.2.2.2.1;have:=HL.out;omega
   clear k5
   have HE:=Lib.hid hE
   clear hE
   have f0:=Bl.fr S0.p1 0
   have f1:=Bl.fr S0.p1 1
   have f2:=Bl.fr S0.p1 2
   have f3:=Bl.fr S0.p1 3
   have f4:=Bl.fr S0.p1 4
   have r0:=Bl.ld S0.p1 0 rfl
   have r1:=Bl.ld S0.p1 1 rfl
   have r2:=Bl.ld S0.p1 2 rfl
   have r3:=Bl.ld S0.p1 3 rfl
   have r4:=Bl.ld S0.p1 4 rfl
   go_wp2_with fail
   clear f0 r0 f1 r1 f2 r2 f3 r3 f4 r4 l0 l1 l2 l3 l4 l5 l6
   try simp only [Exit.inBlock,Exit.then]
   refine ret_bl (S0.p1.set5 rfl _ _ _ _ _) (fun W hW=>by have d0:=hW 0 _ rfl;have d1:=hW 1 _ rfl;have d2:=hW 2 _ rfl;have d3:=hW 3 _ rfl;have d4:=hW 4 _ rfl;simp [results,Tryz.results18,go_sem,d0,d1,d2,d3,d4];try rfl) rfl ?_
   rw [HE.out]
   exact ⟨_,rfl,Cw.no _ _ (below5 S0.q2 (Nat.le_of_lt hgl) _ _ _ _ _)⟩
 have a5:((bn:Int) !=(an:Int))=false:=by rw [show bn=an from by omega];exact bne_self_eq_false _
 by_cases k6:cn≠an
 · skip
   have a6:((cn:Int) !=(an:Int))=true:=bne_iff_ne.2 Yo
   have hE:tellX (boundX l col up)=(Cx.no,2):=bound_none fun hh=>by have h:=hh.1;have:=h.2.2.2.2.2.1;have:=HL.out;omega
   clear k6
   have HE:=Lib.hid hE
   clear hE
   have f0:=Bl.fr S0.p1 0
   have f1:=Bl.fr S0.p1 1
   have f2:=Bl.fr S0.p1 2
   have f3:=Bl.fr S0.p1 3
   have f4:=Bl.fr S0.p1 4
   have r0:=Bl.ld S0.p1 0 rfl
   have r1:=Bl.ld S0.p1 1 rfl
   have r2:=Bl.ld S0.p1 2 rfl
   have r3:=Bl.ld S0.p1 3 rfl
   have r4:=Bl.ld S0.p1 4 rfl
   go_wp2_with fail
   clear f0 r0 f1 r1 f2 r2 f3 r3 f4 r4 l0 l1 l2 l3 l4 l5 l6
   try simp only [Exit.inBlock,Exit.then]
   refine ret_bl (S0.p1.set5 rfl _ _ _ _ _) (fun W hW=>by have d0:=hW 0 _ rfl;have d1:=hW 1 _ rfl;have d2:=hW 2 _ rfl;have d3:=hW 3 _ rfl;have d4:=hW 4 _ rfl;simp [results,Tryz.results18,go_sem,d0,d1,d2,d3,d4];try rfl) rfl ?_
   rw [HE.out]
   exact ⟨_,rfl,Cw.no _ _ (below5 S0.q2 (Nat.le_of_lt hgl) _ _ _ _ _)⟩
 have a6:((cn:Int) !=(an:Int))=false:=by rw [show cn=an from by omega];exact bne_self_eq_false _
 by_cases k7:l.n<0
 · skip
   have a7:decide (l.n<0)=true:=decide_eq_true k7
   have hE:tellX (boundX l col up)=(Cx.no,2):=bound_none fun hh=>by have h:=hh.1;have:=h.2.2.2.2.2.2.1;have:=HL.out;omega
   clear k7
   have HE:=Lib.hid hE
   clear hE
   have f0:=Bl.fr S0.p1 0
   have f1:=Bl.fr S0.p1 1
   have f2:=Bl.fr S0.p1 2
   have f3:=Bl.fr S0.p1 3
   have f4:=Bl.fr S0.p1 4
   have r0:=Bl.ld S0.p1 0 rfl
   have r1:=Bl.ld S0.p1 1 rfl
   have r2:=Bl.ld S0.p1 2 rfl
   have r3:=Bl.ld S0.p1 3 rfl
   have r4:=Bl.ld S0.p1 4 rfl
   go_wp2_with fail
   clear f0 r0 f1 r1 f2 r2 f3 r3 f4 r4 l0 l1 l2 l3 l4 l5 l6
   try simp only [Exit.inBlock,Exit.then]
   refine ret_bl (S0.p1.set5 rfl _ _ _ _ _) (fun W hW=>by have d0:=hW 0 _ rfl;have d1:=hW 1 _ rfl;have d2:=hW 2 _ rfl;have d3:=hW 3 _ rfl;have d4:=hW 4 _ rfl;simp [results,Tryz.results18,go_sem,d0,d1,d2,d3,d4];try rfl) rfl ?_
   rw [HE.out]
   exact ⟨_,rfl,Cw.no _ _ (below5 S0.q2 (Nat.le_of_lt hgl) _ _ _ _ _)⟩
 have a7:decide (l.n<0)=false:=decide_eq_false k7
 by_cases k8:(an:Int)<l.n
 · skip
   have a8:decide ((an:Int)<l.n)=true:=decide_eq_true k8
   have hE:tellX (boundX l col up)=(Cx.no,2):=bound_none fun hh=>by have h:=hh.1;have:=h.2.2.2.2.2.2.2;have:=HL.out;omega
   clear k8
   have HE:=Lib.hid hE
   clear hE
   have f0:=Bl.fr S0.p1 0
   have f1:=Bl.fr S0.p1 1
   have f2:=Bl.fr S0.p1 2
   have f3:=Bl.fr S0.p1 3
   have f4:=Bl.fr S0.p1 4
   have r0:=Bl.ld S0.p1 0 rfl
   have r1:=Bl.ld S0.p1 1 rfl
   have r2:=Bl.ld S0.p1 2 rfl
   have r3:=Bl.ld S0.p1 3 rfl
   have r4:=Bl.ld S0.p1 4 rfl
   go_wp2_with fail
   clear f0 r0 f1 r1 f2 r2 f3 r3 f4 r4 l0 l1 l2 l3 l4 l5 l6
   try simp only [Exit.inBlock,Exit.then]
   refine ret_bl (S0.p1.set5 rfl _ _ _ _ _) (fun W hW=>by have d0:=hW 0 _ rfl;have d1:=hW 1 _ rfl;have d2:=hW 2 _ rfl;have d3:=hW 3 _ rfl;have d4:=hW 4 _ rfl;simp [results,Tryz.results18,go_sem,d0,d1,d2,d3,d4];try rfl) rfl ?_
   rw [HE.out]
   exact ⟨_,rfl,Cw.no _ _ (below5 S0.q2 (Nat.le_of_lt hgl) _ _ _ _ _)⟩
 have a8:decide ((an:Int)<l.n)=false:=decide_eq_false k8
 exact absurd (show okB l col from ⟨Yo,by have:=HL.out;omega,by have:=HL.out;omega,by have:=HL.out;omega,by have:=HL.out;omega,by have:=HL.out;omega,Yo,by have:=HL.out;omega⟩) hbad.out
theorem bound_go {w:World} {v:Value} {l:LPx} {col:Int} {up:Bool} (h:LPv w v l) (hf:Fit l) (hok:okB l col):
 Calls Tryz.prog 18 #[v,.int .i64 col,.bool up] w fun e w'=>∃ r,e=.returned (.tuple #[r,.int .i64 (tellX (boundX l col up)).2])/\Cw w w' r (tellX (boundX l col up)).1:=by
 have hsz:=fit_sz h hf
 obtain ⟨⟨n,⟨aA,an,ac⟩,⟨bA,bn,bc⟩,⟨cA,cn,cc⟩,⟨dA,dn,dc⟩,⟨eA,en,ec⟩,⟨fA,fn,fc⟩⟩,rfl,h1,h2,h3,h4,h5,h6,h7⟩:=h
 have h1:n=l.n:=h1
 subst h1
 have h2:Gx w (.slice aA an ac) l.cols:=h2
 have h3:Ex w (.slice bA bn bc) l.hasLo:=h3
 have h4:Ex w (.slice cA cn cc) l.hasHi:=h4
 have h5:Rx w (.slice dA dn dc) l.lo:=h5
 have h6:Rx w (.slice eA en ec) l.hi:=h6
 obtain ⟨A,c,e,hac,hac2⟩:=h2.shape
 injection e with e1 e2 e3
 subst e3
 have hlen:l.cols.length=an:=e2.symm
 clear e1 e2 A
 obtain ⟨A,c,e,-,-⟩:=h3.shape
 injection e with e1 e2 e3
 have hlb:l.hasLo.length=bn:=e2.symm
 clear e1 e2 e3 A c
 obtain ⟨A,c,e,-,-⟩:=h4.shape
 injection e with e1 e2 e3
 have hlc:l.hasHi.length=cn:=e2.symm
 clear e1 e2 e3 A c
 obtain ⟨A,c,e,-,-⟩:=h5.shape
 injection e with e1 e2 e3
 have hld:l.lo.length=dn:=e2.symm
 clear e1 e2 e3 A c
 obtain ⟨A,c,e,-,-⟩:=h6.shape
 injection e with e1 e2 e3
 have hle:l.hi.length=en:=e2.symm
 clear e1 e2 e3 A c
 have han:an<=14:=by rw [<- hlen];exact hf.1
 have HS:=Yh8 h2 h3 h4 h5 h6 hf hsz hac
 have HL:=Yh5 hlen hlb hlc hld hle
 clear h2 h3 h4 h5 h6 h7 hf hsz hlen hlb hlc hld hle hac hac2
 change Calls Tryz.prog 18 #[.agg #[.int .i64 l.n,.slice aA an ac,.slice bA bn bc,.slice cA cn cc,.slice dA dn dc,.slice eA en ec,.slice fA fn fc],_,_] w _
 go_enter Tryz.func18,Tryz.ntmps18
 go_upto_region 1 with (fail)
 have X0:=(Bl.new w 26 [.int .i64 l.n,.slice aA an ac,.slice bA bn bc,.slice cA cn cc,.slice dA dn dc,.slice eA en ec,.slice fA fn fc]).alloc (.cells #[.int .i64 0,.slice none 0 0,.bool false,.slice none 0 0,.slice none 0 0] 39)
 have R0:=Bl.new1 w (.cells #[.int .i64 l.n,.slice aA an ac,.slice bA bn bc,.slice cA cn cc,.slice dA dn dc,.slice eA en ec,.slice fA fn fc] 26) 39 [.int .i64 0,.slice none 0 0,.bool false,.slice none 0 0,.slice none 0 0]
 have hb0:Yg w ((w.alloc (.cells #[.int .i64 l.n,.slice aA an ac,.slice bA bn bc,.slice cA cn cc,.slice dA dn dc,.slice eA en ec,.slice fA fn fc] 26)).alloc (.cells #[.int .i64 0,.slice none 0 0,.bool false,.slice none 0 0,.slice none 0 0] 39)):=Yb (Ya _ _) (Ya _ _)
 obtain ⟨gR,hgR⟩:∃ g,g=w.heap.size+1:=⟨_,rfl⟩
 rw [<- hgR] at R0 ⊢
 have hgl:w.heap.size<gR:=Yo
 have S0:=Yh3 X0 R0 hb0
 generalize (w.alloc _).alloc _=W0 at S0 ⊢
 clear X0 R0 hb0 hgR
 have l0:=Bl.ld S0.p0 0 rfl
 have l1:=Bl.ld S0.p0 1 rfl
 have l2:=Bl.ld S0.p0 2 rfl
 have l3:=Bl.ld S0.p0 3 rfl
 have l4:=Bl.ld S0.p0 4 rfl
 have l5:=Bl.ld S0.p0 5 rfl
 have l6:=Bl.ld S0.p0 6 rfl
 have HOK:=Lib.hid hok
 have k1:¬ col<0:=by have:=hok.1;omega
 have k2:¬ (an:Int)<=col:=by have:=hok.2.1;have:=HL.out;omega
 have k3:dn=an:=by have:=hok.2.2.1;have:=HL.out;omega
 have k4:en=an:=by have:=hok.2.2.2.1;have:=HL.out;omega
 have k5:bn=an:=by have:=hok.2.2.2.2.1;have:=HL.out;omega
 have k6:cn=an:=by have:=hok.2.2.2.2.2.1;have:=HL.out;omega
 have k7:¬ l.n<0:=by have:=hok.2.2.2.2.2.2.1;omega
 have k8:¬ (an:Int)<l.n:=by have:=hok.2.2.2.2.2.2.2;have:=HL.out;omega
 have a1:decide (col<0)=false:=decide_eq_false k1
 have a2:decide ((an:Int)<=col)=false:=decide_eq_false k2
 have a3:((dn:Int) !=(an:Int))=false:=by rw [show dn=an from by omega];exact bne_self_eq_false _
 have a4:((en:Int) !=(an:Int))=false:=by rw [show en=an from by omega];exact bne_self_eq_false _
 have a5:((bn:Int) !=(an:Int))=false:=by rw [show bn=an from by omega];exact bne_self_eq_false _
 have a6:((cn:Int) !=(an:Int))=false:=by rw [show cn=an from by omega];exact bne_self_eq_false _
 have a7:decide (l.n<0)=false:=decide_eq_false k7
 have a8:decide ((an:Int)<l.n)=false:=decide_eq_false k8
 clear hok
 obtain ⟨N,hN⟩:∃ N:Nat,l.n=(N:Int):=⟨l.n.toNat,Yo⟩
 obtain ⟨j,hj⟩:∃ j:Nat,col=(j:Int):=⟨col.toNat,Yo⟩
 have hNa:N<=an:=Yo
 have hja:j<an:=Yo
 have HN:=Yh2 hN hj
 have LEN:Hid (bn=an/\cn=an/\dn=an/\en=an):=⟨Yo,Yo,Yo,Yo⟩
 obtain ⟨bL,hbL⟩:∃ b,l.hasLo[j]?=some b:=⟨_,List.getElem?_eq_getElem (by rw [HL.p1];omega)⟩
 obtain ⟨gbL,obL,cbL,e,hgbL,cb0L⟩:=HS.p1.at_ hbL
 rw [HL.p1] at e
 injection e with e1 e2 e3
 subst e1
 clear e2 e3 cbL
 obtain ⟨fL,hfL⟩:∃ f,l.lo[j]?=some f:=⟨_,List.getElem?_eq_getElem (by rw [HL.p3];omega)⟩
 obtain ⟨gfL,ofL,cfL,yL,e,hgfL,hFL,y0L,y1L,y2L⟩:=HS.p3.at_ hfL
 rw [HL.p3] at e
 injection e with e1 e2 e3
 subst e1
 clear e2 e3 cfL
 have HXL:Hid (Fv w yL.num fL/\hasX l (j:Int) false=bL/\rhsX l (j:Int) false=fL/\fL.xs.length<=6/\fL.ds.length<=6):=⟨hFL,by unfold hasX;simp [List.getD_eq_getElem?_getD,hbL],by unfold rhsX;simp [List.getD_eq_getElem?_getD,hfL],HS.p5.2.2 fL (.inl (List.mem_of_getElem? hfL))⟩
 clear hbL hfL hFL
 obtain ⟨bH,hbH⟩:∃ b,l.hasHi[j]?=some b:=⟨_,List.getElem?_eq_getElem (by rw [HL.p2];omega)⟩
 obtain ⟨gbH,obH,cbH,e,hgbH,cb0H⟩:=HS.p2.at_ hbH
 rw [HL.p2] at e
 injection e with e1 e2 e3
 subst e1
 clear e2 e3 cbH
 obtain ⟨fH,hfH⟩:∃ f,l.hi[j]?=some f:=⟨_,List.getElem?_eq_getElem (by rw [HL.q4];omega)⟩
 obtain ⟨gfH,ofH,cfH,yH,e,hgfH,hFH,y0H,y1H,y2H⟩:=HS.p4.at_ hfH
 rw [HL.q4] at e
 injection e with e1 e2 e3
 subst e1
 clear e2 e3 cfH
 have HXH:Hid (Fv w yH.num fH/\hasX l (j:Int) true=bH/\rhsX l (j:Int) true=fH/\fH.xs.length<=6/\fH.ds.length<=6):=⟨hFH,by unfold hasX;simp [List.getD_eq_getElem?_getD,hbH],by unfold rhsX;simp [List.getD_eq_getElem?_getD,hfH],HS.p5.2.2 fH (.inr <| .inl (List.mem_of_getElem? hfH))⟩
 clear hbH hfH hFH
 have HCL:Hid (∀ W,Yg w W->W.cell? ⟨gbL,obL+j,none⟩=some (.bool bL)/\W.cell? ⟨gfL,ofL+j*3,none⟩=some (.bool yL.b)/\W.cell? ⟨gfL,ofL+j*3+1,none⟩=some (.slice yL.A yL.l yL.k)/\W.cell? ⟨gfL,ofL+j*3+2,none⟩=some (.slice yL.B yL.m yL.d)):=fun W hb=>⟨(hb.cell (p:=⟨gbL,_,none⟩) hgbL).trans cb0L,(hb.cell (p:=⟨gfL,_,none⟩) hgfL).trans y0L,(hb.cell (p:=⟨gfL,_,none⟩) hgfL).trans y1L,(hb.cell (p:=⟨gfL,_,none⟩) hgfL).trans y2L⟩
 have HCH:Hid (∀ W,Yg w W->W.cell? ⟨gbH,obH+j,none⟩=some (.bool bH)/\W.cell? ⟨gfH,ofH+j*3,none⟩=some (.bool yH.b)/\W.cell? ⟨gfH,ofH+j*3+1,none⟩=some (.slice yH.A yH.l yH.k)/\W.cell? ⟨gfH,ofH+j*3+2,none⟩=some (.slice yH.B yH.m yH.d)):=fun W hb=>⟨(hb.cell (p:=⟨gbH,_,none⟩) hgbH).trans cb0H,(hb.cell (p:=⟨gfH,_,none⟩) hgfH).trans y0H,(hb.cell (p:=⟨gfH,_,none⟩) hgfH).trans y1H,(hb.cell (p:=⟨gfH,_,none⟩) hgfH).trans y2H⟩
 have B0L:=(S0.q2.cell (p:=⟨gbL,_,none⟩) hgbL).trans cb0L
 have Y0L:=(S0.q2.cell (p:=⟨gfL,_,none⟩) hgfL).trans y0L
 have Y1L:=(S0.q2.cell (p:=⟨gfL,_,none⟩) hgfL).trans y1L
 have Y2L:=(S0.q2.cell (p:=⟨gfL,_,none⟩) hgfL).trans y2L
 have B0H:=(S0.q2.cell (p:=⟨gbH,_,none⟩) hgbH).trans cb0H
 have Y0H:=(S0.q2.cell (p:=⟨gfH,_,none⟩) hgfH).trans y0H
 have Y1H:=(S0.q2.cell (p:=⟨gfH,_,none⟩) hgfH).trans y1H
 have Y2H:=(S0.q2.cell (p:=⟨gfH,_,none⟩) hgfH).trans y2H
 clear hgbL hgfL cb0L y0L y1L y2L hgbH hgfH cb0H y0H y1H y2H
 have a9:(j:Int)<(an:Int):=Yo
 have HBND:=Yh2 hNa hja
 rw [hN] at S0 l0 a7 a8 k7 k8
 subst hj
 clear k1 k2 k3 k4 k5 k6 k7 k8
 have hdn:(j:Int)<(dn:Int):=by have:=LEN.out;omega
 have hen:(j:Int)<(en:Int):=by have:=LEN.out;omega
 have hbn:(j:Int)<(bn:Int):=by have:=LEN.out;omega
 have hcn:(j:Int)<(cn:Int):=by have:=LEN.out;omega
 go_upto_region 5 with (fail)
 have hal:=Ya W0 (.cells #[.int .i64 2,.slice none 0 0,.bool yL.b,.slice yL.A yL.l yL.k,.slice yL.B yL.m yL.d] 39)
 obtain ⟨g9,hg9⟩:∃ g,g=W0.heap.size:=⟨_,rfl⟩
 have hg99:w.heap.size<g9/\gR<g9:=by rw [hg9];exact ⟨S0.p0.lt,S0.p1.lt⟩
 have S1:=Yh4 (S0.p0.keep hal) (S0.p1.keep hal) (Bl.new W0 39 [.int .i64 2,.slice none 0 0,.bool yL.b,.slice yL.A yL.l yL.k,.slice yL.B yL.m yL.d]) (Yb S0.q2 hal)
 rw [<- hg9] at S1 ⊢
 generalize W0.alloc _=W1 at S1 ⊢
 clear hal hg9 S0 l0 l1 l2 l3 l4 l5 l6 B0L Y0L Y1L Y2L B0H Y0H Y1H Y2H
 have l0:=Bl.ld S1.p0 0 rfl
 have l1:=Bl.ld S1.p0 1 rfl
 have l2:=Bl.ld S1.p0 2 rfl
 have l3:=Bl.ld S1.p0 3 rfl
 have l4:=Bl.ld S1.p0 4 rfl
 have l5:=Bl.ld S1.p0 5 rfl
 have l6:=Bl.ld S1.p0 6 rfl
 obtain ⟨B0L,Y0L,Y1L,Y2L⟩:=HCL.out _ S1.q3
 go_upto_region 6 with (fail)
 clear B0L Y0L Y1L Y2L l0 l1 l2 l3 l4 l5 l6
 go_cut [74] (fun z wx=>z=.bool up/\W1=wx)
 case first=>
  go_wp2_with fail
  go_meet
  exact ⟨rfl,rfl⟩
 case rest=>
  obtain ⟨rfl,rfl⟩:=hcut
  rename_i hite
  refine hite _ _ ?_
  go_cut [10] (fun z wx=>∃ (s:Int) (y:Rm) (f:Fx) (b:Bool),z=.bool b/\Hid (s=(bif up then 1 else 2))/\Hid (Fv w y.num f/\hasX l (j:Int) up=b/\rhsX l (j:Int) up=f/\f.xs.length<=6/\f.ds.length<=6)/\Hid (Bl wx 26 w.heap.size [.int .i64 (N:Int),.slice aA an ac,.slice (some ⟨gbL,obL,none⟩) bn bc,.slice (some ⟨gbH,obH,none⟩) cn cc,.slice (some ⟨gfL,ofL,none⟩) dn dc,.slice (some ⟨gfH,ofH,none⟩) en ec,.slice fA fn fc]/\Bl wx 39 gR [.int .i64 0,.slice none 0 0,.bool false,.slice none 0 0,.slice none 0 0]/\Bl wx 39 g9 [.int .i64 s,.slice none 0 0,.bool y.b,.slice y.A y.l y.k,.slice y.B y.m y.d]/\Yg w wx))
  case first=>
   cases up with
   | false=>
    go_wp2_with fail
    go_meet
    exact ⟨2,yL,fL,bL,rfl,rfl,HXL.out,S1.out⟩
   | true=>
    go_upto_region 7 with (fail)
    have HSH:Hid (∀ W,Bl W 26 w.heap.size [.int .i64 (N:Int),.slice aA an ac,.slice (some ⟨gbL,obL,none⟩) bn bc,.slice (some ⟨gbH,obH,none⟩) cn cc,.slice (some ⟨gfL,ofL,none⟩) dn dc,.slice (some ⟨gfH,ofH,none⟩) en ec,.slice fA fn fc]->Yg w W->Yc7 W w.heap.size (.int .i64 (N:Int)) (.slice aA an ac) (.slice (some ⟨gbL,obL,none⟩) bn bc) (.slice (some ⟨gbH,obH,none⟩) cn cc) (.slice (some ⟨gfL,ofL,none⟩) dn dc) (.slice (some ⟨gfH,ofH,none⟩) en ec) (.slice fA fn fc) (W.cell? ⟨gbH,obH+j,none⟩=some (.bool bH)/\W.cell? ⟨gfH,ofH+j*3,none⟩=some (.bool yH.b)/\W.cell? ⟨gfH,ofH+j*3+1,none⟩=some (.slice yH.A yH.l yH.k)/\W.cell? ⟨gfH,ofH+j*3+2,none⟩=some (.slice yH.B yH.m yH.d))):=fun W h1 h2=>⟨Bl.ld h1 0 rfl,Bl.ld h1 1 rfl,Bl.ld h1 2 rfl,Bl.ld h1 3 rfl,Bl.ld h1 4 rfl,Bl.ld h1 5 rfl,Bl.ld h1 6 rfl,HCH.out _ h2⟩
    refine wp_region_held_drew (S:=fun W=>Yc7 W w.heap.size (.int .i64 (N:Int)) (.slice aA an ac) (.slice (some ⟨gbL,obL,none⟩) bn bc) (.slice (some ⟨gbH,obH,none⟩) cn cc) (.slice (some ⟨gfL,ofL,none⟩) dn dc) (.slice (some ⟨gfH,ofH,none⟩) en ec) (.slice fA fn fc) (W.cell? ⟨gbH,obH+j,none⟩=some (.bool bH)/\W.cell? ⟨gfH,ofH+j*3,none⟩=some (.bool yH.b)/\W.cell? ⟨gfH,ofH+j*3+1,none⟩=some (.slice yH.A yH.l yH.k)/\W.cell? ⟨gfH,ofH+j*3+2,none⟩=some (.slice yH.B yH.m yH.d))) (by kernel_rfl) (HSH.out _ (S1.p0.keep (below_d _)) (Yb S1.q3 (below_d _))) (fun Hh=>?_)
    have T0:=Yh4 (S1.p0.keep (below_d _)) (S1.p1.keep (below_d _)) (S1.p2.keep (below_d _)) (Yb S1.q3 (below_d _))
    clear S1
    refine rgRun 11 [0,1,2,3,4,5,6,7,8,9,10] Hh fun K hK=>?_
    repeat refine rgA ?_
    refine hK _ _ ?_;clear hK K
    generalize W1.drew=Wd at T0 Hh ⊢
    have f0:=Bl.fr T0.p2 0
    have r0:=Bl.ld T0.p2 0 rfl
    refine rgO 11 fun K hK=>?_
    go_simp
    clear f0 r0
    have T1:Hid (Bl (Wd.setCell ⟨g9,0,none⟩ (.int .i64 1)) 26 w.heap.size [.int .i64 (N:Int),.slice aA an ac,.slice (some ⟨gbL,obL,none⟩) bn bc,.slice (some ⟨gbH,obH,none⟩) cn cc,.slice (some ⟨gfL,ofL,none⟩) dn dc,.slice (some ⟨gfH,ofH,none⟩) en ec,.slice fA fn fc]/\Bl (Wd.setCell ⟨g9,0,none⟩ (.int .i64 1)) 39 gR [.int .i64 0,.slice none 0 0,.bool false,.slice none 0 0,.slice none 0 0]/\Bl (Wd.setCell ⟨g9,0,none⟩ (.int .i64 1)) 39 g9 [.int .i64 1,.slice none 0 0,.bool yL.b,.slice yL.A yL.l yL.k,.slice yL.B yL.m yL.d]/\Yg w (Wd.setCell ⟨g9,0,none⟩ (.int .i64 1))):=⟨T0.p0.other (p:=⟨g9,0,none⟩) (Nat.ne_of_gt hg99.1) _,T0.p1.other (p:=⟨g9,0,none⟩) (Nat.ne_of_gt hg99.2) _,T0.p2.set 0 _,T0.q3.setCell (p:=⟨g9,0,none⟩) (Nat.le_of_lt hg99.1) _⟩
    refine rgK hK (HSH.out _ T1.p0 T1.q3) fun Hh=>?_;clear hK K
    generalize Wd.setCell ⟨g9,0,none⟩ (.int .i64 1)=Wf at T1 Hh ⊢
    clear T0
    refine rgT 12 Hh ?_
    have f2:=Bl.fr T1.p2 2
    have r2:=Bl.ld T1.p2 2 rfl
    have f3:=Bl.fr T1.p2 3
    have r3:=Bl.ld T1.p2 3 rfl
    have f4:=Bl.fr T1.p2 4
    have r4:=Bl.ld T1.p2 4 rfl
    refine rgO 13 fun K hK=>?_
    go_simp
    clear f2 f3 f4 r2 r3 r4
    have T2:Hid (Bl (((Wf.setCell ⟨g9,2,none⟩ (.bool yH.b)).setCell ⟨g9,3,none⟩ (.slice yH.A yH.l yH.k)).setCell ⟨g9,4,none⟩ (.slice yH.B yH.m yH.d)) 26 w.heap.size [.int .i64 (N:Int),.slice aA an ac,.slice (some ⟨gbL,obL,none⟩) bn bc,.slice (some ⟨gbH,obH,none⟩) cn cc,.slice (some ⟨gfL,ofL,none⟩) dn dc,.slice (some ⟨gfH,ofH,none⟩) en ec,.slice fA fn fc]/\Bl (((Wf.setCell ⟨g9,2,none⟩ (.bool yH.b)).setCell ⟨g9,3,none⟩ (.slice yH.A yH.l yH.k)).setCell ⟨g9,4,none⟩ (.slice yH.B yH.m yH.d)) 39 gR [.int .i64 0,.slice none 0 0,.bool false,.slice none 0 0,.slice none 0 0]/\Bl (((Wf.setCell ⟨g9,2,none⟩ (.bool yH.b)).setCell ⟨g9,3,none⟩ (.slice yH.A yH.l yH.k)).setCell ⟨g9,4,none⟩ (.slice yH.B yH.m yH.d)) 39 g9 [.int .i64 1,.slice none 0 0,.bool yH.b,.slice yH.A yH.l yH.k,.slice yH.B yH.m yH.d]/\Yg w (((Wf.setCell ⟨g9,2,none⟩ (.bool yH.b)).setCell ⟨g9,3,none⟩ (.slice yH.A yH.l yH.k)).setCell ⟨g9,4,none⟩ (.slice yH.B yH.m yH.d))):=⟨(((T1.p0).other (p:=⟨g9,2,none⟩) (Nat.ne_of_gt hg99.1) _).other (p:=⟨g9,3,none⟩) (Nat.ne_of_gt hg99.1) _).other (p:=⟨g9,4,none⟩) (Nat.ne_of_gt hg99.1) _,(((T1.p1).other (p:=⟨g9,2,none⟩) (Nat.ne_of_gt hg99.2) _).other (p:=⟨g9,3,none⟩) (Nat.ne_of_gt hg99.2) _).other (p:=⟨g9,4,none⟩) (Nat.ne_of_gt hg99.2) _,((T1.p2.set 2 _).set 3 _).set 4 _,((T1.q3.setCell (p:=⟨g9,2,none⟩) (Nat.le_of_lt hg99.1) _).setCell (p:=⟨g9,3,none⟩) (Nat.le_of_lt hg99.1) _).setCell (p:=⟨g9,4,none⟩) (Nat.le_of_lt hg99.1) _⟩
    refine rgK hK (HSH.out _ T2.p0 T2.q3) fun Hh=>?_;clear hK K
    generalize ((Wf.setCell ⟨g9,2,none⟩ (.bool yH.b)).setCell ⟨g9,3,none⟩ (.slice yH.A yH.l yH.k)).setCell ⟨g9,4,none⟩ (.slice yH.B yH.m yH.d)=Wg at T2 Hh ⊢
    clear T1
    refine rgT 14 Hh ?_
    refine Yw ?_
    clear Hh
    go_wp2_with fail
    go_meet
    exact ⟨1,yH,fH,bH,rfl,rfl,HXH.out,T2.out⟩
  case rest=>
   obtain ⟨s,y,f,bM,rfl,HSV,HX,HQ⟩:=hcut
   generalize wc=W2 at HQ ⊢
   have S2_:=HQ
   clear S1 HXL HXH HCL HCH HQ
   cases bM with
   | false=>
    have hE:tellX (boundX l (j:Int) up)=(Cx.no,2):=bound_none fun hh=>by have h:=hh.2;rw [HX.p1] at h;cases h
    have HE:=Lib.hid hE
    clear hE
    have f0:=Bl.fr S2_.p1 0
    have f1:=Bl.fr S2_.p1 1
    have f2:=Bl.fr S2_.p1 2
    have f3:=Bl.fr S2_.p1 3
    have f4:=Bl.fr S2_.p1 4
    have r0:=Bl.ld S2_.p1 0 rfl
    have r1:=Bl.ld S2_.p1 1 rfl
    have r2:=Bl.ld S2_.p1 2 rfl
    have r3:=Bl.ld S2_.p1 3 rfl
    have r4:=Bl.ld S2_.p1 4 rfl
    go_wp2_with fail
    clear f0 r0 f1 r1 f2 r2 f3 r3 f4 r4
    try simp only [Exit.inBlock,Exit.then]
    refine ret_bl (S2_.p1.set5 rfl _ _ _ _ _) (fun W hW=>by have d0:=hW 0 _ rfl;have d1:=hW 1 _ rfl;have d2:=hW 2 _ rfl;have d3:=hW 3 _ rfl;have d4:=hW 4 _ rfl;simp [results,Tryz.results18,go_sem,d0,d1,d2,d3,d4];try rfl) rfl ?_
    rw [HE.out]
    exact ⟨_,rfl,Cw.no _ _ (below5 S2_.q3 (Nat.le_of_lt hgl) _ _ _ _ _)⟩
   | true=>
    have hE:tellX (boundX l (j:Int) up)=(cB l (j:Int) up,0):=bound_ok HOK.out HX.p1
    have HE:=Lib.hid hE
    clear hE
    have l0:=Bl.ld S2_.p0 0 rfl
    by_cases hlt:j<N
    · skip
      have d0:(j:Int)<(N:Int):=Yo
      have hrow:mkV (qT [((j:Int),fq 1)])=mkV (rowT l (j:Int)):=by
       have e:qT [((j:Int),fq 1)]=[((j:Int),(1:Rat))]:=by unfold qT;simp only [List.map_cons,List.map_nil];rw [fq_q]
       rw [e];unfold rowT;rw [if_pos (by rw [HN.p0];omega)]
      have HROW:=Lib.hid hrow
      clear hrow
      go_wp2_with fail
      refine (whole_v (z:=1) sm_one).mono ?_;rintro e w2 ⟨u2,rfl,h2⟩
      have hf2:=h2.fw
      obtain ⟨A2,l2,k2,B2,m2,d2,rfl⟩:=hf2.fv.parts
      obtain ⟨b2,hb2⟩:∃ b,b=(fq ((1:Int):Rat)).b:=⟨_,rfl⟩
      rw [<- hb2] at hf2 ⊢
      have hb:=hf2.below
      have S2:=Yh5 (S2_.p0.keep hb) (S2_.p1.keep hb) (S2_.p2.keep hb) (Yb S2_.q3 hb) (hf2.from S2_.q3)
      have f2:=Bl.fr S2.p2 1
      have r2:=Bl.ld S2.p2 1 rfl
      have f1:=Bl.fr (S2.p2.keep (Ya w2 (.cells #[.int .i64 (j:Int),.bool b2,.slice A2 l2 k2,.slice B2 m2 d2] 85))) 1
      have r1:=Bl.ld (S2.p2.keep (Ya w2 (.cells #[.int .i64 (j:Int),.bool b2,.slice A2 l2 k2,.slice B2 m2 d2] 85))) 1 rfl
      have r3:g9<w2.heap.size:=S2.p2.lt
      clear h2 hf2 hb hb2 S2_
      go_upto_region 12 with (fail)
      clear f1 r1 f2 r2 r3 d0 l0
      obtain ⟨gn,hgn⟩:∃ g,g=w2.heap.size:=⟨_,rfl⟩
      rw [<- hgn]
      have hsz:(w2.setCell ⟨g9,1,none⟩ (.slice (some ⟨gn,0,none⟩) 1 1)).heap.size=gn:=by rw [hgn];exact Array.size_modify ..
      have hbq:Yg w (w2.setCell ⟨g9,1,none⟩ (.slice (some ⟨gn,0,none⟩) 1 1)):=S2.p3.setCell (p:=⟨g9,1,none⟩) (Nat.le_of_lt hg99.1) _
      have hal:=Ya (w2.setCell ⟨g9,1,none⟩ (.slice (some ⟨gn,0,none⟩) 1 1)) (.cells #[.int .i64 (j:Int),.bool b2,.slice A2 l2 k2,.slice B2 m2 d2] 85)
      have hbl:Bl ((w2.setCell ⟨g9,1,none⟩ (.slice (some ⟨gn,0,none⟩) 1 1)).alloc (.cells #[.int .i64 (j:Int),.bool b2,.slice A2 l2 k2,.slice B2 m2 d2] 85)) 85 gn [.int .i64 (j:Int),.bool b2,.slice A2 l2 k2,.slice B2 m2 d2]:=by have h:=Bl.new (w2.setCell ⟨g9,1,none⟩ (.slice (some ⟨gn,0,none⟩) 1 1)) 85 [.int .i64 (j:Int),.bool b2,.slice A2 l2 k2,.slice B2 m2 d2];rw [hsz] at h;exact h
      have S5:Hid (Bl ((w2.setCell ⟨g9,1,none⟩ (.slice (some ⟨gn,0,none⟩) 1 1)).alloc (.cells #[.int .i64 (j:Int),.bool b2,.slice A2 l2 k2,.slice B2 m2 d2] 85)) 26 w.heap.size [.int .i64 (N:Int),.slice aA an ac,.slice (some ⟨gbL,obL,none⟩) bn bc,.slice (some ⟨gbH,obH,none⟩) cn cc,.slice (some ⟨gfL,ofL,none⟩) dn dc,.slice (some ⟨gfH,ofH,none⟩) en ec,.slice fA fn fc]/\Bl ((w2.setCell ⟨g9,1,none⟩ (.slice (some ⟨gn,0,none⟩) 1 1)).alloc (.cells #[.int .i64 (j:Int),.bool b2,.slice A2 l2 k2,.slice B2 m2 d2] 85)) 39 gR [.int .i64 0,.slice none 0 0,.bool false,.slice none 0 0,.slice none 0 0]/\Bl ((w2.setCell ⟨g9,1,none⟩ (.slice (some ⟨gn,0,none⟩) 1 1)).alloc (.cells #[.int .i64 (j:Int),.bool b2,.slice A2 l2 k2,.slice B2 m2 d2] 85)) 39 g9 [.int .i64 s,.slice (some ⟨gn,0,none⟩) 1 1,.bool y.b,.slice y.A y.l y.k,.slice y.B y.m y.d]/\Yg w ((w2.setCell ⟨g9,1,none⟩ (.slice (some ⟨gn,0,none⟩) 1 1)).alloc (.cells #[.int .i64 (j:Int),.bool b2,.slice A2 l2 k2,.slice B2 m2 d2] 85))/\Tx ((w2.setCell ⟨g9,1,none⟩ (.slice (some ⟨gn,0,none⟩) 1 1)).alloc (.cells #[.int .i64 (j:Int),.bool b2,.slice A2 l2 k2,.slice B2 m2 d2] 85)) (.slice (some ⟨gn,0,none⟩) 1 1) [((j:Int),fq 1)]):=⟨(S2.p0.other (p:=⟨g9,1,none⟩) (Nat.ne_of_gt hg99.1) _).keep hal,(S2.p1.other (p:=⟨g9,1,none⟩) (Nat.ne_of_gt hg99.2) _).keep hal,(S2.p2.set 1 _).keep hal,Yb hbq hal,Tx.one hbl (((S2.q4.keepT (S2.p2.keepT1 Yd 1 _) hbq).keep hal).fv)⟩
      generalize (w2.setCell ⟨g9,1,none⟩ (.slice (some ⟨gn,0,none⟩) 1 1)).alloc _=W5 at S5 ⊢
      clear S2 hgn hsz hbq hal hbl
      have s0:=Bl.ld S5.p2 0 rfl
      have s1:=Bl.ld S5.p2 1 rfl
      have s2:=Bl.ld S5.p2 2 rfl
      have s3:=Bl.ld S5.p2 3 rfl
      have s4:=Bl.ld S5.p2 4 rfl
      go_wp2_with fail
      refine (form_c (L:=211) (J:=0) (c:=⟨s,[((j:Int),fq 1)],f⟩) ⟨⟨s,some ⟨gn,0,none⟩,1,1,y.b,y.A,y.l,y.k,y.B,y.m,y.d⟩,rfl,rfl,S5.q4,HX.p0.keep S5.p3⟩ Yd Yd (by simp) (fun t ht=>by rw [List.mem_singleton.1 ht];exact ⟨Nat.le_trans (fq_len sz_one).1 Yd,Nat.le_trans (fq_len sz_one).2 Yd⟩) ⟨Nat.le_trans HX.p3 Yd,Nat.le_trans HX.q4 Yd⟩).mono ?_;rintro e wz ⟨uz,rfl,hz⟩
      obtain ⟨⟨sz,Ez,nz,cz,bz,Az,lz,kz,Bz,mz,dz⟩,rfl,hsz,htz,hrz⟩:=hz
      have hb:=htz.below
      have hcB:(⟨s,fqT (mkV (qT ([((j:Int),fq 1)]))),fq f.q⟩:Cx)=cB l (j:Int) up:=by unfold cB;rw [HX.p2,HROW.out,HSV.out]
      have hsz:s=sz:=hsz.symm
      subst hsz
      have Z:Hid (Bl wz 39 gR [.int .i64 0,.slice none 0 0,.bool false,.slice none 0 0,.slice none 0 0]/\Cw w wz (.agg #[.int .i64 s,.slice Ez nz cz,.bool bz,.slice Az lz kz,.slice Bz mz dz]) (cB l (j:Int) up)):=⟨S5.p1.keep hb,by rw [<- hcB];exact ⟨⟨s,Ez,nz,cz,bz,Az,lz,kz,Bz,mz,dz⟩,rfl,rfl,htz.from S5.p3,hrz.from S5.p3⟩⟩
      clear htz hrz hb hcB s0 s1 s2 s3 s4
      have f0:=Bl.fr Z.p0 0
      have f1:=Bl.fr Z.p0 1
      have f2:=Bl.fr Z.p0 2
      have f3:=Bl.fr Z.p0 3
      have f4:=Bl.fr Z.p0 4
      have r0:=Bl.ld Z.p0 0 rfl
      have r1:=Bl.ld Z.p0 1 rfl
      have r2:=Bl.ld Z.p0 2 rfl
      have r3:=Bl.ld Z.p0 3 rfl
      have r4:=Bl.ld Z.p0 4 rfl
      simp only [Cm.agg]
      go_wp2_with fail
      clear f0 r0 f1 r1 f2 r2 f3 r3 f4 r4
      try simp only [Exit.inBlock,Exit.then]
      refine ret_bl (Z.p0.set5 rfl _ _ _ _ _) (fun W hW=>by have d0:=hW 0 _ rfl;have d1:=hW 1 _ rfl;have d2:=hW 2 _ rfl;have d3:=hW 3 _ rfl;have d4:=hW 4 _ rfl;simp [results,Tryz.results18,go_sem,d0,d1,d2,d3,d4];try rfl) rfl ?_
      rw [HE.out]
      exact ⟨_,rfl,Z.q1.keepT (Z.p0.keep5 Yd _ _ _ _ _) (Z.p0.keep5 Yd _ _ _ _ _) (below5 Z.q1.below (Nat.le_of_lt hgl) _ _ _ _ _)⟩
    have d0:¬ (j:Int)<(N:Int):=hlt ∘ Int.ofNat_lt.1
    have hcl:¬ (j:Int)<l.n:=by rw [HN.p0];exact d0
    have HCL2:Hid (l.n<=(j:Int)):=Int.not_lt.1 hcl
    have l1:=Bl.ld S2_.p0 1 rfl
    have hNc:N<=ac:=by have:=HS.q7;have:=HL.out;have:=HBND.out;omega
    have hrow:mkV (qT (fqT (rowT l (j:Int))))=mkV (rowT l (j:Int)):=by rw [qT_fq]
    have HROW:=Lib.hid hrow
    clear hrow hcl
    go_wp2_with fail
    clear l0 l1 d0 hNc
    go_loopw [107] (fun z wr=>∃ (k:Nat) (E:Option Addr) (n1 c1:Nat),z=.int .i64 (k:Int)/\k<=N/\Hid (Bl wr 26 w.heap.size [.int .i64 (N:Int),.slice aA an ac,.slice (some ⟨gbL,obL,none⟩) bn bc,.slice (some ⟨gbH,obH,none⟩) cn cc,.slice (some ⟨gfL,ofL,none⟩) dn dc,.slice (some ⟨gfH,ofH,none⟩) en ec,.slice fA fn fc]/\Bl wr 39 gR [.int .i64 0,.slice none 0 0,.bool false,.slice none 0 0,.slice none 0 0]/\Bl wr 39 g9 [.int .i64 s,.slice E n1 c1,.bool y.b,.slice y.A y.l y.k,.slice y.B y.m y.d]/\Tw w wr (.slice E n1 c1) (fqT ((rowT l (j:Int)).take k)))) (fun z _=>N - (intOf z).toNat)
    case atStart=>exact ⟨0,none,0,0,rfl,Nat.zero_le _,S2_.p0,S2_.p1,S2_.p2,Tw.nil S2_.q3⟩
    case round=>
     clear S2_
     obtain ⟨k,E,n1,c1,rfl,hk,H⟩:=hrel
     by_cases hkN:k<N
     · skip
       obtain ⟨c,hc⟩:∃ c,l.cols[k]?=some c:=⟨_,List.getElem?_eq_getElem (by rw [HL.p0];have:=HBND.out;omega)⟩
       obtain ⟨gc,oc,capc,x,e,hgc,hTx,c0⟩:=HS.p0.at_ hc
       injection e with e1 e2 e3
       subst e1
       clear e2 e3 capc
       have hfc:=fit_cols HS.p5 hc
       have hnx:=rowT_take (l:=l) (col:=(j:Int)) (k:=k) (by rw [HN.p0];omega) (Int.not_lt.2 HCL2.out) hc
       rw [HN.p0] at hnx
       have hlen:(fqT ((rowT l (j:Int)).take k)).length<=1048576:=by unfold fqT;rw [List.length_map,List.length_take];have:=HBND.out;omega
       have HY:=Yh4 hTx hfc hnx hlen
       have z0:=(H.q3.below.cell (p:=⟨gc,_,none⟩) hgc).trans c0
       have dk:(k:Int)<(N:Int):=Yo
       have hsub:IntKind.i64.wrap ((j:Int) - (N:Int))=(j:Int) - (N:Int):=by rw [IntKind.wrap_i64];have:=HBND.out;omega
       clear hc hgc hTx hfc hnx hlen c0
       go_upto_region 16 with (fail)
       clear z0 dk
       have T0:=Yh4 (H.p0.keep (below_d _)) (H.p1.keep (below_d _)) (H.p2.keep (below_d _)) (H.q3.keep (below_d _))
       refine wp_region_late 13 (by kernel_rfl) (by kernel_rfl) (Yl 14 8192).toArray (by kernel_rfl) (S:=fun W=>W.cell? ⟨g9,1,none⟩=some (.slice E n1 c1)/\W.cell? ⟨w.heap.size,0,none⟩=some (.int .i64 (N:Int))) ⟨Bl.ld T0.p2 1 rfl,Bl.ld T0.p0 0 rfl⟩ (fun Hh=>?_)
       clear H
       refine rgRun 8 [0,1,2,3,4,5,6,7] Hh fun K hK=>?_
       repeat refine rgA ?_
       refine hK _ _ ?_;clear hK K
       generalize wr.drew=Wd at T0 Hh ⊢
       refine rgO 8 fun K hK=>?_
       go_simp
       go_at_call 71;refine (get_v (L:=6) (col:=(j:Int) - (N:Int)) ((HY.p0.keep T0.q3.below).vt HY.p1.2) Yd Yd (by unfold qT;rw [List.length_map];exact Nat.le_trans HY.p1.1 Yd)).mono ?_;rintro e w4 ⟨u4,rfl,h4⟩
       have hf4:=h4.fw
       have hb:=hf4.below
       obtain ⟨A4,l4,k4,B4,m4,d4,rfl⟩:=hf4.fv.parts
       obtain ⟨b4,hb4⟩:∃ b,b=(fq (getV (qT c) ((j:Int) - (N:Int)))).b:=⟨_,rfl⟩
       rw [<- hb4] at hf4 ⊢
       have T1:=Yh5 (T0.p0.keep hb) (T0.p1.keep hb) (T0.p2.keep hb) (T0.q3.keep hb) (hf4.from T0.q3.below)
       clear h4 hf4 hb4 hb Hh T0
       go_wp2_with fail
       refine rgK hK ⟨Bl.ld T1.p2 1 rfl,Bl.ld T1.p0 0 rfl⟩ fun Hh=>?_;clear hK K
       refine rgT 9 Hh ?_
       refine rgO 10 fun K hK=>?_
       go_simp
       have hal:=Ya w4 (.cells #[.int .i64 (k:Int),.bool b4,.slice A4 l4 k4,.slice B4 m4 d4] 85)
       have T2:=Yh6 (T1.p0.keep hal) (T1.p1.keep hal) (T1.p2.keep hal) (T1.p3.keep hal) (T1.q4.keep hal) (Bl.new w4 85 [.int .i64 (k:Int),.bool b4,.slice A4 l4 k4,.slice B4 m4 d4])
       refine rgK hK ⟨Bl.ld T2.p2 1 rfl,Bl.ld T2.p0 0 rfl⟩ fun Hh=>?_;clear hK K
       clear T1 hal
       obtain ⟨gn,hgn⟩:∃ k,w4.heap.size=k:=⟨_,rfl⟩
       rw [hgn] at T2 ⊢
       generalize w4.alloc _=W5 at T2 Hh ⊢
       clear hgn
       refine rgO 11 fun K hK=>?_
       rw [if_pos (by rfl)]
       refine app_t (t:=((k:Int),fq (getV (qT c) ((j:Int) - (N:Int))))) (.tmp 113) (.tmp 122) rfl (x:=⟨(k:Int),b4,A4,l4,k4,B4,m4,d4,getV (qT c) ((j:Int) - (N:Int))⟩) rfl rfl T2.p3 rfl (fq_q _).symm T2.p4 T2.q5 HY.q3 ?_
       intro u6 w6 q1 q2 q3
       obtain ⟨E6,c6,rfl⟩:=q1.shape
       obtain ⟨n6,hn6⟩:∃ n,n=(fqT ((rowT l (j:Int)).take k)++[((k:Int),fq (getV (qT c) ((j:Int) - (N:Int))))]).length:=⟨_,rfl⟩
       rw [<- hn6] at q1 ⊢
       have T3:Hid (Bl w6 26 w.heap.size [.int .i64 (N:Int),.slice (some ⟨gc,oc,none⟩) an ac,.slice (some ⟨gbL,obL,none⟩) bn bc,.slice (some ⟨gbH,obH,none⟩) cn cc,.slice (some ⟨gfL,ofL,none⟩) dn dc,.slice (some ⟨gfH,ofH,none⟩) en ec,.slice fA fn fc]/\Bl w6 39 gR [.int .i64 0,.slice none 0 0,.bool false,.slice none 0 0,.slice none 0 0]/\Bl w6 39 g9 [.int .i64 s,.slice E n1 c1,.bool y.b,.slice y.A y.l y.k,.slice y.B y.m y.d]/\Tw w w6 (.slice E6 n6 c6) (fqT ((rowT l (j:Int)).take (k+1)))):=⟨(q2 _ Yd).bl T2.p0,(q2 _ Yd).bl T2.p1,(q2 _ Yd).bl T2.p2,by rw [HY.p2,I.fqT_app];exact q1⟩
       clear q1 q2 q3 hn6
       refine rgK hK ⟨Bl.ld T3.p2 1 rfl,Bl.ld T3.p0 0 rfl⟩ fun Hh=>?_;clear hK K
       clear T2
       refine rgT 12 Hh ?_
       refine Yw ?_
       clear Hh
       refine late_go (T:=fun _=>True) (Yl 14 8191).toArray 1 (by kernel_rfl) (by kernel_rfl) ?_
       have f1:=Bl.fr T3.p2 1
       have r1:=Bl.ld T3.p2 1 rfl
       refine rgO 13 fun K hK=>?_
       go_simp
       refine rgK hK trivial fun _=>?_;clear hK K
       refine Yw ?_
       clear f1 r1
       have K2:Hid (Bl (w6.setCell ⟨g9,1,none⟩ (.slice E6 n6 c6)) 26 w.heap.size [.int .i64 (N:Int),.slice (some ⟨gc,oc,none⟩) an ac,.slice (some ⟨gbL,obL,none⟩) bn bc,.slice (some ⟨gbH,obH,none⟩) cn cc,.slice (some ⟨gfL,ofL,none⟩) dn dc,.slice (some ⟨gfH,ofH,none⟩) en ec,.slice fA fn fc]/\Bl (w6.setCell ⟨g9,1,none⟩ (.slice E6 n6 c6)) 39 gR [.int .i64 0,.slice none 0 0,.bool false,.slice none 0 0,.slice none 0 0]/\Bl (w6.setCell ⟨g9,1,none⟩ (.slice E6 n6 c6)) 39 g9 [.int .i64 s,.slice E6 n6 c6,.bool y.b,.slice y.A y.l y.k,.slice y.B y.m y.d]/\Tw w (w6.setCell ⟨g9,1,none⟩ (.slice E6 n6 c6)) (.slice E6 n6 c6) (fqT ((rowT l (j:Int)).take (k+1)))):=⟨T3.p0.other (p:=⟨g9,1,none⟩) (Nat.ne_of_gt hg99.1) _,T3.p1.other (p:=⟨g9,1,none⟩) (Nat.ne_of_gt hg99.2) _,T3.p2.set 1 _,T3.q3.keepT (T3.p2.keepT1 Yd 1 _) (T3.p2.keepT1 Yd 1 _) (T3.q3.below.setCell (p:=⟨g9,1,none⟩) (Nat.le_of_lt hg99.1) _)⟩
       clear T3 hsub
       go_wp2_with fail
       case roundEnd=>exact ⟨⟨k+1,E6,n6,c6,by go_num,Yo,K2.out⟩,by simp [intOf];omega⟩
     obtain rfl:k=N:=by omega
     have dk:¬ (k:Int)<(k:Int):=Yo
     have S5:Hid (Bl wr 26 w.heap.size [.int .i64 (k:Int),.slice aA an ac,.slice (some ⟨gbL,obL,none⟩) bn bc,.slice (some ⟨gbH,obH,none⟩) cn cc,.slice (some ⟨gfL,ofL,none⟩) dn dc,.slice (some ⟨gfH,ofH,none⟩) en ec,.slice fA fn fc]/\Bl wr 39 gR [.int .i64 0,.slice none 0 0,.bool false,.slice none 0 0,.slice none 0 0]/\Bl wr 39 g9 [.int .i64 s,.slice E n1 c1,.bool y.b,.slice y.A y.l y.k,.slice y.B y.m y.d]/\Yg w wr/\Tx wr (.slice E n1 c1) (fqT (rowT l (j:Int)))):=by
      have h:=H.q3
      rw [rowT_all HN.p0 (Int.not_lt.2 HCL2.out)] at h
      exact ⟨H.p0,H.p1,H.p2,h.below,h.tx⟩
     clear H
     have hw:∀ t∈fqT (rowT l (j:Int)),t.2.xs.length<=211/\t.2.ds.length<=211:=szT_fq (rowT_sz (L:=6) (M:=30) fun c hc=>⟨(HS.p5.2.1 c hc).1,fun t ht=>HS.p6.1 c hc t ht⟩)
     have hlen:(fqT (rowT l (j:Int))).length<=4096:=by unfold fqT;rw [List.length_map];exact Nat.le_trans (rowT_len (m:=14) (by rw [HN.p0];have:=HBND.out;omega) Yd) Yd
     have HW:=Yh2 hw hlen
     clear hw hlen
     have s0:=Bl.ld S5.p2 0 rfl
     have s1:=Bl.ld S5.p2 1 rfl
     have s2:=Bl.ld S5.p2 2 rfl
     have s3:=Bl.ld S5.p2 3 rfl
     have s4:=Bl.ld S5.p2 4 rfl
     go_wp2_with fail
     refine (form_c (L:=211) (J:=0) (c:=⟨s,fqT (rowT l (j:Int)),f⟩) ⟨⟨s,E,n1,c1,y.b,y.A,y.l,y.k,y.B,y.m,y.d⟩,rfl,rfl,S5.q4,HX.p0.keep S5.p3⟩ Yd Yd HW.q1 HW.p0 ⟨Nat.le_trans HX.p3 Yd,Nat.le_trans HX.q4 Yd⟩).mono ?_;rintro e wz ⟨uz,rfl,hz⟩
     obtain ⟨⟨sz,Ez,nz,cz,bz,Az,lz,kz,Bz,mz,dz⟩,rfl,hsz,htz,hrz⟩:=hz
     have hb:=htz.below
     have hcB:(⟨s,fqT (mkV (qT (fqT (rowT l (j:Int))))),fq f.q⟩:Cx)=cB l (j:Int) up:=by unfold cB;rw [HX.p2,HROW.out,HSV.out]
     have hsz:s=sz:=hsz.symm
     subst hsz
     have Z:Hid (Bl wz 39 gR [.int .i64 0,.slice none 0 0,.bool false,.slice none 0 0,.slice none 0 0]/\Cw w wz (.agg #[.int .i64 s,.slice Ez nz cz,.bool bz,.slice Az lz kz,.slice Bz mz dz]) (cB l (j:Int) up)):=⟨S5.p1.keep hb,by rw [<- hcB];exact ⟨⟨s,Ez,nz,cz,bz,Az,lz,kz,Bz,mz,dz⟩,rfl,rfl,htz.from S5.p3,hrz.from S5.p3⟩⟩
     clear htz hrz hb hcB s0 s1 s2 s3 s4
     have f0:=Bl.fr Z.p0 0
     have f1:=Bl.fr Z.p0 1
     have f2:=Bl.fr Z.p0 2
     have f3:=Bl.fr Z.p0 3
     have f4:=Bl.fr Z.p0 4
     have r0:=Bl.ld Z.p0 0 rfl
     have r1:=Bl.ld Z.p0 1 rfl
     have r2:=Bl.ld Z.p0 2 rfl
     have r3:=Bl.ld Z.p0 3 rfl
     have r4:=Bl.ld Z.p0 4 rfl
     simp only [Cm.agg]
     go_wp2_with fail
     clear f0 r0 f1 r1 f2 r2 f3 r3 f4 r4
     try simp only [Exit.inBlock,Exit.then]
     refine ret_bl (Z.p0.set5 rfl _ _ _ _ _) (fun W hW=>by have d0:=hW 0 _ rfl;have d1:=hW 1 _ rfl;have d2:=hW 2 _ rfl;have d3:=hW 3 _ rfl;have d4:=hW 4 _ rfl;simp [results,Tryz.results18,go_sem,d0,d1,d2,d3,d4];try rfl) rfl ?_
     rw [HE.out]
     exact ⟨_,rfl,Z.q1.keepT (Z.p0.keep5 Yd _ _ _ _ _) (Z.p0.keep5 Yd _ _ _ _ _) (below5 Z.q1.below (Nat.le_of_lt hgl) _ _ _ _ _)⟩
theorem bound_c {w:World} {v:Value} {l:LPx} {col:Int} {up:Bool} (h:LPv w v l) (hf:Fit l):
 Calls Tryz.prog 18 #[v,.int .i64 col,.bool up] w fun e w'=>∃ r,e=.returned (.tuple #[r,.int .i64 (tellX (boundX l col up)).2])/\Cw w w' r (tellX (boundX l col up)).1:=by
 by_cases hok:okB l col
 · exact bound_go h hf hok
 · exact bound_bad h hf hok
end
end
end Go.Proofs.YtclaiidoomdklaaGreat
