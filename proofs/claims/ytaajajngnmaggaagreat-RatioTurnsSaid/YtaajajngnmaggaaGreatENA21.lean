import Derived.Test.YtaajajngnmaggaaGreatENA20
set_option maxRecDepth 100000
set_option maxHeartbeats 8000000
set_option linter.unusedVariables false
set_option linter.unusedSimpArgs false
namespace Go.Proofs.YtaajajngnmaggaaGreat
section
section
open Go Go.RowKit Go.Proofs Pl
def RQ (w0 w:World) (v:Value) (q:Rat):Prop:=Qv w0 6 v q∨Qr w0 w v q
theorem RQ.keepT {w0 w w':World} {v:Value} {q:Rat} (h:RQ w0 w v q) (k:KeepT 125 w w') (hb:Below w0.heap.size w0 w'):RQ w0 w' v q:=h.imp id fun h=>h.keepT k hb
theorem RQ.qv {w0 w:World} {L:Nat} {v:Value} {q:Rat} (h:RQ w0 w v q) (hb:Below w0.heap.size w0 w) (hs:Sz L q) (hL:6<=L):Qv w L v q:=by
 rcases h with h | h
 · exact (h.keep hb).mono hL
 · exact h.qv hs
theorem candK_mem {may:Nat->Bool} {q:Nat->Rat}:∀ {k:Nat} {c:Int × Rat},c∈candK may q k->∃ j:Nat,j<k/\c.1=(j:Int)
 | 0,c,h=>by cases h
 | k+1,c,h=>by
  unfold candK at h
  split at h
  · rcases List.mem_append.1 h with h | h
    · obtain ⟨j,hj,e⟩:=candK_mem h;exact ⟨j,Yo,e⟩
    · rw [List.mem_singleton.1 h];exact ⟨k,Yo,rfl⟩
  · obtain ⟨j,hj,e⟩:=candK_mem h;exact ⟨j,Yo,e⟩
theorem go_next {f:Bool} {h:Int->Bool} {st:Int->Rat} {L:List (Int × Rat)} {k:Nat} {c:Int × Rat} {s:Rat} {fl:List Int} (hc:L[k]?=some c):
 goEnter f h st (L.drop k) s fl=if (!f || !h c.1)=true then (c.1,fl,true) else if sgnQ (s - st c.1)<=0 then (c.1,fl,true) else goEnter f h st (L.drop (k+1)) (s - st c.1) (fl++[c.1]):=by
 obtain ⟨hl,e⟩:=List.getElem?_eq_some_iff.1 hc
 rw [List.drop_eq_getElem_cons hl,e]
 rfl
theorem CandR.keepT {w0 w w':World} {v:Value} {xs:List Tm} (h:CandR w0 w v xs) (k1:KeepT 156 w w') (k2:KeepT 125 w w') (hb:Below w0.heap.size w0 w'):CandR w0 w' v xs:=
 ⟨Rr.keepT h.1 k1,fun x hx=>(h.2.1 x hx).keepT k2 hb,hb⟩
theorem mayN_at {l:LPx} {st:List Int} {rs:List Fx} {up:Bool} {k:Nat} {s:Int} {bl bh:Bool} {f g r:Fx} (h0:st[k]?=some s) (h1:l.hasLo[k]?=some bl) (h2:l.hasHi[k]?=some bh) (h3:l.lo[k]?=some f) (h4:l.hi[k]?=some g) (h5:rs[k]?=some r):
 mayN l st rs up k=mayQ s (sgnQ r.q) up (fixedQ bl bh f.q g.q):=by
 simp only [mayN,fixN,List.getD_eq_getElem?_getD,h0,h1,h2,h3,h4,h5,Option.getD_some]
set_option maxHeartbeats 16000000 in
theorem enter_v {w:World} {v u y z:Value} {l:LPx} {st:List Int} {ds rs:List Fx} {up sb flip:Bool} {As Bs:Option Addr} {ls cs ms ds_:Nat} {sh:Fx} (h:LPv w v l) (hs:Iv w u st) (hd:Rx w y ds) (hr:Rx w z rs) (hq:Fv w (.agg #[.bool sb,.slice As ls cs,.slice Bs ms ds_]) sh) (hf:Fit30 l) (hds:∀ f∈ds,f.xs.length<=6/\f.ds.length<=6) (hrs:∀ f∈rs,f.xs.length<=6/\f.ds.length<=6) (hsh:Qv w 6 (.agg #[.bool sb,.slice As ls cs,.slice Bs ms ds_]) sh.q/\Sz 6 sh.q)
 (hsort:∀ (W:World) (V:Value) (xs:List Tm),CandR w W V xs->xs.map Tm.t=candX l st ds rs up st.length->st.length<=14->Calls Tryz.prog 94 #[V,.func (.func 95) #[] #[]] W fun e W'=>e=.returned (.tuple #[])/\SortsC w V xs W'/\∀ T,156≠T->KeepT T W W'):
 Calls Tryz.prog 35 #[v,u,y,z,.agg #[.bool up,.bool sb,.slice As ls cs,.slice Bs ms ds_,.bool flip]] w fun e w'=>∃ (c:Int) (fl:List Int) (ok:Bool) (fv:Value),e=.returned (.tuple #[.int .i64 c,fv,.bool ok])/\Rr w' w.heap.size 3 1 ics fv fl/\Yg w w'/\
  (fitsX l [(st.length:Int),(ds.length:Int),(rs.length:Int)]=true->∃ L:List (Int × Rat),L.Perm (candX l st ds rs up st.length)/\SortedC L/\goEnter flip (hasN l) (fun c=>absN rs c*wideN l c) L sh.q []=(c,fl,ok)):=by
 have hlp:=h
 obtain ⟨aA,an,ac,bA,bn,bc,cA,cn,cc,dA,dn,dc,eA,en,ec,fA,fn,fc,rfl,hP,hla,hlb,hlc,hld,hle,hlf,hma,hmb,hmc,hmd,hme,hmf⟩:=h.open
 obtain ⟨Au,cu,rfl,-,-⟩:=hs.shape
 obtain ⟨Ay,cy,rfl,-,-⟩:=hd.shape
 obtain ⟨Az,cz,rfl,-,-⟩:=hr.shape
 obtain ⟨n,hn⟩:∃ n,st.length=n:=⟨_,rfl⟩
 obtain ⟨m,hm⟩:∃ m,ds.length=m:=⟨_,rfl⟩
 obtain ⟨m2,hm2⟩:∃ m,rs.length=m:=⟨_,rfl⟩
 rw [hn] at hs hsort ⊢
 rw [hm] at hd ⊢
 rw [hm2] at hr ⊢
 have HS:=Yh5 hlp hs hd hr hq
 have HZL:=Lib.hid (fit_sz hlp hf.1)
 have HN:=Yh3 hn hm hm2
 have HZ:=Yh4 hds hrs hf hsh
 have HSRT:=Lib.hid hsort
 have HAN:=Yh4 hla hf.1.1 hP.2.1 hP.2.2.1
 have HLB:=Yh2 hlb hlc
 have HE4:=Yh2 hP.2.2.2.1 hP.2.2.2.2.1
 have HLD:=Yh2 hld hle
 clear hP hlp hs hd hr hn hm hm2 hds hrs hf hsh hsort hq hla hlb hlc hld hle hlf hma hmb hmc hmd hme hmf h
 change Calls Tryz.prog 35 #[.agg #[.int .i64 l.n,.slice aA an ac,.slice bA bn bc,.slice cA cn cc,.slice dA dn dc,.slice eA en ec,.slice fA fn fc],.slice Au n cu,.slice Ay m cy,.slice Az m2 cz,.agg #[.bool up,.bool sb,.slice As ls cs,.slice Bs ms ds_,.bool flip]] w _
 go_enter Tryz.func35,Tryz.ntmps35
 go_upto_region 1 with (fail)
 obtain ⟨hX,hT,hB⟩:=box2 w 26 85 [.int .i64 l.n,.slice aA an ac,.slice bA bn bc,.slice cA cn cc,.slice dA dn dc,.slice eA en ec,.slice fA fn fc] [.bool up,.bool sb,.slice As ls cs,.slice Bs ms ds_,.bool flip]
 have HX:=Yh3 hX hT hB
 clear hX hT hB
 generalize (w.alloc _).alloc _=W0 at HX ⊢
 have l0:=Bl.ld HX.p0 0 rfl
 have l1:=Bl.ld HX.p0 1 rfl
 have l2:=Bl.ld HX.p0 2 rfl
 have l3:=Bl.ld HX.p0 3 rfl
 have l4:=Bl.ld HX.p0 4 rfl
 have l5:=Bl.ld HX.p0 5 rfl
 have l6:=Bl.ld HX.p0 6 rfl
 have hal:=Ya W0 (.cells #[.int .i64 (n:Int),.int .i64 (m:Int),.int .i64 (m2:Int)] 3)
 go_wp2_with fail
 refine (fits_r (n:=3) (ks:=[(n:Int),(m:Int),(m2:Int)]) ((HS.p0.keep HX.q2).keep hal) (Bl.new W0 3 [.int .i64 (n:Int),.int .i64 (m:Int),.int .i64 (m2:Int)]) rfl Yd).mono ?_;rintro e w1 ⟨rfl,hb⟩
 have H1:=Yh3 (HX.p0.keep (Yb hal hb)) (HX.p1.keep (Yb hal hb)) (Yb HX.q2 (Yb hal hb))
 clear hal hb HX l0 l1 l2 l3 l4 l5 l6
 obtain ⟨ft,hft⟩:∃ b,fitsX l [(n:Int),(m:Int),(m2:Int)]=b:=⟨_,rfl⟩
 rw [hft]
 cases ft with
 | false=>
  go_wp2_with fail
  go_ret3
  exact ⟨0,[],false,_,rfl,Rr.nil _ _ _ _ _,H1.q2,fun h=>by rw [hft] at h;cases h⟩
 | true=>
  obtain ⟨hf1,rfl,rfl⟩:=fits3 hft
  have HFT:=Lib.hid hf1
  clear hft hf1
  have hn14:n<=14:=by have:=HFT.p0;have:=HAN.p1;omega
  have HN14:=Lib.hid hn14
  clear hn14
  go_wp2_with fail
  go_loopw [33,13] (fun z33 z13 wr=>∃ (k:Nat) (xs:List Tm),z33=.int .i64 (k:Int)/\k<=n/\Hid (CandR w wr z13 xs/\xs.map Tm.t=candX l st ds rs up k/\Bl wr 26 w.heap.size [.int .i64 l.n,.slice aA an ac,.slice bA bn bc,.slice cA cn cc,.slice dA dn dc,.slice eA en ec,.slice fA fn fc]/\Bl wr 85 (w.heap.size+1) [.bool up,.bool sb,.slice As ls cs,.slice Bs ms ds_,.bool flip])) (fun z _ _=>n - (intOf z).toNat)
  case atStart=>exact ⟨0,[],rfl,Nat.zero_le _,CandR.nil H1.q2,rfl,H1.p0,H1.p1⟩
  case round=>
   obtain ⟨k,xs,rfl,hk,H⟩:=hrel
   have hn14:=HN14.out
   have HB:=Lib.hid H.p0.2.2
   by_cases hlt:k<n
   · skip
     obtain ⟨s,h0⟩:∃ x,st[k]?=some x:=⟨_,List.getElem?_eq_getElem (by rw [HN.p0];exact hlt)⟩
     obtain ⟨bl,bh,f,g,dx,h1,h2,h3,h4,h5⟩:=el_ex (xs:=ds) (c:=k) (by rw [HN.p1];exact HFT.out) (by rw [HN.p1];exact hlt)
     obtain ⟨rx,h6⟩:∃ x,rs[k]?=some x:=⟨_,List.getElem?_eq_getElem (by rw [HN.q2];exact hlt)⟩
     have HEL:=Yh4 h1 h2 h3 h4
     have HMN:=Lib.hid (mayN_at (up:=up) h0 h1 h2 h3 h4 h6)
     have z3:=HZ.p2.1.2.2 f (.inl (List.mem_of_getElem? h3))
     have z4:=HZ.p2.1.2.2 g (.inr (.inl (List.mem_of_getElem? h4)))
     have z5:=HZ.p0 dx (List.mem_of_getElem? h5)
     have z6:=HZ.p1 rx (List.mem_of_getElem? h6)
     have HZE:=Yh2 z3 z4
     have HRT:Hid (ratN ds rs k=absQ dx.q / absQ rx.q):=by
      have e1:ds.getD k fx0=dx:=by rw [List.getD_eq_getElem?_getD,h5];rfl
      have e2:rs.getD k fx0=rx:=by rw [List.getD_eq_getElem?_getD,h6];rfl
      show ratN ds rs k=_
      rw [ratN,e1,e2]
     obtain ⟨gu,ou,_,e,hgu,cu0⟩:=HS.p1.at_ h0
     injection e with e1 e2 e3
     subst e1
     clear e2 e3
     obtain ⟨gy,oy,_,xy,e,hgy,hvy,y0,y1,y2⟩:=HS.p2.at_ h5
     rw [HN.p1] at e
     injection e with e1 e2 e3
     subst e1
     clear e2 e3
     obtain ⟨gz,oz,_,xz,e,hgz,hvz,v0,v1,v2⟩:=HS.p3.at_ h6
     rw [HN.q2] at e
     injection e with e1 e2 e3
     subst e1
     clear e2 e3
     have HVY:=Yh2 (Fv.qv (L:=6) hvy z5.1 z5.2) (Fv.qv (L:=6) hvz z6.1 z6.2)
     have HY:Hid (∀ W,Yg w W->W.cell? ⟨gy,oy+k*3,none⟩=some (.bool xy.b)/\W.cell? ⟨gy,oy+k*3+1,none⟩=some (.slice xy.A xy.l xy.k)/\W.cell? ⟨gy,oy+k*3+2,none⟩=some (.slice xy.B xy.m xy.d)/\W.cell? ⟨gz,oz+k*3,none⟩=some (.bool xz.b)/\W.cell? ⟨gz,oz+k*3+1,none⟩=some (.slice xz.A xz.l xz.k)/\W.cell? ⟨gz,oz+k*3+2,none⟩=some (.slice xz.B xz.m xz.d)):=fun W b=>⟨(b.cell (p:=⟨gy,_,none⟩) hgy).trans y0,(b.cell (p:=⟨gy,_,none⟩) hgy).trans y1,(b.cell (p:=⟨gy,_,none⟩) hgy).trans y2,(b.cell (p:=⟨gz,_,none⟩) hgz).trans v0,(b.cell (p:=⟨gz,_,none⟩) hgz).trans v1,(b.cell (p:=⟨gz,_,none⟩) hgz).trans v2⟩
     have cu1:=(HB.out.cell (p:=⟨gu,ou+k,none⟩) hgu).trans cu0
     have hkn:(k:Int)<(n:Int):=Yo
     clear h0 h1 h2 h3 h4 h5 h6 z3 z4 z5 z6 hgu hgy hgz hvy hvz y0 y1 y2 v0 v1 v2 cu0
     go_upto_region 7 with (fail)
     clear cu1
     obtain ⟨mb,hmb⟩:∃ b,mayN l st rs up k=b:=⟨_,rfl⟩
     have HMB:=Lib.hid hmb
     clear hmb
     refine flow (fun W=>Yg wr W/\W.cell? ⟨w.heap.size,0,none⟩=some (.int .i64 l.n)/\W.cell? ⟨w.heap.size,1,none⟩=some (.slice aA an ac)/\W.cell? ⟨w.heap.size,2,none⟩=some (.slice bA bn bc)/\W.cell? ⟨w.heap.size,3,none⟩=some (.slice cA cn cc)/\W.cell? ⟨w.heap.size,4,none⟩=some (.slice dA dn dc)/\W.cell? ⟨w.heap.size,5,none⟩=some (.slice eA en ec)/\W.cell? ⟨w.heap.size,6,none⟩=some (.slice fA fn fc)/\W.cell? ⟨(w.heap.size+1),0,none⟩=some (.bool up)/\W.cell? ⟨gy,oy+k*3,none⟩=some (.bool xy.b)/\W.cell? ⟨gy,oy+k*3+1,none⟩=some (.slice xy.A xy.l xy.k)/\W.cell? ⟨gy,oy+k*3+2,none⟩=some (.slice xy.B xy.m xy.d)/\W.cell? ⟨gz,oz+k*3,none⟩=some (.bool xz.b)/\W.cell? ⟨gz,oz+k*3+1,none⟩=some (.slice xz.A xz.l xz.k)/\W.cell? ⟨gz,oz+k*3+2,none⟩=some (.slice xz.B xz.m xz.d)) (fun _ _=>True) (fun _ _=>False) 0 [⟨[],[(0,38),(1,39),(2,40),(3,41),(4,42),(5,43),(6,44),(7,45),(8,46)],[],[(9,47,fun v W=>v=.bool mb)]⟩] [] [] ⟨[(9,47)],[(0,38),(1,39),(2,40),(3,41),(4,42),(5,43),(6,44),(7,45),(8,46)],[],[]⟩ ⟨below_nil,Bl.ld (H.p2.keep below_nil) 0 rfl,Bl.ld (H.p2.keep below_nil) 1 rfl,Bl.ld (H.p2.keep below_nil) 2 rfl,Bl.ld (H.p2.keep below_nil) 3 rfl,Bl.ld (H.p2.keep below_nil) 4 rfl,Bl.ld (H.p2.keep below_nil) 5 rfl,Bl.ld (H.p2.keep below_nil) 6 rfl,Bl.ld (H.q3.keep below_nil) 0 rfl,HY.out _ (Yb HB.out below_nil)⟩ (trivial) (fun _ _ h b=>⟨(Yb h.1 b),Bl.ld (H.p2.keep (Yb h.1 b)) 0 rfl,Bl.ld (H.p2.keep (Yb h.1 b)) 1 rfl,Bl.ld (H.p2.keep (Yb h.1 b)) 2 rfl,Bl.ld (H.p2.keep (Yb h.1 b)) 3 rfl,Bl.ld (H.p2.keep (Yb h.1 b)) 4 rfl,Bl.ld (H.p2.keep (Yb h.1 b)) 5 rfl,Bl.ld (H.p2.keep (Yb h.1 b)) 6 rfl,Bl.ld (H.q3.keep (Yb h.1 b)) 0 rfl,HY.out _ (Yb HB.out (Yb h.1 b))⟩) (fun _ _ _ h _=>h) ⟨fun _ _ _ h _=>h,fun _ _ _ _ h=>h.elim,trivial⟩ ⟨?_,trivial⟩ trivial trivial ?_
     · rintro W hS
       refine gvN ?_;(repeat refine flA ?_);refine flN (flN ?_)
       refine flK (fun K hK=>?_) flL
       go_simp
       go_at_call 92;refine (may_v (HS.p0.keep (Yb HB.out hS.1)) HEL.p0 HEL.p1 HEL.p2 HEL.q3 (HVY.q1.keep (Yb HB.out hS.1)) Yd HZE.p0.1 HZE.p0.2 HZE.p1 HZE.q2).mono ?_;rintro e W2 ⟨rfl,hb⟩
       rw [<- HMN.out,HMB.out]
       go_wp2_with fail
       exact hK.out _ _ ⟨rfl,hb⟩
     rintro W hS - v9 rfl
     have hS:=hS flY
     refine gvN ?_;(repeat refine flA ?_);refine flN (flN ?_)
     obtain ⟨W7,hWW⟩:∃ X,X=W:=⟨_,rfl⟩
     subst hWW
     have H7:=Yh4 (H.p0.keep hS.1) H.p1 (H.p2.keep hS.1) (H.q3.keep hS.1)
     clear hS H HB
     cases mb with
     | false=>
      go_wp2_with fail
      case roundEnd=>exact ⟨⟨k+1,xs,by go_num,Yo,H7.p0,H7.p1.trans (candK_no HMB.out).symm,H7.q2⟩,by simp [intOf];omega⟩
     | true=>
      have HRN:Hid (absQ rx.q≠0):=absQ_nz (fun e=>mayQ_nz (HMN.out.symm.trans HMB.out) ((sgn_zero _).2 e))
      have HB7:=Lib.hid H7.p0.2.2
      go_upto_region 8 with (fail)
      refine flow (fun W=>Yg W7 W/\W.cell? ⟨gy,oy+k*3,none⟩=some (.bool xy.b)/\W.cell? ⟨gy,oy+k*3+1,none⟩=some (.slice xy.A xy.l xy.k)/\W.cell? ⟨gy,oy+k*3+2,none⟩=some (.slice xy.B xy.m xy.d)/\W.cell? ⟨gz,oz+k*3,none⟩=some (.bool xz.b)/\W.cell? ⟨gz,oz+k*3+1,none⟩=some (.slice xz.A xz.l xz.k)/\W.cell? ⟨gz,oz+k*3+2,none⟩=some (.slice xz.B xz.m xz.d)) (fun vs W=>match vs with|[]=>True|[a]=>∃ gg,a=.pointer (some ⟨gg,0,none⟩)/\W7.heap.size<=gg/\Bl W 36 gg [.bool false,.slice none 0 0,.slice none 0 0]|[a,_]=>∃ gg p A l_ c B k_ d,a=.pointer (some ⟨gg,0,none⟩)/\W7.heap.size<=gg/\Bl W 36 gg [.bool p,.slice A l_ c,.slice B k_ d]/\Qr w W (.agg #[.bool p,.slice A l_ c,.slice B k_ d]) (absQ dx.q/absQ rx.q)/\Yg W7 W|_=>True) (fun w w'=>Yg w w') 1 [⟨[],[(0,49),(1,50),(2,51),(3,52),(5,54),(6,55),(7,56),(8,57)],[],[(4,53,fun v W=>∃ p A l_ c B k_ d,v=.agg #[.bool p,.slice A l_ c,.slice B k_ d]/\Qv W 6 (.agg #[.bool p,.slice A l_ c,.slice B k_ d]) (absQ dx.q)),(9,58,fun v W=>∃ p A l_ c B k_ d,v=.agg #[.bool p,.slice A l_ c,.slice B k_ d]/\Qv W 6 (.agg #[.bool p,.slice A l_ c,.slice B k_ d]) (absQ rx.q))]⟩,⟨[(4,53),(9,58)],[],[],[(10,59,fun v W=>∃ p A l_ c B k_ d,v=.tuple #[.agg #[.bool p,.slice A l_ c,.slice B k_ d],.int .i64 0]/\Qr w W (.agg #[.bool p,.slice A l_ c,.slice B k_ d]) (absQ dx.q/absQ rx.q))]⟩] [⟨[(10,59)],[],[(11,48),(12,60),(13,61),(16,17)],[]⟩] [⟨14,some 16,[],[],[]⟩,⟨15,none,[(10,59)],[],[(11,48),(12,60)]⟩] ⟨[(4,53),(9,58),(10,59)],[(0,49),(1,50),(2,51),(3,52),(5,54),(6,55),(7,56),(8,57)],[(11,48),(12,60),(13,61),(16,17)],[]⟩ ⟨below_nil,HY.out _ (Yb HB7.out below_nil)⟩ (trivial) (fun _ _ h b=>⟨(Yb h.1 b),HY.out _ (Yb HB7.out (Yb h.1 b))⟩) (fun vs _ _ h b=>match vs,h with|[],_=>trivial|[_],⟨g,e,h1,h2⟩=>⟨g,e,h1,h2.keep b⟩|[_,_],⟨g,p,A,l,c,B,k,d,e,h1,h2,h3,h4⟩=>⟨g,p,A,l,c,B,k,d,e,h1,h2.keep b,h3.keep b,Yb h4 b⟩|_::_::_::_,_=>trivial) ⟨fun _ _ _ ⟨p,A,l,c,B,k,d,e,h⟩ b=>⟨p,A,l,c,B,k,d,e,h.keep b⟩,fun _ _ _ ⟨p,A,l,c,B,k,d,e,h⟩ b=>⟨p,A,l,c,B,k,d,e,h.keep b⟩,⟨fun _ _ _ ⟨p,A,l,c,B,k,d,e,h⟩ b=>⟨p,A,l,c,B,k,d,e,h.keep b⟩,fun _ _ _ ⟨p,A,l,c,B,k,d,e,h⟩ b=>⟨p,A,l,c,B,k,d,e,h.keep b⟩,⟨fun _ _ _ ⟨p,A,l,c,B,k,d,e,h⟩ b=>⟨p,A,l,c,B,k,d,e,h.keep b⟩,fun _ _ _ ⟨p,A,l,c,B,k,d,e,h⟩ b=>⟨p,A,l,c,B,k,d,e,h.keep b⟩,trivial⟩⟩⟩ ⟨?_,?_,trivial⟩ ⟨?_,trivial⟩ ⟨?_,?_,trivial⟩ ?_
      · rintro W hS
        refine gvN ?_;(repeat refine flA ?_);refine flN (flN ?_)
        refine flK (fun K hK=>?_) (flK (fun K hK=>?_) flL)
        · go_simp
          go_at_call 93;refine (dist_v (HVY.p0.keep (Yb HB7.out hS.1)) Yd Yd).mono ?_;rintro e W2 ⟨v,rfl,h,hb⟩;obtain ⟨p,A,l_,c,B,k_,d,rfl⟩:=h.parts
          go_wp2_with fail
          exact hK.out _ _ ⟨⟨_,_,_,_,_,_,_,rfl,h⟩,hb⟩
        · go_simp
          go_at_call 93;refine (dist_v (HVY.q1.keep (Yb HB7.out hS.1)) Yd Yd).mono ?_;rintro e W2 ⟨v,rfl,h,hb⟩;obtain ⟨p,A,l_,c,B,k_,d,rfl⟩:=h.parts
          go_wp2_with fail
          exact hK.out _ _ ⟨⟨_,_,_,_,_,_,_,rfl,h⟩,hb⟩
      · rintro W hS v4 ⟨p4,A4,l4,c4,B4,k4,d4,rfl,h4⟩ v9 ⟨p9,A9,l9,c9,B9,k9,d9,rfl,h9⟩
        refine gvN ?_;refine flN (flN ?_)
        refine flK (fun K hK=>?_) flL
        go_simp
        go_at_call 51;refine (div_v h4 h9 Yd Yd Yd Yd HRN.out).mono ?_;rintro e W2 ⟨v,rfl,h⟩;obtain ⟨p,A,l_,c,B,k_,d,rfl⟩:=h.qo.parts
        go_wp2_with fail
        exact hK.out _ _ ⟨⟨_,_,_,_,_,_,_,rfl,h.from (Yb HB7.out hS.1)⟩,h.below⟩
      · rintro v10 ⟨_,p10,A10,l10,c10,B10,k10,d10,rfl,-⟩
        refine gvN ?_;(repeat refine flA ?_);exact trivial
      · rintro W hS -
        have hS:=hS flY
        refine gvN ?_;refine flN (flN ?_)
        refine flC fun K hK=>?_
        have hal:=Ya W (.cells #[.bool false,.slice none 0 0,.slice none 0 0] 36)
        go_simp
        have hb2:=Yb hS.1 hal
        exact hK.out _ _ ⟨⟨_,rfl,hS.1.size,Bl.new W 36 [.bool false,.slice none 0 0,.slice none 0 0]⟩,fun _=>⟨⟨hb2,HY.out _ (Yb HB7.out hb2)⟩,hal⟩⟩
      · rintro W hS c14 ⟨gz,rfl,pz,Xz⟩ v10 ⟨p10,A10,l10,c10,B10,k10,d10,rfl,h10⟩
        have hS:=hS flY
        refine gvN ?_;(repeat refine flA ?_);refine flN ?_
        refine flC fun K hK=>?_
        have f0:=Bl.fr Xz 0
        have f1:=Bl.fr Xz 1
        have f2:=Bl.fr Xz 2
        have r0:=Bl.ld Xz 0 rfl
        have r1:=Bl.ld Xz 1 rfl
        have r2:=Bl.ld Xz 2 rfl
        go_simp
        clear f0 f1 f2 r0 r1 r2
        have b3:=below3 hS.1 pz (.bool p10) (.slice A10 l10 c10) (.slice B10 k10 d10)
        exact hK.out undef _ ⟨⟨_,_,_,_,_,_,_,_,rfl,pz,Xz.set3 rfl (.bool p10) (.slice A10 l10 c10) (.slice B10 k10 d10),h10.keepT (Xz.keep3 Yd (.bool p10) (.slice A10 l10 c10) (.slice B10 k10 d10)) (Yb HB7.out b3),b3⟩,fun h=>flX h⟩
      rintro W hS c14 c15 ⟨gq,pq1,Aq,lq,cq,Bq,kq,dq,rfl,pq,Xq,hq,hbq⟩ v4 ⟨_,p4,A4,l4,c4,B4,k4,d4,rfl,-⟩ v9 ⟨_,p9,A9,l9,c9,B9,k9,d9,rfl,-⟩ v10 ⟨_,p10,A10,l10,c10,B10,k10,d10,rfl,-⟩
      clear hS
      refine gvN ?_;(repeat refine flA ?_);refine flN ?_
      obtain ⟨W8,hWW⟩:∃ X,X=W:=⟨_,rfl⟩
      subst hWW
      have H8:=Yh6 (H7.p0.keep hbq) H7.p1 (H7.p2.keep hbq) (H7.q3.keep hbq) Xq hq
      clear H7 HB7 hbq Xq hq pq HVY HY
      have z0:=Bl.ld H8.p4 0 rfl
      have z1:=Bl.ld H8.p4 1 rfl
      have z2:=Bl.ld H8.p4 2 rfl
      have hal:=Ya W8 (.cells #[.int .i64 (k:Int),.bool pq1,.slice Aq lq cq,.slice Bq kq dq] 156)
      have hxl:xs.length<=14:=by
       have e1:=congrArg List.length H8.p1
       rw [List.length_map] at e1
       have e2:(candX l st ds rs up k).length<=k:=candK_len k
       omega
      have HXL:=Lib.hid hxl
      clear hxl
      go_wp2_with (at_builtin;refine app_els (w0:=w) (f:=Tm.cs) (x:=(⟨(k:Int),pq1,Aq,lq,cq,Bq,kq,dq,absQ dx.q / absQ rx.q⟩:Tm)) Tryz.underlying153 cand_info ⟨Yd,rfl,Yd⟩ Tm.len Tm.one rfl (.tmp 62) (.tmp 66) rfl rfl rfl (H8.p0.1.keep hal) (Bl.new W8 _ _) (by have:=HXL.out;omega) (Yb H8.p0.2.2 hal) ?_;intro u2 w9 k1 k2 k3 k4)
      have H9:Hid (CandR w w9 u2 (xs++[(⟨(k:Int),pq1,Aq,lq,cq,Bq,kq,dq,absQ dx.q / absQ rx.q⟩:Tm)])/\(xs++[(⟨(k:Int),pq1,Aq,lq,cq,Bq,kq,dq,absQ dx.q / absQ rx.q⟩:Tm)]).map Tm.t=candX l st ds rs up (k+1)/\Bl w9 26 w.heap.size [.int .i64 l.n,.slice aA an ac,.slice bA bn bc,.slice cA cn cc,.slice dA dn dc,.slice eA en ec,.slice fA fn fc]/\Bl w9 85 (w.heap.size+1) [.bool up,.bool sb,.slice As ls cs,.slice Bs ms ds_,.bool flip]):=⟨⟨k1,fun x hx=>by
       rcases List.mem_append.1 hx with hx | hx
       · exact ((H8.p0.2.1 x hx).keep hal).keepT (k3 _ Yd) k2
       · rw [List.mem_singleton.1 hx];exact (H8.q5.keep hal).keepT (k3 _ Yd) k2,k2⟩,by
       rw [List.map_append,H8.p1]
       exact (by rw [candX,candX,candK_yes HMB.out,HRT.out];rfl),(k3 _ Yd).bl (H8.p2.keep hal),(k3 _ Yd).bl (H8.p3.keep hal)⟩
      clear H8 k1 k2 k3 k4 hal z0 z1 z2
      go_wp2_with fail
      case roundEnd=>exact ⟨⟨k+1,_,by go_num,Yo,H9.out⟩,by simp [intOf];omega⟩
   obtain rfl:k=n:=by omega
   have hnk:¬(k:Int)<(k:Int):=Yo
   go_wp2_with fail
   refine (HSRT.out wr _ xs H.p0 H.p1 HN14.out).mono ?_;rintro e w5 ⟨rfl,⟨ys,hy,hp,hso⟩,hkt⟩
   have H5:=Yh3 hy ((hkt _ Yd).bl H.p2) ((hkt _ Yd).bl H.q3)
   have HP:=Yh2 (by rw [H.p1] at hp;exact hp:(ys.map Tm.t).Perm (candX l st ds rs up k)) hso
   clear hy hp hso hkt H HB hnk
   obtain ⟨Aw,cw,hV,-⟩:=H5.p0.1.shape
   subst hV
   obtain ⟨N,hN⟩:∃ N,ys.length=N:=⟨_,rfl⟩
   rw [hN] at H5 ⊢
   have HYN:=Lib.hid hN
   have hN14:N<=14:=by
    have e1:=HP.p0.length_eq
    rw [List.length_map,hN] at e1
    have e2:(candX l st ds rs up k).length<=k:=candK_len k
    have e3:=HN14.out
    omega
   have HN2:=Lib.hid hN14
   clear hN hN14
   have t0:=Bl.ld H5.q2 0 rfl
   have t1:=Bl.ld H5.q2 1 rfl
   have t2:=Bl.ld H5.q2 2 rfl
   have t3:=Bl.ld H5.q2 3 rfl
   have t4:=Bl.ld H5.q2 4 rfl
   go_upto_region 13 with (fail)
   clear t0 t1 t2 t3 t4
   have hal:=Ya w5 (.cells #[.bool sb,.slice As ls cs,.slice Bs ms ds_] 36)
   have H6:=Yh4 (H5.p0.keep hal) (H5.p1.keep hal) (H5.q2.keep hal) (Bl.new w5 36 [.bool sb,.slice As ls cs,.slice Bs ms ds_])
   have hlt0:=H5.q2.lt
   obtain ⟨g18,hg18⟩:∃ g,g=w5.heap.size:=⟨_,rfl⟩
   rw [<- hg18] at H6 hlt0 ⊢
   have HG:=Lib.hid hlt0
   clear hal hg18 H5 hlt0
   generalize w5.alloc _=W6 at H6 ⊢
   go_wp2_with fail
   go_loopw [75,11] (fun z75 z11 wr2=>∃ (k2:Nat) (fl:List Int) (s:Rat) (ps:Bool) (Az_:Option Addr) (lz cz_:Nat) (Bz:Option Addr) (mz dz:Nat) (fv:Value),z75=.int .i64 (k2:Int)/\fv=z11/\k2<=N/\Hid (goEnter flip (hasN l) (fun c=>absN rs c*wideN l c) ((ys.map Tm.t).drop k2) s fl=goEnter flip (hasN l) (fun c=>absN rs c*wideN l c) (ys.map Tm.t) sh.q []/\Sz (6+20*k2) s/\RQ w wr2 (.agg #[.bool ps,.slice Az_ lz cz_,.slice Bz mz dz]) s/\Rr wr2 w.heap.size 3 1 ics fv fl/\fl.length<=k2/\CandR w wr2 (.slice Aw N cw) ys/\Bl wr2 26 w.heap.size [.int .i64 l.n,.slice aA an ac,.slice bA bn bc,.slice cA cn cc,.slice dA dn dc,.slice eA en ec,.slice fA fn fc]/\Bl wr2 85 (w.heap.size+1) [.bool up,.bool sb,.slice As ls cs,.slice Bs ms ds_,.bool flip]/\Bl wr2 36 g18 [.bool ps,.slice Az_ lz cz_,.slice Bz mz dz])) (fun z _ _=>N - (intOf z).toNat)
   case atStart=>exact ⟨0,[],sh.q,sb,As,ls,cs,Bs,ms,ds_,_,rfl,rfl,Nat.zero_le _,rfl,HZ.q4,.inl HZ.p3,Rr.nil _ _ _ _ _,Nat.le_refl _,H6.p0,H6.p1,H6.p2,H6.q3⟩
   case round=>
    obtain ⟨k2,fl,s,ps,Az_,lz,cz_,Bz,mz,dz,fv,rfl,rfl,hk2,H⟩:=hrel
    have hN14:=HN2.out
    have HB:=Lib.hid H.p5.2.2
    by_cases hlt2:k2<N
    · skip
      obtain ⟨x,hx⟩:∃ x,ys[k2]?=some x:=⟨_,List.getElem?_eq_getElem (by rw [HYN.out];exact hlt2)⟩
      have hxm:x.t∈candX l st ds rs up k:=HP.p0.mem_iff.1 (List.mem_map_of_mem (List.mem_of_getElem? hx))
      obtain ⟨j,hjk,hxc⟩:=candK_mem hxm
      have hxc:x.c=(j:Int):=hxc
      have HGO:=Lib.hid (go_next (f:=flip) (h:=hasN l) (st:=fun c=>absN rs c*wideN l c) (L:=ys.map Tm.t) (k:=k2) (c:=x.t) (s:=s) (fl:=fl) (by rw [List.getElem?_map,hx];rfl))
      have HXC:=Lib.hid hxc
      obtain ⟨gw,ow,_,e,-,hgw,hcw⟩:=Rr.rv H.p5.1 |>.at_ Yd Tm.len hx
      rw [HYN.out] at e
      injection e with e1 e2 e3
      subst e1
      clear e2 e3
      have w0_:=hcw 0 _ rfl
      have w1_:=hcw 1 _ rfl
      have w2_:=hcw 2 _ rfl
      have w3_:=hcw 3 _ rfl
      rw [hxc] at w0_
      rw [Nat.add_zero] at w0_
      rw [<- Nat.add_assoc] at w1_ w2_ w3_
      clear hcw hgw hx hxm
      obtain ⟨bl,bh,f,g,dx,h1,h2,h3,h4,-⟩:=el_ex (xs:=ds) (c:=j) (by rw [HN.p1];exact HFT.out) (by rw [HN.p1];exact hjk)
      obtain ⟨rx,h6⟩:∃ x,rs[j]?=some x:=⟨_,List.getElem?_eq_getElem (by rw [HN.q2];exact hjk)⟩
      have HHS:Hid (hasN l x.t.1=(bl && bh)):=by
       show hasN l x.c=_
       rw [hxc]
       simp only [hasN,Int.toNat_natCast,List.getD_eq_getElem?_getD,h1,h2,Option.getD_some]
      have HWN:Hid (absN rs x.t.1*wideN l x.t.1=absQ rx.q*(g.q - f.q)):=by
       show absN rs x.c*wideN l x.c=_
       rw [hxc]
       simp only [absN,wideN,Int.toNat_natCast,List.getD_eq_getElem?_getD,h3,h4,h6,Option.getD_some]
      have HZ3:=Yh2 (HZL.q1 f (.inl (List.mem_of_getElem? h3))) (HZL.q1 g (.inr (.inl (List.mem_of_getElem? h4))))
      have z3:=HZ.p2.1.2.2 f (.inl (List.mem_of_getElem? h3))
      have z4:=HZ.p2.1.2.2 g (.inr (.inl (List.mem_of_getElem? h4)))
      have z6:=HZ.p1 rx (List.mem_of_getElem? h6)
      obtain ⟨gb,ob,_,e,hgb,zb0⟩:=HAN.p2.at_ h1
      rw [HLB.p0] at e
      injection e with e1 e2 e3
      subst e1
      clear e2 e3
      obtain ⟨gc,oc,_,e,hgc,zc0⟩:=HAN.q3.at_ h2
      rw [HLB.q1] at e
      injection e with e1 e2 e3
      subst e1
      clear e2 e3
      obtain ⟨gd,od,_,xd,e,hgd,hvd,zd0,zd1,zd2⟩:=HE4.p0.at_ h3
      rw [HLD.p0] at e
      injection e with e1 e2 e3
      subst e1
      clear e2 e3
      obtain ⟨ge,oe,_,xe,e,hge,hve,ze0,ze1,ze2⟩:=HE4.q1.at_ h4
      rw [HLD.q1] at e
      injection e with e1 e2 e3
      subst e1
      clear e2 e3
      obtain ⟨gz,oz,_,xz,e,hgz,hvz,v0,v1,v2⟩:=HS.p3.at_ h6
      rw [HN.q2] at e
      injection e with e1 e2 e3
      subst e1
      clear e2 e3
      have HV:=Yh3 (Fv.qv (L:=6) hvd z3.1 z3.2) (Fv.qv (L:=6) hve z4.1 z4.2) (Fv.qv (L:=6) hvz z6.1 z6.2)
      have HY:Hid (∀ W,Yg w W->(W.cell? ⟨gb,ob+j,none⟩=some (.bool bl)/\W.cell? ⟨gc,oc+j,none⟩=some (.bool bh))/\W.cell? ⟨gd,od+j*3,none⟩=some (.bool xd.b)/\W.cell? ⟨gd,od+j*3+1,none⟩=some (.slice xd.A xd.l xd.k)/\W.cell? ⟨gd,od+j*3+2,none⟩=some (.slice xd.B xd.m xd.d)/\W.cell? ⟨ge,oe+j*3,none⟩=some (.bool xe.b)/\W.cell? ⟨ge,oe+j*3+1,none⟩=some (.slice xe.A xe.l xe.k)/\W.cell? ⟨ge,oe+j*3+2,none⟩=some (.slice xe.B xe.m xe.d)/\W.cell? ⟨gz,oz+j*3,none⟩=some (.bool xz.b)/\W.cell? ⟨gz,oz+j*3+1,none⟩=some (.slice xz.A xz.l xz.k)/\W.cell? ⟨gz,oz+j*3+2,none⟩=some (.slice xz.B xz.m xz.d)):=fun W b=>⟨⟨(b.cell (p:=⟨gb,_,none⟩) hgb).trans zb0,(b.cell (p:=⟨gc,_,none⟩) hgc).trans zc0⟩,(b.cell (p:=⟨gd,_,none⟩) hgd).trans zd0,(b.cell (p:=⟨gd,_,none⟩) hgd).trans zd1,(b.cell (p:=⟨gd,_,none⟩) hgd).trans zd2,(b.cell (p:=⟨ge,_,none⟩) hge).trans ze0,(b.cell (p:=⟨ge,_,none⟩) hge).trans ze1,(b.cell (p:=⟨ge,_,none⟩) hge).trans ze2,(b.cell (p:=⟨gz,_,none⟩) hgz).trans v0,(b.cell (p:=⟨gz,_,none⟩) hgz).trans v1,(b.cell (p:=⟨gz,_,none⟩) hgz).trans v2⟩
      have hjn:(j:Int)<(k:Int):=Yo
      have ixb:(j:Int)<(bn:Int):=by have:=HFT.p3;have:=HLB.p0;omega
      have ixc:(j:Int)<(cn:Int):=by have:=HFT.q4;have:=HLB.q1;omega
      have ixd:(j:Int)<(dn:Int):=by have:=HFT.p1;have:=HLD.p0;omega
      have ixe:(j:Int)<(en:Int):=by have:=HFT.p2;have:=HLD.q1;omega
      clear h1 h2 h3 h4 h6 z3 z4 z6 hvd hve hvz zb0 zc0 zd0 zd1 zd2 ze0 ze1 ze2 v0 v1 v2 hgb hgc hgd hge hgz
      have hk2n:(k2:Int)<(N:Int):=Yo
      go_upto_region 16 with (fail)
      have hal:=Ya wr (.cells #[.int .i64 (j:Int),.bool x.b,.slice x.A x.l x.k,.slice x.B x.m x.d] 156)
      have hltg:=HB.out.size
      have H8:=Yh8 (H.p3.keep hal) (H.p5.keep hal) (H.p6.keep hal) (H.p7.keep hal) (H.q8.keep hal) (Bl.new wr 156 [.int .i64 (j:Int),.bool x.b,.slice x.A x.l x.k,.slice x.B x.m x.d]) (H.p2.keepT (KeepT.below hal) (Yb HB.out hal)) (Yb HB.out hal)
      have HI:=Yh3 H.p0 H.p1 H.p4
      obtain ⟨g20,hg20⟩:∃ g,g=wr.heap.size:=⟨_,rfl⟩
      rw [<- hg20] at H8 hltg ⊢
      have HG20:Hid (w.heap.size<=g20/\g18<g20/\w.heap.size+1<g20):=⟨hltg,by rw [hg20];exact H.q8.lt,by rw [hg20];exact H.p7.lt⟩
      clear hal hg20 H HB hltg w0_ w1_ w2_ w3_
      generalize wr.alloc _=V8 at H8 ⊢
      obtain ⟨hhY,-⟩:=HY.out _ H8.q7
      obtain ⟨zb0,zc0⟩:=hhY
      have l0:=Bl.ld H8.p2 0 rfl
      have l1:=Bl.ld H8.p2 1 rfl
      have l2:=Bl.ld H8.p2 2 rfl
      have l3:=Bl.ld H8.p2 3 rfl
      have l4:=Bl.ld H8.p2 4 rfl
      have l5:=Bl.ld H8.p2 5 rfl
      have l6:=Bl.ld H8.p2 6 rfl
      have t4:=Bl.ld H8.p3 4 rfl
      have c0_:=Bl.ld H8.p5 0 rfl
      cases flip with
      | false=>
       go_wp2_with fail
       go_ret3
       exact ⟨(j:Int),fl,true,_,rfl,H8.p0,H8.q7,fun _=>⟨_,HP.p0,HP.q1,HI.p0.symm.trans (HGO.out.trans (by rw [HHS.out];show (if _ then (x.c,fl,true) else _)=_;rw [HXC.out];simp))⟩⟩
      | true=>
       cases bl with
       | false=>
        go_wp2_with fail
        go_ret3
        exact ⟨(j:Int),fl,true,_,rfl,H8.p0,H8.q7,fun _=>⟨_,HP.p0,HP.q1,HI.p0.symm.trans (HGO.out.trans (by rw [HHS.out];show (if _ then (x.c,fl,true) else _)=_;rw [HXC.out];simp))⟩⟩
       | true=>
        cases bh with
        | false=>
         go_wp2_with fail
         go_ret3
         exact ⟨(j:Int),fl,true,_,rfl,H8.p0,H8.q7,fun _=>⟨_,HP.p0,HP.q1,HI.p0.symm.trans (HGO.out.trans (by rw [HHS.out];show (if _ then (x.c,fl,true) else _)=_;rw [HXC.out];simp))⟩⟩
        | true=>
         have HL20:Hid (6+20*k2<=400):=(by have:=HN2.out;show _<=_;omega)
         have HZW:Hid (Sz 13 (g.q - f.q)/\Sz 19 (absQ rx.q*(g.q - f.q))):=by
          have e1:Sz 13 (g.q - f.q):=by rw [Rat.sub_eq_add_neg];exact HZ3.q1.add HZ3.p0.neg
          exact ⟨e1,(absQ_sz (HV.q2.sz Yd)).mul e1⟩
         go_upto_region 18 with (fail)
         clear zb0 zc0 t4 l0 l1 l2 l3 l4 l5 l6 c0_
         refine flow (fun W=>Yg V8 W/\W.cell? ⟨w.heap.size,4,none⟩=some (.slice (some ⟨gd,od,none⟩) dn dc)/\W.cell? ⟨w.heap.size,5,none⟩=some (.slice (some ⟨ge,oe,none⟩) en ec)/\W.cell? ⟨g20,0,none⟩=some (.int .i64 (j:Int))/\W.cell? ⟨g18,0,none⟩=some (.bool ps)/\W.cell? ⟨g18,1,none⟩=some (.slice Az_ lz cz_)/\W.cell? ⟨g18,2,none⟩=some (.slice Bz mz dz)/\W.cell? ⟨gd,od+j*3,none⟩=some (.bool xd.b)/\W.cell? ⟨gd,od+j*3+1,none⟩=some (.slice xd.A xd.l xd.k)/\W.cell? ⟨gd,od+j*3+2,none⟩=some (.slice xd.B xd.m xd.d)/\W.cell? ⟨ge,oe+j*3,none⟩=some (.bool xe.b)/\W.cell? ⟨ge,oe+j*3+1,none⟩=some (.slice xe.A xe.l xe.k)/\W.cell? ⟨ge,oe+j*3+2,none⟩=some (.slice xe.B xe.m xe.d)/\W.cell? ⟨gz,oz+j*3,none⟩=some (.bool xz.b)/\W.cell? ⟨gz,oz+j*3+1,none⟩=some (.slice xz.A xz.l xz.k)/\W.cell? ⟨gz,oz+j*3+2,none⟩=some (.slice xz.B xz.m xz.d)) (fun vs W=>match vs with|[]=>True|_=>∃ p A l_ c B k_ d,Bl W 36 g18 [.bool p,.slice A l_ c,.slice B k_ d]/\Qr w W (.agg #[.bool p,.slice A l_ c,.slice B k_ d]) (s-absQ rx.q*(g.q-f.q))/\Rr W w.heap.size 3 1 ics fv fl/\CandR w W (.slice (some ⟨gw,ow,none⟩) N cw) ys/\Bl W 26 w.heap.size [.int .i64 l.n,.slice aA an ac,.slice (some ⟨gb,ob,none⟩) bn bc,.slice (some ⟨gc,oc,none⟩) cn cc,.slice (some ⟨gd,od,none⟩) dn dc,.slice (some ⟨ge,oe,none⟩) en ec,.slice fA fn fc]/\Bl W 85 (w.heap.size+1) [.bool up,.bool sb,.slice As ls cs,.slice Bs ms ds_,.bool true]/\Bl W 156 g20 [.int .i64 (j:Int),.bool x.b,.slice x.A x.l x.k,.slice x.B x.m x.d]/\Yg w W) (fun w w'=>Yg w w') 0 [⟨[],[(0,103),(1,104),(2,105),(3,106),(4,107),(5,108),(7,110),(8,111),(9,112),(10,113),(11,114),(12,115),(13,116),(14,117),(15,118),(16,119),(17,120),(18,121)],[],[(6,109,fun v W=>∃ p A l_ c B k_ d,v=.agg #[.bool p,.slice A l_ c,.slice B k_ d]/\Qv W 6 (.agg #[.bool p,.slice A l_ c,.slice B k_ d]) (absQ rx.q)),(19,122,fun v W=>∃ p A l_ c B k_ d,v=.agg #[.bool p,.slice A l_ c,.slice B k_ d]/\Qr w W (.agg #[.bool p,.slice A l_ c,.slice B k_ d]) (g.q-f.q))]⟩,⟨[(20,123)],[(0,103)],[],[(21,124,fun v W=>∃ p A l_ c B k_ d,v=.agg #[.bool p,.slice A l_ c,.slice B k_ d]/\Qr w W (.agg #[.bool p,.slice A l_ c,.slice B k_ d]) (s-absQ rx.q*(g.q-f.q)))]⟩,⟨[(6,109),(19,122)],[],[],[(20,123,fun v W=>∃ p A l_ c B k_ d,v=.agg #[.bool p,.slice A l_ c,.slice B k_ d]/\Qr w W (.agg #[.bool p,.slice A l_ c,.slice B k_ d]) (absQ rx.q*(g.q-f.q)))]⟩] [] [⟨22,none,[(21,124)],[],[]⟩] ⟨[(6,109),(19,122),(20,123),(21,124)],[(0,103),(1,104),(2,105),(3,106),(4,107),(5,108),(7,110),(8,111),(9,112),(10,113),(11,114),(12,115),(13,116),(14,117),(15,118),(16,119),(17,120),(18,121)],[],[]⟩ ⟨below_nil,Bl.ld (H8.p2.keep below_nil) 4 rfl,Bl.ld (H8.p2.keep below_nil) 5 rfl,Bl.ld (H8.p5.keep below_nil) 0 rfl,Bl.ld (H8.p4.keep below_nil) 0 rfl,Bl.ld (H8.p4.keep below_nil) 1 rfl,Bl.ld (H8.p4.keep below_nil) 2 rfl,(HY.out _ (Yb H8.q7 below_nil)).2⟩ (trivial) (fun _ _ h b=>⟨(Yb h.1 b),Bl.ld (H8.p2.keep (Yb h.1 b)) 4 rfl,Bl.ld (H8.p2.keep (Yb h.1 b)) 5 rfl,Bl.ld (H8.p5.keep (Yb h.1 b)) 0 rfl,Bl.ld (H8.p4.keep (Yb h.1 b)) 0 rfl,Bl.ld (H8.p4.keep (Yb h.1 b)) 1 rfl,Bl.ld (H8.p4.keep (Yb h.1 b)) 2 rfl,(HY.out _ (Yb H8.q7 (Yb h.1 b))).2⟩) (fun vs _ _ h b=>match vs,h with|[],_=>trivial|_::_,⟨p,A,l,c,B,k,d,h1,h2,h3,h4,h5,h6,h7,h8⟩=>⟨p,A,l,c,B,k,d,h1.keep b,h2.keep b,h3.keep b,h4.keep b,h5.keep b,h6.keep b,h7.keep b,Yb h8 b⟩) ⟨fun _ _ _ ⟨p,A,l,c,B,k,d,e,h⟩ b=>⟨p,A,l,c,B,k,d,e,h.keep b⟩,fun _ _ _ ⟨p,A,l,c,B,k,d,e,h⟩ b=>⟨p,A,l,c,B,k,d,e,h.keep b⟩,⟨fun _ _ _ ⟨p,A,l,c,B,k,d,e,h⟩ b=>⟨p,A,l,c,B,k,d,e,h.keep b⟩,fun _ _ _ ⟨p,A,l,c,B,k,d,e,h⟩ b=>⟨p,A,l,c,B,k,d,e,h.keep b⟩,⟨fun _ _ _ ⟨p,A,l,c,B,k,d,e,h⟩ b=>⟨p,A,l,c,B,k,d,e,h.keep b⟩,fun _ _ _ ⟨p,A,l,c,B,k,d,e,h⟩ b=>⟨p,A,l,c,B,k,d,e,h.keep b⟩,⟨fun _ _ _ ⟨p,A,l,c,B,k,d,e,h⟩ b=>⟨p,A,l,c,B,k,d,e,h.keep b⟩,fun _ _ _ ⟨p,A,l,c,B,k,d,e,h⟩ b=>⟨p,A,l,c,B,k,d,e,h.keep b⟩,trivial⟩⟩⟩⟩ ⟨?_,?_,?_,trivial⟩ trivial ⟨?_,trivial⟩ ?_
         · rintro W hS
           refine gvN ?_;(repeat refine flA ?_);refine flN (flN ?_)
           refine flK (fun K hK=>?_) (flK (fun K hK=>?_) flL)
           · go_simp
             go_at_call 93;refine (dist_v (HV.q2.keep (Yb H8.q7 hS.1)) Yd Yd).mono ?_;rintro e W2 ⟨v,rfl,h,hb⟩;obtain ⟨p,A,l_,c,B,k_,d,rfl⟩:=h.parts
             go_wp2_with fail
             exact hK.out _ _ ⟨⟨_,_,_,_,_,_,_,rfl,h⟩,hb⟩
           · go_simp
             go_at_call 98;refine (sub_v (HV.p1.keep (Yb H8.q7 hS.1)) (HV.p0.keep (Yb H8.q7 hS.1)) Yd Yd Yd Yd).mono ?_;rintro e W2 ⟨v,rfl,h⟩;obtain ⟨p,A,l_,c,B,k_,d,rfl⟩:=h.qo.parts
             go_wp2_with fail
             exact hK.out _ _ ⟨⟨_,_,_,_,_,_,_,rfl,h.from (Yb H8.q7 hS.1)⟩,h.below⟩
         · rintro W hS v20 ⟨p20,A20,l20,c20,B20,k20,d20,rfl,h20⟩
           refine gvN ?_;(repeat refine flA ?_);refine flN (flN ?_)
           refine flK (fun K hK=>?_) flL
           go_simp
           go_at_call 98;refine (sub_v ((H8.p6.keepT (KeepT.below hS.1) (Yb H8.q7 hS.1)).qv (Yb H8.q7 hS.1) HI.p1 Yo) (h20.qv HZW.q1) Yo Yd (by have:=HL20.out;omega) Yd).mono ?_;rintro e W2 ⟨v,rfl,h⟩;obtain ⟨p,A,l_,c,B,k_,d,rfl⟩:=h.qo.parts
           go_wp2_with fail
           exact hK.out _ _ ⟨⟨_,_,_,_,_,_,_,rfl,h.from (Yb H8.q7 hS.1)⟩,h.below⟩
         · rintro W hS v6 ⟨p6,A6,l6,c6,B6,k6,d6,rfl,h6⟩ v19 ⟨p19,A19,l19,c19,B19,k19,d19,rfl,h19⟩
           refine gvN ?_;refine flN (flN ?_)
           refine flK (fun K hK=>?_) flL
           go_simp
           go_at_call 57;refine (mul_v h6 (h19.qv HZW.p0) Yd Yd Yd Yd).mono ?_;rintro e W2 ⟨v,rfl,h⟩;obtain ⟨p,A,l_,c,B,k_,d,rfl⟩:=h.qo.parts
           go_wp2_with fail
           exact hK.out _ _ ⟨⟨_,_,_,_,_,_,_,rfl,h.from (Yb H8.q7 hS.1)⟩,h.below⟩
         · rintro W hS - v21 ⟨p21,A21,l21,c21,B21,k21,d21,rfl,h21⟩
           have hS:=hS flY
           refine gvN ?_;refine flN (flN ?_)
           refine flC fun K hK=>?_
           have X:=H8.p4.keep hS.1
           have f0:=Bl.fr X 0
           have f1:=Bl.fr X 1
           have f2:=Bl.fr X 2
           have r0:=Bl.ld X 0 rfl
           have r1:=Bl.ld X 1 rfl
           have r2:=Bl.ld X 2 rfl
           go_simp
           clear f0 f1 f2 r0 r1 r2
           have b3:=below3 (Yb H8.q7 hS.1) (by have:=HG.out;omega:w.heap.size<=g18) (.bool p21) (.slice A21 l21 c21) (.slice B21 k21 d21)
           exact hK.out undef _ ⟨⟨_,_,_,_,_,_,_,X.set3 rfl (.bool p21) (.slice A21 l21 c21) (.slice B21 k21 d21),h21.keepT (X.keep3 Yd (.bool p21) (.slice A21 l21 c21) (.slice B21 k21 d21)) b3,Rr.keepT (H8.p0.keep hS.1) (X.keep3 Yd (.bool p21) (.slice A21 l21 c21) (.slice B21 k21 d21)),(H8.p1.keep hS.1).keepT (X.keep3 Yd (.bool p21) (.slice A21 l21 c21) (.slice B21 k21 d21)) (X.keep3 Yd (.bool p21) (.slice A21 l21 c21) (.slice B21 k21 d21)) b3,(H8.p2.keep hS.1).other3 (by have:=HG.out;omega) (.bool p21) (.slice A21 l21 c21) (.slice B21 k21 d21),(H8.p3.keep hS.1).other3 (by have:=HG.out;omega) (.bool p21) (.slice A21 l21 c21) (.slice B21 k21 d21),(H8.p5.keep hS.1).other3 (by have:=HG20.out;omega) (.bool p21) (.slice A21 l21 c21) (.slice B21 k21 d21),b3⟩,fun h=>flX h⟩
         rintro W hS c22 ⟨pn,An,ln,cn_,Bn,kn,dn_,Xn,hqn,hrn,hcn,hln,htn,h20n,hbn⟩ v6 ⟨_,p6,A6,l6,c6,B6,k6,d6,rfl,-⟩ v19 ⟨_,p19,A19,l19,c19,B19,k19,d19,rfl,-⟩ v20 ⟨_,p20,A20,l20,c20,B20,k20,d20,rfl,-⟩ v21 ⟨_,p21,A21,l21,c21,B21,k21,d21,rfl,-⟩
         clear hS
         refine gvN ?_;(repeat refine flA ?_);refine flN (flN ?_)
         obtain ⟨W9,hWW⟩:∃ X,X=W:=⟨_,rfl⟩
         subst hWW
         have H9:=Yh8 Xn hqn hrn hcn hln htn h20n hbn
         clear Xn hqn hrn hcn hln htn h20n hbn H8 HV HY
         have HSN:Hid (Sz (6+20*(k2+1)) (s - absQ rx.q*(g.q - f.q))):=by
          have e1:=HI.p1.add HZW.q1.neg
          rw [<- Rat.sub_eq_add_neg,show 6+20*k2+19+1=6+20*(k2+1) by omega] at e1
          exact e1
         have HL21:Hid (6+20*(k2+1)<=1000):=(by have:=HL20.out;show _<=_;omega)
         have z0:=Bl.ld H9.p0 0 rfl
         have z1:=Bl.ld H9.p0 1 rfl
         have z2:=Bl.ld H9.p0 2 rfl
         go_wp2_with fail
         refine (sign_v (H9.p1.qv HSN.out) (by have:=HL21.out;omega)).mono ?_;rintro e w10 ⟨rfl,hb⟩
         skip
         have HA:=Yh8 (H9.p0.keep hb) (H9.p1.keep hb) (H9.p2.keep hb) (H9.p3.keep hb) (H9.p4.keep hb) (H9.p5.keep hb) (H9.p6.keep hb) (Yb H9.q7 hb)
         clear hb H9 z0 z1 z2
         have c0_:=Bl.ld HA.p6 0 rfl
         have HGN:=Lib.hid (HI.p0.symm.trans HGO.out)
         by_cases hsg:sgnQ (s - absQ rx.q*(g.q - f.q))<=0
         · skip
           have HSG:=Lib.hid hsg
           go_wp2_with fail
           go_ret3
           exact ⟨(j:Int),fl,true,_,rfl,HA.p2,HA.q7,fun _=>⟨_,HP.p0,HP.q1,HGN.out.trans (by rw [HHS.out,HWN.out];show (if _ then (x.c,fl,true) else if _ then (x.c,fl,true) else _)=_;rw [HXC.out,if_pos HSG.out];simp)⟩⟩
         have HSG:=Lib.hid hsg
         have hfl:fl.length<=14:=by have:=HI.q2;omega
         have HFL:=Lib.hid hfl
         clear hfl
         have hal:=Ya w10 (.cells #[.int .i64 (j:Int)] 3)
         go_wp2_with (at_builtin;refine app_els (w0:=w) (f:=ics) (x:=(j:Int)) Tryz.underlying73 int_info ⟨Yd,rfl,Yd⟩ ics_len ics_one rfl (.tmp 131) (.tmp 134) rfl rfl rfl (HA.p2.keep hal) (Bl.new w10 _ _) (by have:=HFL.out;omega) (Yb HA.q7 hal) ?_;intro u2 w11 k1 k2_ k3 k4)
         have HGE:Hid (goEnter true (hasN l) (fun c=>absN rs c*wideN l c) ((ys.map Tm.t).drop (k2+1)) (s - absQ rx.q*(g.q - f.q)) (fl++[(j:Int)])=goEnter true (hasN l) (fun c=>absN rs c*wideN l c) (ys.map Tm.t) sh.q []):=by
          have e1:=HGN.out
          rw [HHS.out,HWN.out,if_neg (by decide),if_neg (Int.not_le.2 HSG.out)] at e1
          rw [e1]
          show _=goEnter _ _ _ _ _ (fl++[x.c])
          rw [HXC.out]
         have hbz:∀ T,3≠T->KeepT T w10 w11:=fun T hT=>(KeepT.below hal).trans (k3 T hT)
         have HF:Hid (Rr w11 w.heap.size 3 1 ics u2 (fl++[(j:Int)])/\CandR w w11 (.slice (some ⟨gw,ow,none⟩) N cw) ys/\Bl w11 26 w.heap.size [.int .i64 l.n,.slice aA an ac,.slice (some ⟨gb,ob,none⟩) bn bc,.slice (some ⟨gc,oc,none⟩) cn cc,.slice (some ⟨gd,od,none⟩) dn dc,.slice (some ⟨ge,oe,none⟩) en ec,.slice fA fn fc]/\Bl w11 85 (w.heap.size+1) [.bool up,.bool sb,.slice As ls cs,.slice Bs ms ds_,.bool true]/\Bl w11 36 g18 [.bool pn,.slice An ln cn_,.slice Bn kn dn_]/\Qr w w11 (.agg #[.bool pn,.slice An ln cn_,.slice Bn kn dn_]) (s - absQ rx.q*(g.q - f.q))):=⟨k1,HA.p3.keepT (hbz _ Yd) (hbz _ Yd) k2_,(hbz _ Yd).bl HA.p4,(hbz _ Yd).bl HA.p5,(hbz _ Yd).bl HA.p0,HA.p1.keepT (hbz _ Yd) k2_⟩
         clear HA k1 k2_ k3 k4 hal hbz c0_
         go_wp2_with fail
         case roundEnd=>exact ⟨⟨k2+1,fl++[(j:Int)],_,pn,An,ln,cn_,Bn,kn,dn_,_,by go_num,rfl,Yo,HGE.out,HSN.out,.inr HF.q5,HF.p0,by have:=HI.q2;rw [List.length_append];simp only [List.length_cons,List.length_nil];omega,HF.p1,HF.p2,HF.p3,HF.p4⟩,by simp [intOf];omega⟩
    obtain rfl:k2=N:=by omega
    have HGN:Hid (goEnter flip (hasN l) (fun c=>absN rs c*wideN l c) (ys.map Tm.t) sh.q []=(0,[],false)):=by
     have e1:=H.p0
     rw [List.drop_eq_nil_of_le (by rw [List.length_map,HYN.out];exact Nat.le_refl _)] at e1
     exact e1.symm
    go_wp2_with fail
    go_ret3
    exact ⟨0,[],false,_,rfl,Rr.nil _ _ _ _ _,HB.out,fun _=>⟨_,HP.p0,HP.q1,HGN.out⟩⟩
end
end
end Go.Proofs.YtaajajngnmaggaaGreat
