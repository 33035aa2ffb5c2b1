import Derived.Test.YtaajajngnmaggaaGreatENA19
set_option maxRecDepth 100000
set_option maxHeartbeats 8000000
set_option linter.unusedVariables false
set_option linter.unusedSimpArgs false
namespace Go.Proofs.YtaajajngnmaggaaGreat
section
section
open Go Go.RowKit Go.Proofs Pl
theorem el_ex {l:LPx} {xs:List Fx} {c:Nat} (hfit:fitsOne l xs.length) (hc:c<xs.length):∃ bl bh f g x,l.hasLo[c]?=some bl/\l.hasHi[c]?=some bh/\l.lo[c]?=some f/\l.hi[c]?=some g/\xs[c]?=some x:=by
 unfold fitsOne at hfit
 exact ⟨_,_,_,_,_,List.getElem?_eq_getElem Yo,List.getElem?_eq_getElem Yo,List.getElem?_eq_getElem Yo,List.getElem?_eq_getElem Yo,List.getElem?_eq_getElem hc⟩
end
end
section
section
open Go Go.RowKit Go.Proofs Pl
def fixedQ (bl bh:Bool) (lo hi:Rat):Bool:=bl && bh && decide (cmpQ lo hi=0)
def mayQ (s g:Int) (up fx:Bool):Bool:=
 let t:=if up=true then g else -g
 if s=1 then decide (t<0) && !fx else if s=2 then decide (0<t) && !fx else if s=4 then decide (t≠0) && !fx else false
def absQ (q:Rat):Rat:=if q<0 then -q else q
def orI (a b:Int):Int:=if a≠0 then a else b
theorem sgnQ_cases (q:Rat):sgnQ q=-1∨sgnQ q=0∨sgnQ q=1:=by
 unfold sgnQ signZ
 split
 · simp
 · split<;>simp
theorem sgn_lt0 (q:Rat):decide (sgnQ q<0)=decide (q<0):=by
 have h2:q<0↔q.num<0:=by rw [Rat.lt_iff];simp
 refine decide_eq_decide.2 ?_
 rw [h2]
 unfold sgnQ signZ
 split<;>(try split)<;>omega
theorem absQ_sz {L:Nat} {q:Rat} (h:Sz L q):Sz L (absQ q):=by
 unfold absQ
 split
 · exact sz_neg h
 · exact h
theorem absQ_nz {q:Rat} (h:q≠0):absQ q≠0:=by
 unfold absQ
 split
 · exact fun e=>h (by have:=congrArg (fun x=>-x) e;simpa using this)
 · exact h
theorem beq_dec (a b:Int):(a==b)=(true && true && decide (a=b)):=by
 rw [Bool.true_and,Bool.true_and]
 rfl
theorem fixed_v {w:World} {v:Value} {l:LPx} {k:Nat} {f g:Fx} {bl bh:Bool} (h:LPv w v l) (hbl:l.hasLo[k]?=some bl) (hbh:l.hasHi[k]?=some bh) (hf:l.lo[k]?=some f) (hg:l.hi[k]?=some g) (h6:f.xs.length<=6) (h7:f.ds.length<=6) (h8:g.xs.length<=6) (h9:g.ds.length<=6):
 Calls Tryz.prog 99 #[v,.int .i64 (k:Int)] w fun e w'=>e=.returned (.bool (fixedQ bl bh f.q g.q))/\Yg w w':=by
 obtain ⟨aA,an,ac,bA,bn,bc,cA,cn,cc,dA,dn,dc,eA,en,ec,fA,fn,fc,rfl,hP,hla,hlb,hlc,hld,hle,hlf,hma,hmb,hmc,hmd,hme,hmf⟩:=h.open
 have HS:=Lib.hid hP
 clear hP hma hmb hmc hmd hme hmf
 obtain ⟨gb,ob,qb,e,hgb,zb0⟩:=HS.p1.at_ hbl
 rw [hlb] at e
 injection e with e1 e2 e3
 subst e1
 clear e2 e3 qb
 have kb:k<bn:=by rw [<- hlb];exact (List.getElem?_eq_some_iff.1 hbl).1
 have ixb:(k:Int)<(bn:Int):=Yo
 obtain ⟨gc,oc,qc,e,hgc,zc0⟩:=HS.p2.at_ hbh
 rw [hlc] at e
 injection e with e1 e2 e3
 subst e1
 clear e2 e3 qc
 have kc:k<cn:=by rw [<- hlc];exact (List.getElem?_eq_some_iff.1 hbh).1
 have ixc:(k:Int)<(cn:Int):=Yo
 obtain ⟨gd,od,qd,xd,e,hgd,hvd,zd0,zd1,zd2⟩:=HS.p3.at_ hf
 rw [hld] at e
 injection e with e1 e2 e3
 subst e1
 clear e2 e3 qd
 have kd:k<dn:=by rw [<- hld];exact (List.getElem?_eq_some_iff.1 hf).1
 have ixd:(k:Int)<(dn:Int):=Yo
 obtain ⟨ge,oe,qe,xe,e,hge,hve,ze0,ze1,ze2⟩:=HS.p4.at_ hg
 rw [hle] at e
 injection e with e1 e2 e3
 subst e1
 clear e2 e3 qe
 have ke:k<en:=by rw [<- hle];exact (List.getElem?_eq_some_iff.1 hg).1
 have ixe:(k:Int)<(en:Int):=Yo
 have HC:Hid (∀ W,Yg w W->W.cell? ⟨gb,ob+k,none⟩=some (.bool bl)/\W.cell? ⟨gc,oc+k,none⟩=some (.bool bh)/\W.cell? ⟨gd,od+k*3,none⟩=some (.bool xd.b)/\W.cell? ⟨gd,od+k*3+1,none⟩=some (.slice xd.A xd.l xd.k)/\W.cell? ⟨gd,od+k*3+2,none⟩=some (.slice xd.B xd.m xd.d)/\W.cell? ⟨ge,oe+k*3,none⟩=some (.bool xe.b)/\W.cell? ⟨ge,oe+k*3+1,none⟩=some (.slice xe.A xe.l xe.k)/\W.cell? ⟨ge,oe+k*3+2,none⟩=some (.slice xe.B xe.m xe.d)):=fun W b=>⟨(b.cell (p:=⟨gb,_,none⟩) hgb).trans zb0,(b.cell (p:=⟨gc,_,none⟩) hgc).trans zc0,(b.cell (p:=⟨gd,_,none⟩) hgd).trans zd0,(b.cell (p:=⟨gd,_,none⟩) hgd).trans zd1,(b.cell (p:=⟨gd,_,none⟩) hgd).trans zd2,(b.cell (p:=⟨ge,_,none⟩) hge).trans ze0,(b.cell (p:=⟨ge,_,none⟩) hge).trans ze1,(b.cell (p:=⟨ge,_,none⟩) hge).trans ze2⟩
 clear zb0 hgb
 clear zc0 hgc
 have HVd:=Lib.hid hvd
 clear zd0 zd1 zd2 hvd hgd
 have HVe:=Lib.hid hve
 clear ze0 ze1 ze2 hve hge
 have HV:=Yh2 (HVd.out.qv h6 h7) (HVe.out.qv h8 h9)
 clear HVd HVe hf hg hbl hbh h hla hlb hlc hld hle hlf h6 h7 h8 h9
 change Calls Tryz.prog 99 #[.agg #[.int .i64 l.n,.slice aA an ac,.slice (some ⟨gb,ob,none⟩) bn bc,.slice (some ⟨gc,oc,none⟩) cn cc,.slice (some ⟨gd,od,none⟩) dn dc,.slice (some ⟨ge,oe,none⟩) en ec,.slice fA fn fc],.int .i64 (k:Int)] w _
 go_enter Tryz.func99,Tryz.ntmps99
 go_upto_region 1 with (fail)
 obtain ⟨hX,hB⟩:=box1 w 26 [.int .i64 l.n,.slice aA an ac,.slice (some ⟨gb,ob,none⟩) bn bc,.slice (some ⟨gc,oc,none⟩) cn cc,.slice (some ⟨gd,od,none⟩) dn dc,.slice (some ⟨ge,oe,none⟩) en ec,.slice fA fn fc]
 have HX:=Yh2 hX hB
 clear hX hB
 generalize w.alloc _=W0 at HX ⊢
 cases bl with
 | true=>
  cases bh with
  | true=>
   refine flow (fun W=>Yg W0 W/\W.cell? ⟨w.heap.size,2,none⟩=some (.slice (some ⟨gb,ob,none⟩) bn bc)/\W.cell? ⟨w.heap.size,3,none⟩=some (.slice (some ⟨gc,oc,none⟩) cn cc)/\W.cell? ⟨w.heap.size,4,none⟩=some (.slice (some ⟨gd,od,none⟩) dn dc)/\W.cell? ⟨w.heap.size,5,none⟩=some (.slice (some ⟨ge,oe,none⟩) en ec)/\W.cell? ⟨gb,ob+k,none⟩=some (.bool true)/\W.cell? ⟨gc,oc+k,none⟩=some (.bool true)/\W.cell? ⟨gd,od+k*3,none⟩=some (.bool xd.b)/\W.cell? ⟨gd,od+k*3+1,none⟩=some (.slice xd.A xd.l xd.k)/\W.cell? ⟨gd,od+k*3+2,none⟩=some (.slice xd.B xd.m xd.d)/\W.cell? ⟨ge,oe+k*3,none⟩=some (.bool xe.b)/\W.cell? ⟨ge,oe+k*3+1,none⟩=some (.slice xe.A xe.l xe.k)/\W.cell? ⟨ge,oe+k*3+2,none⟩=some (.slice xe.B xe.m xe.d)) (fun _ _=>True) (fun _ _=>False) 0 [⟨[],[(0,5),(1,6),(2,7),(3,8),(4,9),(5,10),(6,11),(7,12),(8,13),(9,14),(10,15),(11,16),(12,17),(13,18),(14,19),(15,20),(16,21),(17,22),(18,23),(19,24),(20,25),(21,26),(22,27)],[],[(23,28,fun v W=>v=.int .i64 (cmpQ f.q g.q))]⟩,⟨[(23,28)],[(0,5),(1,6),(2,7),(3,8),(4,9),(5,10),(6,11),(7,12),(8,13),(9,14),(10,15),(11,16),(12,17),(24,29),(25,30),(26,4)],[],[]⟩] [] [] ⟨[(23,28)],[(0,5),(1,6),(2,7),(3,8),(4,9),(5,10),(6,11),(7,12),(8,13),(9,14),(10,15),(11,16),(12,17),(13,18),(14,19),(15,20),(16,21),(17,22),(18,23),(19,24),(20,25),(21,26),(22,27),(24,29),(25,30),(26,4)],[],[]⟩ ⟨below_nil,Bl.ld (HX.p0.keep below_nil) 2 rfl,Bl.ld (HX.p0.keep below_nil) 3 rfl,Bl.ld (HX.p0.keep below_nil) 4 rfl,Bl.ld (HX.p0.keep below_nil) 5 rfl,HC.out _ (Yb HX.q1 below_nil)⟩ (trivial) (fun _ _ h b=>⟨(Yb h.1 b),Bl.ld (HX.p0.keep (Yb h.1 b)) 2 rfl,Bl.ld (HX.p0.keep (Yb h.1 b)) 3 rfl,Bl.ld (HX.p0.keep (Yb h.1 b)) 4 rfl,Bl.ld (HX.p0.keep (Yb h.1 b)) 5 rfl,HC.out _ (Yb HX.q1 (Yb h.1 b))⟩) (fun _ _ _ h _=>h) ⟨fun _ _ _ h _=>h,fun _ _ _ _ h=>h.elim,trivial⟩ ⟨?_,?_,trivial⟩ trivial trivial ?_
   · rintro W hS
     refine gvN ?_;(repeat first|refine flA ?_|refine flB ?_);refine flN (flN ?_)
     refine flK (fun K hK=>?_) flL
     go_simp
     go_at_call 89;refine (cmp_v (HV.p0.keep (Yb HX.q1 hS.1)) (HV.q1.keep (Yb HX.q1 hS.1)) Yd Yd Yd Yd).mono ?_;rintro e W2 ⟨rfl,hb⟩
     go_wp2_with fail
     exact hK.out _ _ ⟨rfl,hb⟩
   · rintro W hS v23 rfl
     refine gvN ?_;(repeat first|refine flA ?_|refine flB ?_);refine flN (flN ?_)
     exact flL
   rintro W hS - v23 rfl
   have hS:=hS flY
   refine gvN ?_;(repeat first|refine flA ?_|refine flB ?_);refine flN (flN ?_)
   go_wp2_with fail
   go_ret
   exact ⟨congrArg (fun b=>Ending.returned (.bool b)) (beq_dec _ _),Yb HX.q1 hS.1⟩
  | false=>
   refine flow (fun W=>Yg W0 W/\W.cell? ⟨w.heap.size,2,none⟩=some (.slice (some ⟨gb,ob,none⟩) bn bc)/\W.cell? ⟨w.heap.size,3,none⟩=some (.slice (some ⟨gc,oc,none⟩) cn cc)/\W.cell? ⟨w.heap.size,4,none⟩=some (.slice (some ⟨gd,od,none⟩) dn dc)/\W.cell? ⟨w.heap.size,5,none⟩=some (.slice (some ⟨ge,oe,none⟩) en ec)/\W.cell? ⟨gb,ob+k,none⟩=some (.bool true)/\W.cell? ⟨gc,oc+k,none⟩=some (.bool false)/\W.cell? ⟨gd,od+k*3,none⟩=some (.bool xd.b)/\W.cell? ⟨gd,od+k*3+1,none⟩=some (.slice xd.A xd.l xd.k)/\W.cell? ⟨gd,od+k*3+2,none⟩=some (.slice xd.B xd.m xd.d)/\W.cell? ⟨ge,oe+k*3,none⟩=some (.bool xe.b)/\W.cell? ⟨ge,oe+k*3+1,none⟩=some (.slice xe.A xe.l xe.k)/\W.cell? ⟨ge,oe+k*3+2,none⟩=some (.slice xe.B xe.m xe.d)) (fun _ _=>True) (fun _ _=>False) 0 [⟨[],[(0,5),(1,6),(2,7),(3,8),(4,9),(5,10),(6,11),(7,12),(8,13),(9,14),(10,15),(11,16),(12,17),(13,18),(14,19),(15,20),(16,21),(17,22),(18,23),(19,24),(20,25),(21,26),(22,27)],[],[(23,28,fun v W=>v=undef)]⟩,⟨[(23,28)],[(0,5),(1,6),(2,7),(3,8),(4,9),(5,10),(6,11),(7,12),(8,13),(9,14),(10,15),(11,16),(12,17),(24,29),(25,30),(26,4)],[],[]⟩] [] [] ⟨[(23,28)],[(0,5),(1,6),(2,7),(3,8),(4,9),(5,10),(6,11),(7,12),(8,13),(9,14),(10,15),(11,16),(12,17),(13,18),(14,19),(15,20),(16,21),(17,22),(18,23),(19,24),(20,25),(21,26),(22,27),(24,29),(25,30),(26,4)],[],[]⟩ ⟨below_nil,Bl.ld (HX.p0.keep below_nil) 2 rfl,Bl.ld (HX.p0.keep below_nil) 3 rfl,Bl.ld (HX.p0.keep below_nil) 4 rfl,Bl.ld (HX.p0.keep below_nil) 5 rfl,HC.out _ (Yb HX.q1 below_nil)⟩ (trivial) (fun _ _ h b=>⟨(Yb h.1 b),Bl.ld (HX.p0.keep (Yb h.1 b)) 2 rfl,Bl.ld (HX.p0.keep (Yb h.1 b)) 3 rfl,Bl.ld (HX.p0.keep (Yb h.1 b)) 4 rfl,Bl.ld (HX.p0.keep (Yb h.1 b)) 5 rfl,HC.out _ (Yb HX.q1 (Yb h.1 b))⟩) (fun _ _ _ h _=>h) ⟨fun _ _ _ h _=>h,fun _ _ _ _ h=>h.elim,trivial⟩ ⟨?_,?_,trivial⟩ trivial trivial ?_
   · rintro W hS
     refine gvN ?_;(repeat first|refine flA ?_|refine flB ?_);refine flN (flN ?_)
     refine flK (fun K hK=>?_) flL
     go_simp
     exact hK.out _ _ ⟨rfl,below_nil⟩
   · rintro W hS v23 rfl
     refine gvN ?_;(repeat first|refine flA ?_|refine flB ?_);refine flN (flN ?_)
     exact flL
   rintro W hS - v23 rfl
   have hS:=hS flY
   refine gvN ?_;(repeat first|refine flA ?_|refine flB ?_);refine flN (flN ?_)
   go_wp2_with fail
   go_ret
   exact ⟨rfl,Yb HX.q1 hS.1⟩
 | false=>
  refine flow (fun W=>Yg W0 W/\W.cell? ⟨w.heap.size,2,none⟩=some (.slice (some ⟨gb,ob,none⟩) bn bc)/\W.cell? ⟨w.heap.size,3,none⟩=some (.slice (some ⟨gc,oc,none⟩) cn cc)/\W.cell? ⟨w.heap.size,4,none⟩=some (.slice (some ⟨gd,od,none⟩) dn dc)/\W.cell? ⟨w.heap.size,5,none⟩=some (.slice (some ⟨ge,oe,none⟩) en ec)/\W.cell? ⟨gb,ob+k,none⟩=some (.bool false)/\W.cell? ⟨gc,oc+k,none⟩=some (.bool bh)/\W.cell? ⟨gd,od+k*3,none⟩=some (.bool xd.b)/\W.cell? ⟨gd,od+k*3+1,none⟩=some (.slice xd.A xd.l xd.k)/\W.cell? ⟨gd,od+k*3+2,none⟩=some (.slice xd.B xd.m xd.d)/\W.cell? ⟨ge,oe+k*3,none⟩=some (.bool xe.b)/\W.cell? ⟨ge,oe+k*3+1,none⟩=some (.slice xe.A xe.l xe.k)/\W.cell? ⟨ge,oe+k*3+2,none⟩=some (.slice xe.B xe.m xe.d)) (fun _ _=>True) (fun _ _=>False) 0 [⟨[],[(0,5),(1,6),(2,7),(3,8),(4,9),(5,10),(6,11),(7,12),(8,13),(9,14),(10,15),(11,16),(12,17),(13,18),(14,19),(15,20),(16,21),(17,22),(18,23),(19,24),(20,25),(21,26),(22,27)],[],[(23,28,fun v W=>v=undef)]⟩,⟨[(23,28)],[(0,5),(1,6),(2,7),(3,8),(4,9),(5,10),(6,11),(7,12),(8,13),(9,14),(10,15),(11,16),(12,17),(24,29),(25,30),(26,4)],[],[]⟩] [] [] ⟨[(23,28)],[(0,5),(1,6),(2,7),(3,8),(4,9),(5,10),(6,11),(7,12),(8,13),(9,14),(10,15),(11,16),(12,17),(13,18),(14,19),(15,20),(16,21),(17,22),(18,23),(19,24),(20,25),(21,26),(22,27),(24,29),(25,30),(26,4)],[],[]⟩ ⟨below_nil,Bl.ld (HX.p0.keep below_nil) 2 rfl,Bl.ld (HX.p0.keep below_nil) 3 rfl,Bl.ld (HX.p0.keep below_nil) 4 rfl,Bl.ld (HX.p0.keep below_nil) 5 rfl,HC.out _ (Yb HX.q1 below_nil)⟩ (trivial) (fun _ _ h b=>⟨(Yb h.1 b),Bl.ld (HX.p0.keep (Yb h.1 b)) 2 rfl,Bl.ld (HX.p0.keep (Yb h.1 b)) 3 rfl,Bl.ld (HX.p0.keep (Yb h.1 b)) 4 rfl,Bl.ld (HX.p0.keep (Yb h.1 b)) 5 rfl,HC.out _ (Yb HX.q1 (Yb h.1 b))⟩) (fun _ _ _ h _=>h) ⟨fun _ _ _ h _=>h,fun _ _ _ _ h=>h.elim,trivial⟩ ⟨?_,?_,trivial⟩ trivial trivial ?_
  · rintro W hS
    refine gvN ?_;(repeat first|refine flA ?_|refine flB ?_);refine flN (flN ?_)
    refine flK (fun K hK=>?_) flL
    go_simp
    exact hK.out _ _ ⟨rfl,below_nil⟩
  · rintro W hS v23 rfl
    refine gvN ?_;(repeat first|refine flA ?_|refine flB ?_);refine flN (flN ?_)
    exact flL
  rintro W hS - v23 rfl
  have hS:=hS flY
  refine gvN ?_;(repeat first|refine flA ?_|refine flB ?_);refine flN (flN ?_)
  go_wp2_with fail
  go_ret
  exact ⟨rfl,Yb HX.q1 hS.1⟩
theorem may_v {w:World} {v u:Value} {l:LPx} {k L:Nat} {f g:Fx} {bl bh up:Bool} {s:Int} {q:Rat} (h:LPv w v l) (hbl:l.hasLo[k]?=some bl) (hbh:l.hasHi[k]?=some bh) (hf:l.lo[k]?=some f) (hg:l.hi[k]?=some g) (hx:Qv w L u q) (hL:L<=137438953472) (h6:f.xs.length<=6) (h7:f.ds.length<=6) (h8:g.xs.length<=6) (h9:g.ds.length<=6):
 Calls Tryz.prog 92 #[v,.int .i64 (k:Int),.int .i64 s,u,.bool up] w fun e w'=>e=.returned (.bool (mayQ s (sgnQ q) up (fixedQ bl bh f.q g.q)))/\Yg w w':=by
 obtain ⟨fx,hfx⟩:∃ b,fixedQ bl bh f.q g.q=b:=⟨_,rfl⟩
 rw [hfx]
 have HFE:=Lib.hid hfx
 clear hfx
 have HE:=Yh9 h hbl hbh hf hg h6 h7 h8 h9
 have HU:=Yh2 hx hL
 obtain ⟨bx,Ax,lx,cx,Bx,kx,dx,rfl⟩:=hx.parts
 obtain ⟨aA,an,ac,bA,bn,bc,cA,cn,cc,dA,dn,dc,eA,en,ec,fA,fn,fc,rfl,hP,hla,hlb,hlc,hld,hle,hlf,hma,hmb,hmc,hmd,hme,hmf⟩:=h.open
 have HS:=Lib.hid HE.p0
 clear hP hla hlb hlc hld hle hlf hma hmb hmc hmd hme hmf hx hL hbl hbh hf hg h6 h7 h8 h9 h
 change Calls Tryz.prog 92 #[.agg #[.int .i64 l.n,.slice aA an ac,.slice bA bn bc,.slice cA cn cc,.slice dA dn dc,.slice eA en ec,.slice fA fn fc],.int .i64 (k:Int),.int .i64 s,.agg #[.bool bx,.slice Ax lx cx,.slice Bx kx dx],.bool up] w _
 go_enter Tryz.func92,Tryz.ntmps92
 go_upto_region 1 with (fail)
 obtain ⟨hX,hY,hB⟩:=box2 w 26 36 [.int .i64 l.n,.slice aA an ac,.slice bA bn bc,.slice cA cn cc,.slice dA dn dc,.slice eA en ec,.slice fA fn fc] [.bool bx,.slice Ax lx cx,.slice Bx kx dx]
 have HX:=Yh3 hX hY hB
 clear hX hY hB
 generalize (w.alloc _).alloc _=W0 at HX ⊢
 have y0:=Bl.ld HX.p1 0 rfl
 have y1:=Bl.ld HX.p1 1 rfl
 have y2:=Bl.ld HX.p1 2 rfl
 go_wp2_with fail
 refine (sign_v (HU.p0.keep HX.q2) HU.q1).mono ?_;rintro e w1 ⟨rfl,hb⟩
 have H1:=Yh2 (HX.p0.keep hb) (Yb HX.q2 hb)
 clear hb HX y0 y1 y2
 have HFX:Hid (∀ W,Yg w W->Calls Tryz.prog 99 #[.agg #[.int .i64 l.n,.slice aA an ac,.slice bA bn bc,.slice cA cn cc,.slice dA dn dc,.slice eA en ec,.slice fA fn fc],.int .i64 (k:Int)] W fun e w'=>e=.returned (.bool fx)/\Yg W w'):=fun W b=>by rw [<- HFE.out];exact fixed_v (HS.out.keep b) HE.p1 HE.p2 HE.p3 HE.p4 HE.p5 HE.p6 HE.p7 HE.q8
 clear HE HS HFE
 have l0:=Bl.ld H1.p0 0 rfl
 have l1:=Bl.ld H1.p0 1 rfl
 have l2:=Bl.ld H1.p0 2 rfl
 have l3:=Bl.ld H1.p0 3 rfl
 have l4:=Bl.ld H1.p0 4 rfl
 have l5:=Bl.ld H1.p0 5 rfl
 have l6:=Bl.ld H1.p0 6 rfl
 rcases sgnQ_cases q with hz | hz | hz<;>rw [hz]<;>cases up<;>(
  by_cases h1:s=1
  · subst h1
    go_wp2_with (refine (HFX.out _ H1.q1).mono ?_;rintro e w2 ⟨rfl,hb⟩)
    go_ret
    refine ⟨?_,by first | exact Yb H1.q1 hb | exact H1.q1⟩
    cases fx<;>exact congrArg (fun b:Bool=>Ending.returned (Value.bool b)) (by rw [hz];decide)
  · by_cases h2:s=2
    · subst h2
      go_wp2_with (refine (HFX.out _ H1.q1).mono ?_;rintro e w2 ⟨rfl,hb⟩)
      go_ret
      refine ⟨?_,by first | exact Yb H1.q1 hb | exact H1.q1⟩
      cases fx<;>exact congrArg (fun b:Bool=>Ending.returned (Value.bool b)) (by rw [hz];decide)
    · by_cases h4:s=4
      · subst h4
        go_wp2_with (refine (HFX.out _ H1.q1).mono ?_;rintro e w2 ⟨rfl,hb⟩)
        go_ret
        refine ⟨?_,by first | exact Yb H1.q1 hb | exact H1.q1⟩
        cases fx<;>exact congrArg (fun b:Bool=>Ending.returned (Value.bool b)) (by rw [hz];decide)
      · have e1:(s==1)=false:=beq_eq_false_iff_ne.2 h1
        have e2:(s==2)=false:=beq_eq_false_iff_ne.2 h2
        have e4:(s==4)=false:=beq_eq_false_iff_ne.2 h4
        go_wp2_with fail
        go_ret
        exact ⟨by unfold mayQ;dsimp only;rw [if_neg h1,if_neg h2,if_neg h4];rfl,H1.q1⟩)
theorem dist_v {w:World} {u:Value} {L:Nat} {q:Rat} (hx:Qv w L u q) (h0:0<L) (hL:L<=17179869184):
 Calls Tryz.prog 93 #[u] w fun e w'=>∃ v,e=.returned v/\Qv w' L v (absQ q)/\Yg w w':=by
 have HU:=Yh3 hx h0 hL
 obtain ⟨bx,Ax,lx,cx,Bx,kx,dx,rfl⟩:=hx.parts
 clear hx h0 hL
 go_enter Tryz.func93,Tryz.ntmps93
 go_upto_region 1 with (fail)
 obtain ⟨hX,hR,hB⟩:=box2 w 36 36 [.bool bx,.slice Ax lx cx,.slice Bx kx dx] [.bool false,.slice none 0 0,.slice none 0 0]
 have HX:=Yh3 hX hR hB
 clear hX hR hB
 generalize (w.alloc _).alloc _=W0 at HX ⊢
 have y0:=Bl.ld HX.p0 0 rfl
 have y1:=Bl.ld HX.p0 1 rfl
 have y2:=Bl.ld HX.p0 2 rfl
 go_wp2_with fail
 refine (sign_v (HU.p0.keep HX.q2) (by have:=HU.out;omega)).mono ?_;rintro e w1 ⟨rfl,hb⟩
 have H1:=Yh3 (HX.p0.keep hb) (HX.p1.keep hb) (Yb HX.q2 hb)
 clear hb HX y0 y1 y2
 have y0:=Bl.ld H1.p0 0 rfl
 have y1:=Bl.ld H1.p0 1 rfl
 have y2:=Bl.ld H1.p0 2 rfl
 by_cases hs:sgnQ q<0
 · skip
   have hq:absQ q=-q:=by rw [absQ,if_pos (of_decide_eq_true ((sgn_lt0 q).symm.trans (decide_eq_true hs)))]
   have HQ:=Lib.hid hq
   clear hq
   go_wp2_with fail
   refine (neg_v (HU.p0.keep H1.q2) HU.p1 HU.q2).mono ?_;rintro e w2 ⟨v,rfl,h⟩
   obtain ⟨p,A,l_,c,B,k_,d,rfl⟩:=h.qo.parts
   have X:=H1.p1.keep h.below
   have f0:=Bl.fr X 0
   have f1:=Bl.fr X 1
   have f2:=Bl.fr X 2
   have r0:=Bl.ld X 0 rfl
   have r1:=Bl.ld X 1 rfl
   have r2:=Bl.ld X 2 rfl
   go_wp2_with fail
   refine ret_bl (X.set3 rfl (.bool p) (.slice A l_ c) (.slice B k_ d)) (fun W2 hW=>by have d0:=hW 0 _ rfl;have d1:=hW 1 _ rfl;have d2:=hW 2 _ rfl;simp [results,Tryz.results93,go_sem,d0,d1,d2];try rfl) rfl ?_
   have b2:=below3 (Yb H1.q2 h.below) (by omega:w.heap.size<=w.heap.size+1) (.bool p) (.slice A l_ c) (.slice B k_ d)
   exact ⟨_,rfl,by rw [HQ.out];exact (((h.from H1.q2).keepT (X.keep3 Yd (.bool p) (.slice A l_ c) (.slice B k_ d)) b2).qv (sz_neg (HU.p0.sz HU.p1))),b2⟩
 have hq:absQ q=q:=by rw [absQ,if_neg (of_decide_eq_false ((sgn_lt0 q).symm.trans (decide_eq_false hs)))]
 have HQ:=Lib.hid hq
 clear hq
 have X:=H1.p1
 have f0:=Bl.fr X 0
 have f1:=Bl.fr X 1
 have f2:=Bl.fr X 2
 have r0:=Bl.ld X 0 rfl
 have r1:=Bl.ld X 1 rfl
 have r2:=Bl.ld X 2 rfl
 go_wp2_with fail
 refine ret_bl (X.set3 rfl (.bool bx) (.slice Ax lx cx) (.slice Bx kx dx)) (fun W2 hW=>by have d0:=hW 0 _ rfl;have d1:=hW 1 _ rfl;have d2:=hW 2 _ rfl;simp [results,Tryz.results93,go_sem,d0,d1,d2];try rfl) rfl ?_
 have b2:=below3 H1.q2 (by omega:w.heap.size<=w.heap.size+1) (.bool bx) (.slice Ax lx cx) (.slice Bx kx dx)
 exact ⟨_,rfl,by rw [HQ.out];exact HU.p0.keep b2,b2⟩
theorem or2_i {w:World} {g:Nat} {a b:Int} (X:Bl w 3 g [.int .i64 a,.int .i64 b]):
 Calls Tryz.prog 96 #[.slice (some ⟨g,0,none⟩) 2 2] w fun e w'=>e=.returned (.int .i64 (orI a b))/\Yg w w':=by
 have HX:=Lib.hid X
 clear X
 go_enter Tryz.func96,Tryz.ntmps96
 go_wp2_with fail
 go_loopw [8] (fun z wr=>∃ i:Nat,z=.int .i64 (i:Int)/\i<=2/\Hid ((0<i->a=0)/\(1<i->b=0)/\w=wr)) (fun z _=>2 - (intOf z).toNat)
 case atStart=>exact ⟨0,rfl,Yd,fun h=>absurd h Yd,fun h=>absurd h Yd,rfl⟩
 case round=>
  obtain ⟨i,rfl,hi,H⟩:=hrel
  obtain rfl:=H.q2
  rcases (show i=0∨i=1∨i=2 by omega) with rfl | rfl | rfl
  · have c0:=Bl.ld HX.out 0 rfl
    by_cases ha:a=0
    · subst ha
      go_wp2_with fail
      case roundEnd=>exact ⟨⟨1,rfl,Yd,by simp,by simp,by simp⟩,by simp [intOf]⟩
    · have hb:(a !=0)=true:=bne_iff_ne.2 ha
      have HA:=Lib.hid ha
      go_wp2_with fail
      go_ret
      exact ⟨by rw [show orI a b=a from if_pos HA.out];rfl,Below.refl _ _⟩
  · have c1:=Bl.ld HX.out 1 rfl
    have ha:=H.p0 Yd
    by_cases hb0:b=0
    · subst hb0
      go_wp2_with fail
      case roundEnd=>exact ⟨⟨2,rfl,Yd,by simp [ha],by simp,by simp⟩,by simp [intOf]⟩
    · have hb:(b !=0)=true:=bne_iff_ne.2 hb0
      have HA:=Lib.hid ha
      clear ha
      go_wp2_with fail
      go_ret
      exact ⟨by rw [show orI a b=b from if_neg (by rw [HA.out];decide)];rfl,Below.refl _ _⟩
  · have HA:=Yh2 (H.p0 Yd) (H.p1 Yd)
    go_wp2_with fail
    go_ret
    exact ⟨by rw [show orI a b=0 from (if_neg (by rw [HA.p0];decide)).trans HA.q1];rfl,Below.refl _ _⟩
end
end
section
section
open Go Go.RowKit Go.Proofs Pl
def CandR (w0 w:World) (v:Value) (xs:List Tm):Prop:=Rr w w0.heap.size 156 4 Tm.cs v xs/\(∀ x∈xs,Qr w0 w x.num x.q)/\Yg w0 w
theorem CandR.keep {w0 w w':World} {v:Value} {xs:List Tm} (h:CandR w0 w v xs) (hb:Below w.heap.size w w'):CandR w0 w' v xs:=⟨Rr.keep h.1 hb,fun x hx=>(h.2.1 x hx).keep hb,Yb h.2.2 hb⟩
theorem CandR.nil {w0 w:World} (hb:Below w0.heap.size w0 w):CandR w0 w (.slice none 0 0) []:=⟨Rr.nil _ _ _ _ _,fun _ h=>(by cases h),hb⟩
theorem cand_info:(Tryz.prog.info? 156).map (fun i=>(i.zero,i.size,i.bytes))=some (some (.agg #[.int .i64 0,.bool false,.slice none 0 0,.slice none 0 0]),4,64):=by kernel_rfl
def candK (may:Nat->Bool) (q:Nat->Rat):Nat->List (Int × Rat)
 | 0=>[]
 | k+1=>if may k=true then candK may q k++[((k:Int),q k)] else candK may q k
theorem candK_len {may:Nat->Bool} {q:Nat->Rat}:∀ k,(candK may q k).length<=k
 | 0=>Nat.le_refl _
 | k+1=>by
  unfold candK
  have:=@candK_len may q k
  split
  · rw [List.length_append];simp only [List.length_cons,List.length_nil];omega
  · omega
theorem candK_yes {may:Nat->Bool} {q:Nat->Rat} {k:Nat} (h:may k=true):candK may q (k+1)=candK may q k++[((k:Int),q k)]:=if_pos h
theorem candK_no {may:Nat->Bool} {q:Nat->Rat} {k:Nat} (h:may k=false):candK may q (k+1)=candK may q k:=if_neg (by rw [h];decide)
def fixN (l:LPx) (k:Nat):Bool:=fixedQ (l.hasLo.getD k false) (l.hasHi.getD k false) (l.lo.getD k fx0).q (l.hi.getD k fx0).q
def mayN (l:LPx) (st:List Int) (rs:List Fx) (up:Bool) (k:Nat):Bool:=mayQ (st.getD k 0) (sgnQ (rs.getD k fx0).q) up (fixN l k)
def ratN (ds rs:List Fx) (k:Nat):Rat:=absQ (ds.getD k fx0).q / absQ (rs.getD k fx0).q
def candX (l:LPx) (st:List Int) (ds rs:List Fx) (up:Bool) (k:Nat):List (Int × Rat):=candK (mayN l st rs up) (ratN ds rs) k
def ltC (a b:Int × Rat):Bool:=decide (orI (cmpQ a.2 b.2) (cmpZ a.1 b.1)<0)
def SortedC (L:List (Int × Rat)):Prop:=L.Pairwise fun a b=>ltC b a=false
def SortsC (w0:World) (v:Value) (xs:List Tm) (w':World):Prop:=∃ ys,CandR w0 w' v ys/\(ys.map Tm.t).Perm (xs.map Tm.t)/\SortedC (ys.map Tm.t)
def hasN (l:LPx) (c:Int):Bool:=l.hasLo.getD c.toNat false && l.hasHi.getD c.toNat false
def wideN (l:LPx) (c:Int):Rat:=(l.hi.getD c.toNat fx0).q - (l.lo.getD c.toNat fx0).q
def absN (rs:List Fx) (c:Int):Rat:=absQ (rs.getD c.toNat fx0).q
def goEnter (flip:Bool) (has:Int->Bool) (step:Int->Rat):List (Int × Rat)->Rat->List Int->Int × List Int × Bool
 | [],_,_=>(0,[],false)
 | c::L,rest,fl=>if (!flip || !has c.1)=true then (c.1,fl,true) else if sgnQ (rest - step c.1)<=0 then (c.1,fl,true) else goEnter flip has step L (rest - step c.1) (fl++[c.1])
theorem mayQ_nz {s g:Int} {up fx:Bool} (h:mayQ s g up fx=true):g≠0:=fun e=>by
 subst e
 unfold mayQ at h
 cases up<;>cases fx<;>simp at h
theorem fits3 {l:LPx} {a b c:Nat} (h:fitsX l [(a:Int),(b:Int),(c:Int)]=true):fitsOne l a/\a=b/\a=c:=by
 simp only [fitsX,allIs,List.cons_append,List.nil_append,List.all_cons,List.all_nil,Bool.and_true,Bool.and_eq_true,beq_iff_eq] at h
 unfold fitsOne;omega
theorem bitsLen_any {n:Nat} {w:World} (h:n<=1):Calls Tryz.prog 151 #[.int .u64 (n:Int)] w fun e w'=>(∃ z:Int,e=.returned (.int .i64 z))/\w'=w:=
 (Tryz.bits_Len (n:Int) w Yo Yo).mono fun _ _ ⟨he,hw⟩=>⟨⟨_,he⟩,hw⟩
theorem ins01 {w:World} {A:Option Addr} {n c:Nat} {fv:Value} (h:n<=1):
 Calls Tryz.prog 180 #[.slice A n c,.int .i64 0,.int .i64 (n:Int),fv] w fun e w'=>e=.returned (.tuple #[])/\w'=w:=by
 go_enter Tryz.func180,Tryz.ntmps180
 go_wp2_with fail
 go_loopw [8] (fun z wr=>z=.int .i64 1/\Hid (w=wr)) (fun _ _=>0)
 case atStart=>exact ⟨rfl,rfl⟩
 case round=>
  obtain ⟨rfl,H⟩:=hrel
  obtain rfl:=H.out
  have hn:¬((1:Int)<(n:Int)):=Yo
  go_wp2_with fail
  go_end0
  exact ⟨rfl,rfl⟩
theorem pdq01 {w:World} {A:Option Addr} {n c:Nat} {fv:Value} {z:Int} (h:n<=1):
 Calls Tryz.prog 150 #[.slice A n c,.int .i64 0,.int .i64 (n:Int),.int .i64 z,fv] w fun e w'=>e=.returned (.tuple #[])/\w'=w:=by
 go_enter Tryz.func150,Tryz.ntmps150
 go_wp2_with fail
 go_loopw [1,2,3] (fun a b d wr=>a=.int .i64 0/\b=.int .i64 (n:Int)/\(∃ z:Int,d=.int .i64 z)/\Hid (w=wr)) (fun _ _ _ _=>0)
 case atStart=>exact ⟨rfl,rfl,⟨_,rfl⟩,rfl⟩
 case round=>
  obtain ⟨rfl,rfl,⟨z,rfl⟩,H⟩:=hrel
  obtain rfl:=H.out
  have hn:(n:Int)<=12:=Yo
  have hn2:(n:Int) - 0=(n:Int):=Yo
  go_wp2_with fail
  refine (ins01 h).mono ?_;rintro e w2 ⟨rfl,rfl⟩
  go_wp2_with fail
  (try simp only [Exit.inBlock,Exit.then]);refine bodyPost_ret (results_none rfl _ _ _) rfl ?_
  exact ⟨rfl,rfl⟩
theorem sort01 {w:World} {A:Option Addr} {n c:Nat} {fv:Value} (h:n<=1):
 Calls Tryz.prog 94 #[.slice A n c,fv] w fun e w'=>e=.returned (.tuple #[])/\w'=w:=by
 have hu:IntKind.u64.wrap (n:Int)=(n:Int):=by rw [IntKind.wrap_u64];omega
 go_enter Tryz.func94,Tryz.ntmps94
 go_wp2_with fail
 refine (bitsLen_any h).mono ?_;rintro e w2 ⟨⟨z,rfl⟩,rfl⟩
 go_wp2_with fail
 refine (pdq01 h).mono ?_;rintro e w2 ⟨rfl,rfl⟩
 go_wp2_with fail
 go_end0
 exact ⟨rfl,rfl⟩
end
end
end Go.Proofs.YtaajajngnmaggaaGreat
