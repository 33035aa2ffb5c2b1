import Derived.Test.YtaajajngnmaggaaGreatENA22
set_option maxRecDepth 100000
set_option maxHeartbeats 8000000
set_option linter.unusedVariables false
set_option linter.unusedSimpArgs false
namespace Go.Proofs.YtaajajngnmaggaaGreat
section
section
open Go Go.RowKit Go.Proofs Pl
namespace I
theorem fixed_d {w:World} {v:Value} {l:LPx} {k:Nat} {f g:Fx} {bl bh:Bool} (h:LPv w v l) (hbl:l.hasLo[k]?=some bl) (hbh:l.hasHi[k]?=some bh) (hf:l.lo[k]?=some f) (hg:l.hi[k]?=some g) (h6:f.xs.length<=6) (h7:f.ds.length<=6) (h8:g.xs.length<=6) (h9:g.ds.length<=6):
 Calls Tryz.prog 103 #[v,.int .i64 (k:Int)] w fun e w'=>e=.returned (.bool (fixedQ bl bh f.q g.q))/\Yg w w':=by
 obtain ⟨aA,an,ac,bA,bn,bc,cA,cn,cc,dA,dn,dc,eA,en,ec,fA,fn,fc,rfl,hP,hla,hlb,hlc,hld,hle,hlf,hma,hmb,hmc,hmd,hme,hmf⟩:=h.open
 have HS:=Lib.hid hP
 clear hP hma hmb hmc hmd hme hmf
 obtain ⟨gb,ob,qb,e,hgb,zb0⟩:=HS.p1.at_ hbl
 rw [hlb] at e
 injection e with e1 e2 e3
 subst e1
 clear e2 e3 qb
 have kb:k<bn:=by rw [<- hlb];exact (List.getElem?_eq_some_iff.1 hbl).1
 have ixb:(k:Int)<(bn:Int):=Yo
 obtain ⟨gc,oc,qc,e,hgc,zc0⟩:=HS.p2.at_ hbh
 rw [hlc] at e
 injection e with e1 e2 e3
 subst e1
 clear e2 e3 qc
 have kc:k<cn:=by rw [<- hlc];exact (List.getElem?_eq_some_iff.1 hbh).1
 have ixc:(k:Int)<(cn:Int):=Yo
 obtain ⟨gd,od,qd,xd,e,hgd,hvd,zd0,zd1,zd2⟩:=HS.p3.at_ hf
 rw [hld] at e
 injection e with e1 e2 e3
 subst e1
 clear e2 e3 qd
 have kd:k<dn:=by rw [<- hld];exact (List.getElem?_eq_some_iff.1 hf).1
 have ixd:(k:Int)<(dn:Int):=Yo
 obtain ⟨ge,oe,qe,xe,e,hge,hve,ze0,ze1,ze2⟩:=HS.p4.at_ hg
 rw [hle] at e
 injection e with e1 e2 e3
 subst e1
 clear e2 e3 qe
 have ke:k<en:=by rw [<- hle];exact (List.getElem?_eq_some_iff.1 hg).1
 have ixe:(k:Int)<(en:Int):=Yo
 have HC:Hid (∀ W,Yg w W->W.cell? ⟨gb,ob+k,none⟩=some (.bool bl)/\W.cell? ⟨gc,oc+k,none⟩=some (.bool bh)/\W.cell? ⟨gd,od+k*3,none⟩=some (.bool xd.b)/\W.cell? ⟨gd,od+k*3+1,none⟩=some (.slice xd.A xd.l xd.k)/\W.cell? ⟨gd,od+k*3+2,none⟩=some (.slice xd.B xd.m xd.d)/\W.cell? ⟨ge,oe+k*3,none⟩=some (.bool xe.b)/\W.cell? ⟨ge,oe+k*3+1,none⟩=some (.slice xe.A xe.l xe.k)/\W.cell? ⟨ge,oe+k*3+2,none⟩=some (.slice xe.B xe.m xe.d)):=fun W b=>⟨(b.cell (p:=⟨gb,_,none⟩) hgb).trans zb0,(b.cell (p:=⟨gc,_,none⟩) hgc).trans zc0,(b.cell (p:=⟨gd,_,none⟩) hgd).trans zd0,(b.cell (p:=⟨gd,_,none⟩) hgd).trans zd1,(b.cell (p:=⟨gd,_,none⟩) hgd).trans zd2,(b.cell (p:=⟨ge,_,none⟩) hge).trans ze0,(b.cell (p:=⟨ge,_,none⟩) hge).trans ze1,(b.cell (p:=⟨ge,_,none⟩) hge).trans ze2⟩
 clear zb0 hgb
 clear zc0 hgc
 have HVd:=Lib.hid hvd
 clear zd0 zd1 zd2 hvd hgd
 have HVe:=Lib.hid hve
 clear ze0 ze1 ze2 hve hge
 have HV:=Yh2 (HVd.out.qv h6 h7) (HVe.out.qv h8 h9)
 clear HVd HVe hf hg hbl hbh h hla hlb hlc hld hle hlf h6 h7 h8 h9
 change Calls Tryz.prog 103 #[.agg #[.int .i64 l.n,.slice aA an ac,.slice (some ⟨gb,ob,none⟩) bn bc,.slice (some ⟨gc,oc,none⟩) cn cc,.slice (some ⟨gd,od,none⟩) dn dc,.slice (some ⟨ge,oe,none⟩) en ec,.slice fA fn fc],.int .i64 (k:Int)] w _
 go_enter Tryz.func103,Tryz.ntmps103
 go_upto_region 1 with (fail)
 obtain ⟨hX,hB⟩:=box1 w 26 [.int .i64 l.n,.slice aA an ac,.slice (some ⟨gb,ob,none⟩) bn bc,.slice (some ⟨gc,oc,none⟩) cn cc,.slice (some ⟨gd,od,none⟩) dn dc,.slice (some ⟨ge,oe,none⟩) en ec,.slice fA fn fc]
 have HX:=Yh2 hX hB
 clear hX hB
 generalize w.alloc _=W0 at HX ⊢
 cases bl with
 | true=>
  cases bh with
  | true=>
   refine flow (fun W=>Yg W0 W/\W.cell? ⟨w.heap.size,2,none⟩=some (.slice (some ⟨gb,ob,none⟩) bn bc)/\W.cell? ⟨w.heap.size,3,none⟩=some (.slice (some ⟨gc,oc,none⟩) cn cc)/\W.cell? ⟨w.heap.size,4,none⟩=some (.slice (some ⟨gd,od,none⟩) dn dc)/\W.cell? ⟨w.heap.size,5,none⟩=some (.slice (some ⟨ge,oe,none⟩) en ec)/\W.cell? ⟨gb,ob+k,none⟩=some (.bool true)/\W.cell? ⟨gc,oc+k,none⟩=some (.bool true)/\W.cell? ⟨gd,od+k*3,none⟩=some (.bool xd.b)/\W.cell? ⟨gd,od+k*3+1,none⟩=some (.slice xd.A xd.l xd.k)/\W.cell? ⟨gd,od+k*3+2,none⟩=some (.slice xd.B xd.m xd.d)/\W.cell? ⟨ge,oe+k*3,none⟩=some (.bool xe.b)/\W.cell? ⟨ge,oe+k*3+1,none⟩=some (.slice xe.A xe.l xe.k)/\W.cell? ⟨ge,oe+k*3+2,none⟩=some (.slice xe.B xe.m xe.d)) (fun _ _=>True) (fun _ _=>False) 0 [⟨[],[(0,5),(1,6),(2,7),(3,8),(4,9),(5,10),(6,11),(7,12),(8,13),(9,14),(10,15),(11,16),(12,17),(13,18),(14,19),(15,20),(16,21),(17,22),(19,24),(20,25),(21,26),(22,27),(23,28)],[],[(18,23,fun v W=>∃ p5 A5 l5 c5 B5 k5 d5,v=.agg #[.bool p5,.slice A5 l5 c5,.slice B5 k5 d5]/\Qe W 30 (.agg #[.bool p5,.slice A5 l5 c5,.slice B5 k5 d5]) f.q),(24,29,fun v W=>∃ p6 A6 l6 c6 B6 k6 d6,v=.agg #[.bool p6,.slice A6 l6 c6,.slice B6 k6 d6]/\Qe W 30 (.agg #[.bool p6,.slice A6 l6 c6,.slice B6 k6 d6]) g.q)]⟩,⟨[(25,30)],[(0,5),(1,6),(2,7),(3,8),(4,9),(5,10),(6,11),(7,12),(8,13),(9,14),(10,15),(11,16),(12,17),(26,31),(27,32),(28,4)],[],[]⟩,⟨[(18,23),(24,29)],[(0,5),(1,6),(2,7),(3,8),(4,9),(5,10),(6,11),(7,12),(8,13),(9,14),(10,15),(11,16),(12,17)],[],[(25,30,fun v W=>v=.int .i64 (cmpQ f.q g.q))]⟩] [] [] ⟨[(18,23),(24,29),(25,30)],[(0,5),(1,6),(2,7),(3,8),(4,9),(5,10),(6,11),(7,12),(8,13),(9,14),(10,15),(11,16),(12,17),(13,18),(14,19),(15,20),(16,21),(17,22),(19,24),(20,25),(21,26),(22,27),(23,28),(26,31),(27,32),(28,4)],[],[]⟩ ⟨below_nil,Bl.ld (HX.p0.keep below_nil) 2 rfl,Bl.ld (HX.p0.keep below_nil) 3 rfl,Bl.ld (HX.p0.keep below_nil) 4 rfl,Bl.ld (HX.p0.keep below_nil) 5 rfl,HC.out _ (Yb HX.q1 below_nil)⟩ (trivial) (fun _ _ h b=>⟨(Yb h.1 b),Bl.ld (HX.p0.keep (Yb h.1 b)) 2 rfl,Bl.ld (HX.p0.keep (Yb h.1 b)) 3 rfl,Bl.ld (HX.p0.keep (Yb h.1 b)) 4 rfl,Bl.ld (HX.p0.keep (Yb h.1 b)) 5 rfl,HC.out _ (Yb HX.q1 (Yb h.1 b))⟩) (fun _ _ _ h _=>h) ⟨fun _ _ _ ⟨p,A,l,c,B,k,d,e,h⟩ b=>⟨p,A,l,c,B,k,d,e,h.keep b⟩,fun _ _ _ _ h=>h.elim,⟨fun _ _ _ ⟨p,A,l,c,B,k,d,e,h⟩ b=>⟨p,A,l,c,B,k,d,e,h.keep b⟩,fun _ _ _ _ h=>h.elim,⟨fun _ _ _ h _=>h,fun _ _ _ _ h=>h.elim,trivial⟩⟩⟩ ⟨?_,?_,?_,trivial⟩ trivial trivial ?_
   · rintro W hS
     refine gvN ?_;(repeat first|refine flA ?_|refine flB ?_);refine flN (flN ?_)
     refine flK (fun K hK=>?_) (flK (fun K hK=>?_) flL)
     · go_simp
       go_at_call 41;refine (of_e (HV.p0.keep (Yb HX.q1 hS.1)) Yd Yd).mono ?_;rintro e W2 ⟨v,rfl,h,hb⟩
       obtain ⟨p,A,l_,c,B,k_,d,rfl⟩:=h.parts
       go_wp2_with fail
       exact hK.out _ _ ⟨⟨_,_,_,_,_,_,_,rfl,h⟩,hb⟩
     · go_simp
       go_at_call 41;refine (of_e (HV.q1.keep (Yb HX.q1 hS.1)) Yd Yd).mono ?_;rintro e W2 ⟨v,rfl,h,hb⟩
       obtain ⟨p,A,l_,c,B,k_,d,rfl⟩:=h.parts
       go_wp2_with fail
       exact hK.out _ _ ⟨⟨_,_,_,_,_,_,_,rfl,h⟩,hb⟩
   · rintro W hS v25 rfl
     refine gvN ?_;(repeat first|refine flA ?_|refine flB ?_);refine flN (flN ?_)
     exact flL
   · rintro W hS v18 ⟨p5,A5,l5,c5,B5,k5,d5,rfl,h5⟩ v24 ⟨p6,A6,l6,c6,B6,k6,d6,rfl,h6⟩
     refine gvN ?_;(repeat first|refine flA ?_|refine flB ?_);refine flN (flN ?_)
     refine flK (fun K hK=>?_) flL
     go_simp
     go_at_call 40;refine (cmp_e h5 h6 Yd Yd Yd Yd).mono ?_;rintro e W2 ⟨rfl,hb⟩
     go_wp2_with fail
     exact hK.out _ _ ⟨rfl,hb⟩
   rintro W hS - v18 ⟨p5,A5,l5,c5,B5,k5,d5,rfl,h5⟩ v24 ⟨p6,A6,l6,c6,B6,k6,d6,rfl,h6⟩ v25 rfl
   have hS:=hS flY
   refine gvN ?_;(repeat first|refine flA ?_|refine flB ?_);refine flN (flN ?_)
   go_wp2_with fail
   go_ret
   exact ⟨congrArg (fun b=>Ending.returned (.bool b)) (beq_dec _ _),Yb HX.q1 hS.1⟩
  | false=>
   refine flow (fun W=>Yg W0 W/\W.cell? ⟨w.heap.size,2,none⟩=some (.slice (some ⟨gb,ob,none⟩) bn bc)/\W.cell? ⟨w.heap.size,3,none⟩=some (.slice (some ⟨gc,oc,none⟩) cn cc)/\W.cell? ⟨w.heap.size,4,none⟩=some (.slice (some ⟨gd,od,none⟩) dn dc)/\W.cell? ⟨w.heap.size,5,none⟩=some (.slice (some ⟨ge,oe,none⟩) en ec)/\W.cell? ⟨gb,ob+k,none⟩=some (.bool true)/\W.cell? ⟨gc,oc+k,none⟩=some (.bool false)/\W.cell? ⟨gd,od+k*3,none⟩=some (.bool xd.b)/\W.cell? ⟨gd,od+k*3+1,none⟩=some (.slice xd.A xd.l xd.k)/\W.cell? ⟨gd,od+k*3+2,none⟩=some (.slice xd.B xd.m xd.d)/\W.cell? ⟨ge,oe+k*3,none⟩=some (.bool xe.b)/\W.cell? ⟨ge,oe+k*3+1,none⟩=some (.slice xe.A xe.l xe.k)/\W.cell? ⟨ge,oe+k*3+2,none⟩=some (.slice xe.B xe.m xe.d)) (fun _ _=>True) (fun _ _=>False) 0 [⟨[],[(0,5),(1,6),(2,7),(3,8),(4,9),(5,10),(6,11),(7,12),(8,13),(9,14),(10,15),(11,16),(12,17),(13,18),(14,19),(15,20),(16,21),(17,22),(19,24),(20,25),(21,26),(22,27),(23,28)],[],[(18,23,fun v W=>v=undef),(24,29,fun v W=>v=undef)]⟩,⟨[(25,30)],[(0,5),(1,6),(2,7),(3,8),(4,9),(5,10),(6,11),(7,12),(8,13),(9,14),(10,15),(11,16),(12,17),(26,31),(27,32),(28,4)],[],[]⟩,⟨[(18,23),(24,29)],[(0,5),(1,6),(2,7),(3,8),(4,9),(5,10),(6,11),(7,12),(8,13),(9,14),(10,15),(11,16),(12,17)],[],[(25,30,fun v W=>v=undef)]⟩] [] [] ⟨[(18,23),(24,29),(25,30)],[(0,5),(1,6),(2,7),(3,8),(4,9),(5,10),(6,11),(7,12),(8,13),(9,14),(10,15),(11,16),(12,17),(13,18),(14,19),(15,20),(16,21),(17,22),(19,24),(20,25),(21,26),(22,27),(23,28),(26,31),(27,32),(28,4)],[],[]⟩ ⟨below_nil,Bl.ld (HX.p0.keep below_nil) 2 rfl,Bl.ld (HX.p0.keep below_nil) 3 rfl,Bl.ld (HX.p0.keep below_nil) 4 rfl,Bl.ld (HX.p0.keep below_nil) 5 rfl,HC.out _ (Yb HX.q1 below_nil)⟩ (trivial) (fun _ _ h b=>⟨(Yb h.1 b),Bl.ld (HX.p0.keep (Yb h.1 b)) 2 rfl,Bl.ld (HX.p0.keep (Yb h.1 b)) 3 rfl,Bl.ld (HX.p0.keep (Yb h.1 b)) 4 rfl,Bl.ld (HX.p0.keep (Yb h.1 b)) 5 rfl,HC.out _ (Yb HX.q1 (Yb h.1 b))⟩) (fun _ _ _ h _=>h) ⟨fun _ _ _ h _=>h,fun _ _ _ _ h=>h.elim,⟨fun _ _ _ h _=>h,fun _ _ _ _ h=>h.elim,⟨fun _ _ _ h _=>h,fun _ _ _ _ h=>h.elim,trivial⟩⟩⟩ ⟨?_,?_,?_,trivial⟩ trivial trivial ?_
   · rintro W hS
     refine gvN ?_;(repeat first|refine flA ?_|refine flB ?_);refine flN (flN ?_)
     refine flK (fun K hK=>?_) (flK (fun K hK=>?_) flL)
     · go_simp
       exact hK.out _ _ ⟨rfl,below_nil⟩
     · go_simp
       exact hK.out _ _ ⟨rfl,below_nil⟩
   · rintro W hS v25 rfl
     refine gvN ?_;(repeat first|refine flA ?_|refine flB ?_);refine flN (flN ?_)
     exact flL
   · rintro W hS v18 rfl v24 rfl
     refine gvN ?_;(repeat first|refine flA ?_|refine flB ?_);refine flN (flN ?_)
     refine flK (fun K hK=>?_) flL
     go_simp
     exact hK.out _ _ ⟨rfl,below_nil⟩
   rintro W hS - v18 rfl v24 rfl v25 rfl
   have hS:=hS flY
   refine gvN ?_;(repeat first|refine flA ?_|refine flB ?_);refine flN (flN ?_)
   go_wp2_with fail
   go_ret
   exact ⟨rfl,Yb HX.q1 hS.1⟩
 | false=>
  refine flow (fun W=>Yg W0 W/\W.cell? ⟨w.heap.size,2,none⟩=some (.slice (some ⟨gb,ob,none⟩) bn bc)/\W.cell? ⟨w.heap.size,3,none⟩=some (.slice (some ⟨gc,oc,none⟩) cn cc)/\W.cell? ⟨w.heap.size,4,none⟩=some (.slice (some ⟨gd,od,none⟩) dn dc)/\W.cell? ⟨w.heap.size,5,none⟩=some (.slice (some ⟨ge,oe,none⟩) en ec)/\W.cell? ⟨gb,ob+k,none⟩=some (.bool false)/\W.cell? ⟨gc,oc+k,none⟩=some (.bool bh)/\W.cell? ⟨gd,od+k*3,none⟩=some (.bool xd.b)/\W.cell? ⟨gd,od+k*3+1,none⟩=some (.slice xd.A xd.l xd.k)/\W.cell? ⟨gd,od+k*3+2,none⟩=some (.slice xd.B xd.m xd.d)/\W.cell? ⟨ge,oe+k*3,none⟩=some (.bool xe.b)/\W.cell? ⟨ge,oe+k*3+1,none⟩=some (.slice xe.A xe.l xe.k)/\W.cell? ⟨ge,oe+k*3+2,none⟩=some (.slice xe.B xe.m xe.d)) (fun _ _=>True) (fun _ _=>False) 0 [⟨[],[(0,5),(1,6),(2,7),(3,8),(4,9),(5,10),(6,11),(7,12),(8,13),(9,14),(10,15),(11,16),(12,17),(13,18),(14,19),(15,20),(16,21),(17,22),(19,24),(20,25),(21,26),(22,27),(23,28)],[],[(18,23,fun v W=>v=undef),(24,29,fun v W=>v=undef)]⟩,⟨[(25,30)],[(0,5),(1,6),(2,7),(3,8),(4,9),(5,10),(6,11),(7,12),(8,13),(9,14),(10,15),(11,16),(12,17),(26,31),(27,32),(28,4)],[],[]⟩,⟨[(18,23),(24,29)],[(0,5),(1,6),(2,7),(3,8),(4,9),(5,10),(6,11),(7,12),(8,13),(9,14),(10,15),(11,16),(12,17)],[],[(25,30,fun v W=>v=undef)]⟩] [] [] ⟨[(18,23),(24,29),(25,30)],[(0,5),(1,6),(2,7),(3,8),(4,9),(5,10),(6,11),(7,12),(8,13),(9,14),(10,15),(11,16),(12,17),(13,18),(14,19),(15,20),(16,21),(17,22),(19,24),(20,25),(21,26),(22,27),(23,28),(26,31),(27,32),(28,4)],[],[]⟩ ⟨below_nil,Bl.ld (HX.p0.keep below_nil) 2 rfl,Bl.ld (HX.p0.keep below_nil) 3 rfl,Bl.ld (HX.p0.keep below_nil) 4 rfl,Bl.ld (HX.p0.keep below_nil) 5 rfl,HC.out _ (Yb HX.q1 below_nil)⟩ (trivial) (fun _ _ h b=>⟨(Yb h.1 b),Bl.ld (HX.p0.keep (Yb h.1 b)) 2 rfl,Bl.ld (HX.p0.keep (Yb h.1 b)) 3 rfl,Bl.ld (HX.p0.keep (Yb h.1 b)) 4 rfl,Bl.ld (HX.p0.keep (Yb h.1 b)) 5 rfl,HC.out _ (Yb HX.q1 (Yb h.1 b))⟩) (fun _ _ _ h _=>h) ⟨fun _ _ _ h _=>h,fun _ _ _ _ h=>h.elim,⟨fun _ _ _ h _=>h,fun _ _ _ _ h=>h.elim,⟨fun _ _ _ h _=>h,fun _ _ _ _ h=>h.elim,trivial⟩⟩⟩ ⟨?_,?_,?_,trivial⟩ trivial trivial ?_
  · rintro W hS
    refine gvN ?_;(repeat first|refine flA ?_|refine flB ?_);refine flN (flN ?_)
    refine flK (fun K hK=>?_) (flK (fun K hK=>?_) flL)
    · go_simp
      exact hK.out _ _ ⟨rfl,below_nil⟩
    · go_simp
      exact hK.out _ _ ⟨rfl,below_nil⟩
  · rintro W hS v25 rfl
    refine gvN ?_;(repeat first|refine flA ?_|refine flB ?_);refine flN (flN ?_)
    exact flL
  · rintro W hS v18 rfl v24 rfl
    refine gvN ?_;(repeat first|refine flA ?_|refine flB ?_);refine flN (flN ?_)
    refine flK (fun K hK=>?_) flL
    go_simp
    exact hK.out _ _ ⟨rfl,below_nil⟩
  rintro W hS - v18 rfl v24 rfl v25 rfl
  have hS:=hS flY
  refine gvN ?_;(repeat first|refine flA ?_|refine flB ?_);refine flN (flN ?_)
  go_wp2_with fail
  go_ret
  exact ⟨rfl,Yb HX.q1 hS.1⟩
theorem may_d {w:World} {v u:Value} {l:LPx} {k:Nat} {f g:Fx} {bl bh up:Bool} {s:Int} {q:Rat} (h:LPv w v l) (hbl:l.hasLo[k]?=some bl) (hbh:l.hasHi[k]?=some bh) (hf:l.lo[k]?=some f) (hg:l.hi[k]?=some g) (hx:Qv w 6 u q) (hs:s=1∨s=2∨s=3∨s=4) (h6:f.xs.length<=6) (h7:f.ds.length<=6) (h8:g.xs.length<=6) (h9:g.ds.length<=6):
 Calls Tryz.prog 100 #[v,.int .i64 (k:Int),.int .i64 s,u,.bool up] w fun e w'=>e=.returned (.bool (mayQ s (sgnQ q) up (fixedQ bl bh f.q g.q)))/\Yg w w':=by
 obtain ⟨fx,hfx⟩:∃ b,fixedQ bl bh f.q g.q=b:=⟨_,rfl⟩
 rw [hfx]
 have HFE:=Lib.hid hfx
 clear hfx
 have HE:=Yh9 h hbl hbh hf hg h6 h7 h8 h9
 have HU:=Lib.hid hx
 obtain ⟨bx,Ax,lx,cx,Bx,kx,dx,rfl⟩:=hx.parts
 obtain ⟨aA,an,ac,bA,bn,bc,cA,cn,cc,dA,dn,dc,eA,en,ec,fA,fn,fc,rfl,hP,hla,hlb,hlc,hld,hle,hlf,hma,hmb,hmc,hmd,hme,hmf⟩:=h.open
 have HS:=Lib.hid HE.p0
 clear hP hla hlb hlc hld hle hlf hma hmb hmc hmd hme hmf hx hbl hbh hf hg h6 h7 h8 h9 h
 change Calls Tryz.prog 100 #[.agg #[.int .i64 l.n,.slice aA an ac,.slice bA bn bc,.slice cA cn cc,.slice dA dn dc,.slice eA en ec,.slice fA fn fc],.int .i64 (k:Int),.int .i64 s,.agg #[.bool bx,.slice Ax lx cx,.slice Bx kx dx],.bool up] w _
 go_enter Tryz.func100,Tryz.ntmps100
 go_upto_region 1 with (fail)
 obtain ⟨hX,hY,hB⟩:=box2 w 26 36 [.int .i64 l.n,.slice aA an ac,.slice bA bn bc,.slice cA cn cc,.slice dA dn dc,.slice eA en ec,.slice fA fn fc] [.bool bx,.slice Ax lx cx,.slice Bx kx dx]
 have HX:=Yh3 hX hY hB
 clear hX hY hB
 generalize (w.alloc _).alloc _=W0 at HX ⊢
 have y0:=Bl.ld HX.p1 0 rfl
 have y1:=Bl.ld HX.p1 1 rfl
 have y2:=Bl.ld HX.p1 2 rfl
 go_wp2_with fail
 refine (of_e (HU.out.keep HX.q2) Yd Yd).mono ?_;rintro e w1 ⟨v,rfl,h5,hb5⟩
 obtain ⟨p5,A5,l5,c5,B5,k5,d5,rfl⟩:=h5.parts
 go_wp2_with fail
 refine (sign_e h5).mono ?_;rintro e w1b ⟨rfl,hb⟩
 have H1:=Yh2 (HX.p0.keep (Yb hb5 hb)) (Yb HX.q2 (Yb hb5 hb))
 clear hb hb5 h5 HX y0 y1 y2
 have HFX:Hid (∀ W,Yg w W->Calls Tryz.prog 103 #[.agg #[.int .i64 l.n,.slice aA an ac,.slice bA bn bc,.slice cA cn cc,.slice dA dn dc,.slice eA en ec,.slice fA fn fc],.int .i64 (k:Int)] W fun e w'=>e=.returned (.bool fx)/\Yg W w'):=fun W b=>by rw [<- HFE.out];exact fixed_d (HS.out.keep b) HE.p1 HE.p2 HE.p3 HE.p4 HE.p5 HE.p6 HE.p7 HE.q8
 clear HE HS HFE
 have l0:=Bl.ld H1.p0 0 rfl
 have l1:=Bl.ld H1.p0 1 rfl
 have l2:=Bl.ld H1.p0 2 rfl
 have l3:=Bl.ld H1.p0 3 rfl
 have l4:=Bl.ld H1.p0 4 rfl
 have l5:=Bl.ld H1.p0 5 rfl
 have l6:=Bl.ld H1.p0 6 rfl
 rcases sgnQ_cases q with hz | hz | hz<;>rw [hz]<;>rcases hs with rfl | rfl | rfl | rfl<;>cases up<;>cases fx<;>(
  go_wp2_with (refine (HFX.out _ H1.q1).mono ?_;rintro e w2 ⟨rfl,hb⟩)
  go_ret
  refine ⟨?_,by first | exact Yb H1.q1 hb | exact H1.q1⟩
  exact congrArg (fun b:Bool=>Ending.returned (Value.bool b)) (by rw [hz];decide))
theorem abs_d {w:World} {u:Value} {q:Rat} (hx:Qv w 6 u q):
 Calls Tryz.prog 101 #[u] w fun e w'=>∃ v,e=.returned v/\Qe w' 30 v (absQ q)/\Yg w w':=by
 have HU:=Lib.hid hx
 obtain ⟨bx,Ax,lx,cx,Bx,kx,dx,rfl⟩:=hx.parts
 clear hx
 go_enter Tryz.func101,Tryz.ntmps101
 go_upto_region 1 with (fail)
 obtain ⟨hX,hR,hB⟩:=box2 w 36 96 [.bool bx,.slice Ax lx cx,.slice Bx kx dx] [.bool false,.slice none 0 0,.slice none 0 0]
 have HX:=Yh3 hX hR hB
 clear hX hR hB
 generalize (w.alloc _).alloc _=W0 at HX ⊢
 have y0:=Bl.ld HX.p0 0 rfl
 have y1:=Bl.ld HX.p0 1 rfl
 have y2:=Bl.ld HX.p0 2 rfl
 go_wp2_with fail
 refine (of_e (HU.out.keep HX.q2) Yd Yd).mono ?_;rintro e w1 ⟨v,rfl,h8,hb⟩
 obtain ⟨p8,A8,l8,c8,B8,k8,d8,rfl⟩:=h8.parts
 go_upto_region 2 with (fail)
 have hal:=Ya w1 (.cells #[.bool p8,.slice A8 l8 c8,.slice B8 k8 d8] 96)
 have hbb:=Yb hb hal
 have H1:=Yh4 (Bl.new w1 96 [.bool p8,.slice A8 l8 c8,.slice B8 k8 d8]) (HX.p1.keep hbb) (Yb HX.q2 hbb) (h8.keep hal)
 obtain ⟨g8,hg8⟩:∃ g,g=w1.heap.size:=⟨_,rfl⟩
 rw [<- hg8] at H1 ⊢
 clear hal hbb hb h8 hg8 HX HU y0 y1 y2
 generalize w1.alloc _=V0 at H1 ⊢
 have y0:=Bl.ld H1.p0 0 rfl
 have y1:=Bl.ld H1.p0 1 rfl
 have y2:=Bl.ld H1.p0 2 rfl
 go_wp2_with fail
 refine (sign_e H1.q3).mono ?_;rintro e w2 ⟨rfl,hb⟩
 have H2:=Yh4 (H1.p0.keep hb) (H1.p1.keep hb) (Yb H1.p2 hb) (H1.q3.keep hb)
 clear H1 hb y0 y1 y2
 have y0:=Bl.ld H2.p0 0 rfl
 have y1:=Bl.ld H2.p0 1 rfl
 have y2:=Bl.ld H2.p0 2 rfl
 by_cases hs:sgnQ q<0
 · skip
   have hq:absQ q=-q:=by rw [absQ,if_pos (of_decide_eq_true ((sgn_lt0 q).symm.trans (decide_eq_true hs)))]
   have HQ:=Lib.hid hq
   clear hq
   go_wp2_with fail
   refine (neg_e H2.q3 Yd).mono ?_;rintro e w3 ⟨v,rfl,h,hb⟩
   obtain ⟨pz,Az,lz,cz,Bz,kz,dz,rfl⟩:=h.parts
   have X:=H2.p1.keep hb
   have f0:=Bl.fr X 0
   have f1:=Bl.fr X 1
   have f2:=Bl.fr X 2
   have r0:=Bl.ld X 0 rfl
   have r1:=Bl.ld X 1 rfl
   have r2:=Bl.ld X 2 rfl
   go_wp2_with fail
   refine ret_bl (X.set3 rfl (.bool pz) (.slice Az lz cz) (.slice Bz kz dz)) (fun W2 hW=>by have d0:=hW 0 _ rfl;have d1:=hW 1 _ rfl;have d2:=hW 2 _ rfl;simp [results,Tryz.results101,go_sem,d0,d1,d2];try rfl) rfl ?_
   rw [HQ.out]
   exact ⟨_,rfl,Qd.put3 h X _ _ _,below3 (Yb H2.p2 hb) Yo (.bool pz) (.slice Az lz cz) (.slice Bz kz dz)⟩
 have hq:absQ q=q:=by rw [absQ,if_neg (of_decide_eq_false ((sgn_lt0 q).symm.trans (decide_eq_false hs)))]
 have HQ:=Lib.hid hq
 clear hq
 have X:=H2.p1
 have h:=H2.q3
 have f0:=Bl.fr X 0
 have f1:=Bl.fr X 1
 have f2:=Bl.fr X 2
 have r0:=Bl.ld X 0 rfl
 have r1:=Bl.ld X 1 rfl
 have r2:=Bl.ld X 2 rfl
 go_wp2_with fail
 refine ret_bl (X.set3 rfl (.bool p8) (.slice A8 l8 c8) (.slice B8 k8 d8)) (fun W2 hW=>by have d0:=hW 0 _ rfl;have d1:=hW 1 _ rfl;have d2:=hW 2 _ rfl;simp [results,Tryz.results101,go_sem,d0,d1,d2];try rfl) rfl ?_
 rw [HQ.out]
 exact ⟨_,rfl,Qd.put3 h X _ _ _,below3 H2.p2 Yo (.bool p8) (.slice A8 l8 c8) (.slice B8 k8 d8)⟩
end I
end
end
section
section
open Go Go.RowKit Go.Proofs Pl
namespace I
theorem feas_d {w:World} {v u y:Value} {l:LPx} {st:List Int} {ds:List Fx} (h:LPv w v l) (hs:Iv w u st) (hd:Rx w y ds) (hf:Fit30 l) (hfit:fitsOne l ds.length) (hst:st.length=ds.length) (hds:∀ f∈ds,f.xs.length<=6/\f.ds.length<=6) (hin:∀ (i:Nat) s,st[i]?=some s->1<=s/\s<=4):
 Calls Tryz.prog 39 #[v,u,y] w fun e w'=>Saysb (fun r=>r=feasK (okN l st ds) st.length) e/\Yg w w':=by
 have hlp:=h
 obtain ⟨aA,an,ac,bA,bn,bc,cA,cn,cc,dA,dn,dc,eA,en,ec,fA,fn,fc,rfl,hP,hla,hlb,hlc,hld,hle,hlf,hma,hmb,hmc,hmd,hme,hmf⟩:=h.open
 obtain ⟨Au,cu,rfl,-,-⟩:=hs.shape
 obtain ⟨Ay,cy,rfl,-,-⟩:=hd.shape
 obtain ⟨n,hn⟩:∃ n,st.length=n:=⟨_,rfl⟩
 rw [hn] at hs hst ⊢
 rw [<- hst] at hd hfit ⊢
 have HS:=Yh3 hlp hs hd
 have HN:=Yh2 hn hst.symm
 have HZ:=Yh2 hds hf
 have HIN:=Lib.hid hin
 have HFT:=Lib.hid hfit
 have HN14:Hid (n<=14):=by have h1:=hfit.1;have h2:=hf.1.1;exact (by omega:n<=14)
 clear hP hlp hs hd hn hst hds hf hfit hin hla hlb hlc hld hle hlf hma hmb hmc hmd hme hmf h
 change Calls Tryz.prog 39 #[.agg #[.int .i64 l.n,.slice aA an ac,.slice bA bn bc,.slice cA cn cc,.slice dA dn dc,.slice eA en ec,.slice fA fn fc],.slice Au n cu,.slice Ay n cy] w _
 go_enter Tryz.func39,Tryz.ntmps39
 go_upto_region 1 with (fail)
 obtain ⟨hX,hB⟩:=box1 w 26 [.int .i64 l.n,.slice aA an ac,.slice bA bn bc,.slice cA cn cc,.slice dA dn dc,.slice eA en ec,.slice fA fn fc]
 have HX:=Yh2 hX hB
 clear hX hB
 generalize w.alloc _=W0 at HX ⊢
 have hn14:=HN14.out
 go_wp2_with fail
 go_loopw [7] (fun z wr=>∃ k:Nat,z=.int .i64 (k:Int)/\k<=n/\Hid (feasK (okN l st ds) k=true/\Bl wr 26 w.heap.size [.int .i64 l.n,.slice aA an ac,.slice bA bn bc,.slice cA cn cc,.slice dA dn dc,.slice eA en ec,.slice fA fn fc]/\Yg w wr)) (fun z _=>n - (intOf z).toNat)
 case atStart=>exact ⟨0,rfl,Nat.zero_le _,rfl,HX.p0,HX.q1⟩
 case round=>
  obtain ⟨k,rfl,hk,H⟩:=hrel
  have hn14:=HN14.out
  by_cases hlt:k<n
  · skip
    obtain ⟨s,h0⟩:∃ x,st[k]?=some x:=⟨_,List.getElem?_eq_getElem (by rw [HN.p0];exact hlt)⟩
    obtain ⟨bl,bh,f,g,dx,h1,h2,h3,h4,h5⟩:=el_ex (xs:=ds) (c:=k) (by rw [HN.q1];exact HFT.out) (by rw [HN.q1];exact hlt)
    have hs4:=HIN.out k s h0
    have HOK:=Lib.hid (okN_at h0 h1 h2 h3 h4 h5)
    have z3:=HZ.p1.2.2 f (.inl (List.mem_of_getElem? h3))
    have z4:=HZ.p1.2.2 g (.inr (.inl (List.mem_of_getElem? h4)))
    have z5:=HZ.p0 dx (List.mem_of_getElem? h5)
    obtain ⟨fx,hfx⟩:∃ b,fixedQ bl bh f.q g.q=b:=⟨_,rfl⟩
    rw [hfx] at HOK
    have HFX:Hid (∀ W,Yg w W->Calls Tryz.prog 103 #[.agg #[.int .i64 l.n,.slice aA an ac,.slice bA bn bc,.slice cA cn cc,.slice dA dn dc,.slice eA en ec,.slice fA fn fc],.int .i64 (k:Int)] W fun e w'=>e=.returned (.bool fx)/\Yg W w'):=fun W b=>by rw [<- hfx];exact fixed_d (HS.p0.keep b) h1 h2 h3 h4 z3.1 z3.2 z4.1 z4.2
    obtain ⟨gu,ou,_,e,hgu,cu0⟩:=HS.p1.at_ h0
    injection e with e1 e2 e3
    subst e1
    clear e2 e3
    obtain ⟨gy,oy,_,xy,e,hgy,hvy,y0,y1,y2⟩:=HS.q2.at_ h5
    rw [HN.q1] at e
    injection e with e1 e2 e3
    subst e1
    clear e2 e3
    have cu1:=(H.q2.cell (p:=⟨gu,ou+k,none⟩) hgu).trans cu0
    have v0:=(H.q2.cell (p:=⟨gy,_,none⟩) hgy).trans y0
    have v1:=(H.q2.cell (p:=⟨gy,_,none⟩) hgy).trans y1
    have v2:=(H.q2.cell (p:=⟨gy,_,none⟩) hgy).trans y2
    have HVY:=Lib.hid (Fv.qv (L:=6) hvy z5.1 z5.2)
    have HCU:Hid (∀ W,Yg w W->W.cell? ⟨gu,ou+k,none⟩=some (.int .i64 s)):=fun W b=>(b.cell (p:=⟨gu,ou+k,none⟩) hgu).trans cu0
    clear h0 h1 h2 h3 h4 h5 z3 z4 z5 hfx hgu hgy hvy cu0 cu1 y0 y1 y2
    go_wp2_with fail
    refine (of_e (HVY.out.keep H.q2) Yd Yd).mono ?_;rintro e w2a ⟨v,rfl,h8,hb8⟩
    obtain ⟨p8,A8,l8,c8,B8,k8,d8,rfl⟩:=h8.parts
    go_wp2_with fail
    refine (sign_e h8).mono ?_;rintro e w2 ⟨rfl,hb⟩
    have H2:=Yh3 H.p0 (H.p1.keep (Yb hb8 hb)) (Yb H.q2 (Yb hb8 hb))
    clear hb hb8 h8 H HVY v0 v1 v2
    have l0:=Bl.ld H2.p1 0 rfl
    have l1:=Bl.ld H2.p1 1 rfl
    have l2:=Bl.ld H2.p1 2 rfl
    have l3:=Bl.ld H2.p1 3 rfl
    have l4:=Bl.ld H2.p1 4 rfl
    have l5:=Bl.ld H2.p1 5 rfl
    have l6:=Bl.ld H2.p1 6 rfl
    have cu2:=HCU.out _ H2.q2
    obtain hs4:s=1∨s=2∨s=3∨s=4:=by omega
    rcases sgnQ_cases dx.q with hz | hz | hz<;>rw [hz]<;>rcases hs4 with rfl | rfl | rfl | rfl<;>cases fx<;>(
     go_wp2_with (go_at_call 103;refine (HFX.out _ H2.q2).mono ?_;rintro e w3 ⟨rfl,hb⟩;have cu3:=HCU.out _ (Yb H2.q2 hb))
     first
      | (case roundEnd=>exact ⟨⟨k+1,by go_num,Yo,feasK_yes (by rw [HOK.out,hz];decide) H2.p0,by first | exact H2.p1.keep hb | exact H2.p1,by first | exact Yb H2.q2 hb | exact H2.q2⟩,by simp [intOf];omega⟩)
      | (go_ret;exact ⟨⟨false,rfl,(feasK_no (by rw [HOK.out,hz];decide) hlt).symm⟩,by first | exact Yb H2.q2 hb | exact H2.q2⟩))
  obtain rfl:k=n:=by omega
  go_wp2_with fail
  go_ret
  exact ⟨⟨true,rfl,H.p0.symm⟩,H.q2⟩
end I
end
end
section
namespace I
section
open Go Go.RowKit Go.Proofs Pl
def Fr (n:Nat) (v:Value):Prop:=∃ b s d,v=.agg #[.bool b,s,d]/\(∀ g,s.ownBlock=some g->n<=g)/\(∀ g,d.ownBlock=some g->n<=g)
theorem Fr.mono {m n:Nat} {v:Value} (h:Fr n v) (hm:m<=n):Fr m v:=by
 obtain ⟨b,s,d,e,h1,h2⟩:=h
 exact ⟨b,s,d,e,fun g hg=>Nat.le_trans hm (h1 g hg),fun g hg=>Nat.le_trans hm (h2 g hg)⟩
theorem divMod_o {w:World} {L1 L2 m n:Nat} {a b:Value} (ha:Dn w L1 a m) (hb:Dn w L2 b n) (h0:n≠0) (h1:L1<=1073741824) (h2:L2<=1073741824):Calls Tryz.prog 157 #[a,b] w fun e w'=>∃ q r,e=.returned (.tuple #[q,r])/\Dn w' L1 q (m / n)/\Dn w' L1 r (m % n)/\Below w.heap.size w w'/\(∀ g,q.ownBlock=some g->w.heap.size<=g):=by
 refine (divMod_nm ha.nm hb.nm h0 h1 h2).mono ?_
 rintro e w' ⟨q,r,he,hq,hr⟩
 exact ⟨q,r,he,hq.dn (Nat.lt_of_le_of_lt (Nat.div_le_self _ _) ha.2),hr.dn (Nat.lt_of_le_of_lt (Nat.mod_le _ _) ha.2),hq.2,own_ge hq.1.2⟩
theorem lowest_zero_o {w:World} {L:Nat} {p:Bool} {s d:Value} {m n:Nat} {z:Int} (hs:Dn w L s n) (hd:Dn w L d m) (ez:z=sg p n) (h0:m≠0) (h1:0<L) (hL:L<=1073741824) (hz:n=0):
 Calls Tryz.prog 107 #[.agg #[.bool p,s],d] w fun e w'=>∃ v,e=.returned v/\Qd w' L v (qn z m) (qd z m)/\Yg w w'/\Fr w.heap.size v:=by
 have e1:qn z m=0:=by rw [ez,<- qn_sg,hz];simp [sg]
 have e2:qd z m=1:=by unfold qd;rw [ez,sg_abs,hz,Nat.gcd_zero_left];exact Nat.div_self (Nat.pos_of_ne_zero h0)
 rw [e1,e2]
 obtain ⟨⟨As,cs,rfl,-⟩,-⟩:=hs
 rw [hz,dg_zero,List.length_nil]
 have HL:=Lib.hid h1
 clear e1 e2 hz h0 ez h1
 have S0:=Lib.hid (Below.refl w.heap.size w)
 go_enter Tryz.func107,Tryz.ntmps107
 go_wp2_with fail
 refine bodyPost_ret (by simp [results,Tryz.results107,go_sem];try rfl) rfl ?_
 exact ⟨_,rfl,⟨_,_,rfl,⟨by rw [show (0:Int).natAbs=0 from rfl,dg_zero];exact nl_nil _,Nat.pow_pos TB_pos⟩,(one_dn2 w _ _).mono HL.out⟩,by go_grown,⟨_,_,_,rfl,fun g hg=>(by cases hg),fun g hg=>(by cases hg;exact Nat.le_trans (Nat.le_succ _) (Nat.le_succ _))⟩⟩
theorem lowest_some_o {w:World} {L:Nat} {p:Bool} {s d:Value} {m n:Nat} {z:Int} (hs:Dn w L s n) (hd:Dn w L d m) (ez:z=sg p n) (h0:m≠0) (h1:0<L) (hL:L<=1073741824) (hz:n≠0):
 Calls Tryz.prog 107 #[.agg #[.bool p,s],d] w fun e w'=>∃ v,e=.returned v/\Qd w' L v (qn z m) (qd z m)/\Yg w w'/\Fr w.heap.size v:=by
 have e1:(qn z m).natAbs=n / Nat.gcd n m:=by rw [qn_abs,ez,sg_abs]
 have e2:qd z m=m / Nat.gcd n m:=by unfold qd;rw [ez,sg_abs]
 have e3:decide (qn z m<0)=p:=by rw [ez,qn_neg (by intro h;have:=congrArg Int.natAbs h;rw [sg_abs] at this;exact hz this),sg_neg,decide_eq_true hz,Bool.and_true]
 have hg:Nat.gcd n m≠0:=by have:=Nat.gcd_pos_of_pos_right n (Nat.pos_of_ne_zero h0);omega
 obtain ⟨k,hk⟩:∃ k,k=Nat.gcd n m:=⟨_,rfl⟩
 rw [<- hk] at hg e1 e2
 have HE:=Yh6 e1 e2 e3 hk hg hL
 have hs0:=hs
 obtain ⟨⟨As,cs,rfl,-⟩,-⟩:=hs0
 obtain ⟨ls,hls⟩:∃ ls,ls=(dg TB n).length:=⟨_,rfl⟩
 have hl0:((ls:Int)==0)=false:=beq_eq_false_iff_ne.2 (by have:ls≠0:=fun h=>hz ((dg_eq_nil TB_one n).1 (List.eq_nil_of_length_eq_zero (hls ▸ h)));omega)
 rw [<- hls] at hs ⊢
 have S0:=Yh3 hs hd (Below.refl w.heap.size w)
 clear hs hd e1 e2 e3 hg hk ez h0 h1 hL hz hls
 go_enter Tryz.func107,Tryz.ntmps107
 go_upto_region 1 with (fail)
 have hb:=Yb (Ya w (.cells #[.bool p,.slice As ls cs] 94)) (Ya _ (.cells #[.bool false,.slice none 0 0,.slice none 0 0] 96))
 have hX0:=(Bx.new 94 w  (.bool p) (.slice As ls cs)).alloc (.cells #[.bool false,.slice none 0 0,.slice none 0 0] 96)
 have hX1:=B3.new1 96 w (.cells #[.bool p,.slice As ls cs] 94) (.bool false) (.slice none 0 0) (.slice none 0 0)
 have S1:=Yh5 (S0.p0.keep hb) (S0.p1.keep hb) hX0 hX1 (Yb S0.q2 hb)
 clear hb hX0 hX1 S0
 generalize ((w.alloc _).alloc _)=W0 at S1 ⊢
 obtain ⟨xa,xb,-,-⟩:=S1.p2.facts
 go_wp2_with fail
 refine (gcd_dn S1.p0 S1.p1 (by have:=HE.out;omega)).mono ?_;rintro e w2 ⟨v1,rfl,h,hb⟩
 rw [<- HE.p3] at h
 have S2:=Yh6 (S1.p0.keep hb) (S1.p1.keep hb) (S1.p2.keep hb) (S1.p3.keep hb) h (Yb S1.q4 hb)
 clear h hb xa xb S1
 obtain ⟨xa,xb,-,-⟩:=S2.p2.facts
 go_wp2_with fail
 refine (divMod_o S2.p0 S2.p4 HE.p4 (by have:=HE.out;omega) (by have:=HE.out;omega)).mono ?_;rintro e w3 ⟨v2,v3,rfl,h,hh,hb,ho⟩;have HO1:=Lib.hid (fun g hg=>Nat.le_trans S2.q5.size (ho g hg));clear ho
 obtain ⟨A2,l2,c2,rfl⟩:=h.form
 have S3:=Yh7 (S2.p0.keep hb) (S2.p1.keep hb) (S2.p2.keep hb) (S2.p3.keep hb) (S2.p4.keep hb) h (Yb S2.q5 hb)
 clear h hh hb xa xb S2
 go_wp2_with fail
 refine (divMod_o S3.p1 S3.p4 HE.p4 (by have:=HE.out;omega) (by have:=HE.out;omega)).mono ?_;rintro e w4 ⟨v4,v5,rfl,h,hh,hb,ho⟩;have HO2:=Lib.hid (fun g hg=>Nat.le_trans S3.q6.size (ho g hg));clear ho
 obtain ⟨A3,l3,c3,rfl⟩:=h.form
 have S4:=Yh8 (S3.p0.keep hb) (S3.p1.keep hb) (S3.p2.keep hb) (S3.p3.keep hb) (S3.p4.keep hb) (S3.p5.keep hb) h (Yb S3.q6 hb)
 clear h hh hb  S3
 obtain ⟨xa,xb,-,-⟩:=S4.p2.facts
 obtain ⟨f0,f1,f2,f3,f4,f5⟩:=S4.p3.facts
 go_wp2_with fail
 refine ret_b3 S4.p3 (fun W d0 d1 d2=>by simp [results,Tryz.results107,go_sem,d0,d1,d2];try rfl) rfl ?_
 exact ⟨_,rfl,⟨_,_,by rw [HE.p2],by rw [HE.p0];exact S4.p5.put3 S4.p3 _ _ _,by rw [HE.p1];exact S4.p6.put3 S4.p3 _ _ _⟩,S4.p3.below S4.q7 Yo _ _ _,⟨_,_,_,rfl,HO1.out,HO2.out⟩⟩
theorem lowest_o {w:World} {L:Nat} {a d:Value} {z:Int} {m:Nat} (ha:Zd w L a z) (hd:Dn w L d m) (h0:m≠0) (h1:0<L) (hL:L<=1073741824):
 Calls Tryz.prog 107 #[a,d] w fun e w'=>∃ v,e=.returned v/\Qd w' L v (qn z m) (qd z m)/\Yg w w'/\Fr w.heap.size v:=by
 obtain ⟨p,s,n,rfl,hs,ez⟩:=ha.open
 by_cases hz:n=0
 · exact lowest_zero_o hs hd ez h0 h1 hL hz
 · exact lowest_some_o hs hd ez h0 h1 hL hz
theorem add_o {w:World} {L M:Nat} {a u:Value} {q r:Rat} (ha:Qe w L a q) (hu:Qe w M u r) (h0:0<L) (h0':0<M) (h1:L<=268435456) (h2:M<=268435456):
 Calls Tryz.prog 68 #[a,u] w fun e w'=>∃ v,e=.returned v/\Qe w' (L+M+1) v (q+r)/\Yg w w'/\Fr w.heap.size v:=by
 obtain ⟨p,A,l,c,B,k,d,rfl,hz,hd⟩:=ha.open
 obtain ⟨p2,A2,l2,c2,B2,k2,d2,rfl,hz2,hd2⟩:=hu.open
 rw [Rat.add_def']
 have e2:∀ {a b:Nat},a<TB ^ L->b<TB ^ M->a*b<TB ^ (L+M):=fun ha hb=>by rw [Nat.pow_add];exact Nat.mul_lt_mul'' ha hb
 have b1:(q.num*(r.den:Int)).natAbs<TB ^ (L+M):=by rw [Int.natAbs_mul];exact e2 hz.lt hd2.2
 have b2:(r.num*(q.den:Int)).natAbs<TB ^ (L+M):=by rw [Int.natAbs_mul,Nat.mul_comm];exact e2 hd.2 hz2.lt
 have hp:TB ^ (L+M)+TB ^ (L+M)<=TB ^ (L+M+1):=by rw [Nat.pow_succ,<- Nat.mul_two];exact Nat.mul_le_mul_left _ TB_one
 have b3:(q.num*(r.den:Int)+r.num*(q.den:Int)).natAbs<TB ^ (L+M+1):=Yo
 have HF:=Lib.hid b3
 clear e2 b1 b2 b3 hp
 have HL:=Yh4 h0 h0' h1 h2
 have S0:=Yh5 hz hd hz2 hd2 (Below.refl w.heap.size w)
 clear hz hd hz2 hd2 h0 h0' h1 h2 ha hu
 go_enter Tryz.func68,Tryz.ntmps68
 go_upto_region 1 with (fail)
 have S1:=Yh8 (S0.p0.keep ((Yb (Yb (Ya w (.cells #[.bool p,.slice A l c,.slice B k d] 96)) (Ya _ (.cells #[.bool p2,.slice A2 l2 c2,.slice B2 k2 d2] 96))) (Ya _ (.cells #[.bool false,.slice none 0 0,.slice none 0 0] 96))))) (S0.p1.keep ((Yb (Yb (Ya w (.cells #[.bool p,.slice A l c,.slice B k d] 96)) (Ya _ (.cells #[.bool p2,.slice A2 l2 c2,.slice B2 k2 d2] 96))) (Ya _ (.cells #[.bool false,.slice none 0 0,.slice none 0 0] 96))))) (S0.p2.keep ((Yb (Yb (Ya w (.cells #[.bool p,.slice A l c,.slice B k d] 96)) (Ya _ (.cells #[.bool p2,.slice A2 l2 c2,.slice B2 k2 d2] 96))) (Ya _ (.cells #[.bool false,.slice none 0 0,.slice none 0 0] 96))))) (S0.p3.keep ((Yb (Yb (Ya w (.cells #[.bool p,.slice A l c,.slice B k d] 96)) (Ya _ (.cells #[.bool p2,.slice A2 l2 c2,.slice B2 k2 d2] 96))) (Ya _ (.cells #[.bool false,.slice none 0 0,.slice none 0 0] 96))))) (((B3.new 96 w (.bool p) (.slice A l c) (.slice B k d)).alloc (.cells #[.bool p2,.slice A2 l2 c2,.slice B2 k2 d2] 96)).alloc (.cells #[.bool false,.slice none 0 0,.slice none 0 0] 96)) ((B3.new1 96 w (.cells #[.bool p,.slice A l c,.slice B k d] 96) (.bool p2) (.slice A2 l2 c2) (.slice B2 k2 d2)).alloc (.cells #[.bool false,.slice none 0 0,.slice none 0 0] 96)) (B3.new2 96 w (.cells #[.bool p,.slice A l c,.slice B k d] 96) (.cells #[.bool p2,.slice A2 l2 c2,.slice B2 k2 d2] 96) (.bool false) (.slice none 0 0) (.slice none 0 0)) (Yb S0.q4 ((Yb (Yb (Ya w (.cells #[.bool p,.slice A l c,.slice B k d] 96)) (Ya _ (.cells #[.bool p2,.slice A2 l2 c2,.slice B2 k2 d2] 96))) (Ya _ (.cells #[.bool false,.slice none 0 0,.slice none 0 0] 96)))))
 clear S0
 generalize ((w.alloc _).alloc _).alloc _=W0 at S1 ⊢
 go_upto_region 1 with (fail)
 have S2:=Yh8 (S1.p0.keep (below_dr _ 1)) (S1.p1.keep (below_dr _ 1)) (S1.p2.keep (below_dr _ 1)) (S1.p3.keep (below_dr _ 1)) (S1.p4.keep (below_dr _ 1)) (S1.p5.keep (below_dr _ 1)) (S1.p6.keep (below_dr _ 1)) (Yb S1.q7 (below_dr _ 1))
 refine wp_region_held_drew (S:=fun W=>Yc3 W w.heap.size (.bool p) (.slice A l c) (.slice B k d) (Ye3 W (w.heap.size+1) (.bool p2) (.slice A2 l2 c2) (.slice B2 k2 d2))) (by kernel_rfl) ⟨S2.p4.facts.1,S2.p4.facts.2.1,S2.p4.facts.2.2.1,S2.p5.facts.1,S2.p5.facts.2.1,S2.p5.facts.2.2.1⟩ (fun Hh=>?_)
 refine rgRun 12 [0,1,2,3,5,6,7,8,11,12,13,14] Hh fun K hK=>?_
 repeat refine rgA ?_
 refine hK _ _ ?_;clear hK K
 refine rgO 4 fun K hK=>?_
 go_simp
 go_at_call 105;refine (times_d S2.p0 S2.p3 (by have:=HL.out;omega) (by have:=HL.out;omega)).mono ?_;rintro e w3 ⟨v,rfl,h,hb⟩
 obtain ⟨pf,Af,lf,cf,rfl,-⟩:=h.parts
 have S3:=Yh9 (S2.p0.keep hb) (S2.p1.keep hb) (S2.p2.keep hb) (S2.p3.keep hb) (S2.p4.keep hb) (S2.p5.keep hb) (S2.p6.keep hb) h (Yb S2.q7 hb)
 clear h hb Hh
 go_wp2_with fail
 refine rgK hK ⟨S3.p4.facts.1,S3.p4.facts.2.1,S3.p4.facts.2.2.1,S3.p5.facts.1,S3.p5.facts.2.1,S3.p5.facts.2.2.1⟩ fun Hh=>?_;clear hK K
 refine rgO 9 fun K hK=>?_
 go_simp
 go_at_call 105;refine (times_d S3.p2 S3.p1 (by have:=HL.out;omega) (by have:=HL.out;omega)).mono ?_;rintro e w4 ⟨v,rfl,h,hb⟩
 obtain ⟨pg,Ag,lg,cg,rfl,-⟩:=h.parts
 have S4:=Yh10 (S3.p0.keep hb) (S3.p1.keep hb) (S3.p2.keep hb) (S3.p3.keep hb) (S3.p4.keep hb) (S3.p5.keep hb) (S3.p6.keep hb) (S3.p7.keep hb) h (Yb S3.q8 hb)
 clear h hb Hh
 go_wp2_with fail
 refine rgK hK ⟨S4.p4.facts.1,S4.p4.facts.2.1,S4.p4.facts.2.2.1,S4.p5.facts.1,S4.p5.facts.2.1,S4.p5.facts.2.2.1⟩ fun Hh=>?_;clear hK K
 refine rgO 10 fun K hK=>?_
 go_simp
 go_at_call 135;refine (add_d S4.p7 S4.p8 (by have:=HL.out;omega) (by have:=HL.out;omega)).mono ?_;rintro e w5 ⟨v,rfl,h,hb⟩
 obtain ⟨ps,As,ls,cs,rfl,-⟩:=h.parts
 have S5:=Yh11 (S4.p0.keep hb) (S4.p1.keep hb) (S4.p2.keep hb) (S4.p3.keep hb) (S4.p4.keep hb) (S4.p5.keep hb) (S4.p6.keep hb) (S4.p7.keep hb) (S4.p8.keep hb) (Zd.thin h HF.out) (Yb S4.q9 hb)
 clear h hb Hh
 go_wp2_with fail
 refine rgK hK ⟨S5.p4.facts.1,S5.p4.facts.2.1,S5.p4.facts.2.2.1,S5.p5.facts.1,S5.p5.facts.2.1,S5.p5.facts.2.2.1⟩ fun Hh=>?_;clear hK K
 refine rgO 15 fun K hK=>?_
 go_simp
 go_at_call 136;refine (mul_dn S5.p1 S5.p3 (by have:=HL.out;omega) (by have:=HL.out;omega)).mono ?_;rintro e w6 ⟨v,rfl,h,hb⟩
 obtain ⟨Am,lm,cm,rfl⟩:=h.form
 have S6:=Yh12 (S5.p0.keep hb) (S5.p1.keep hb) (S5.p2.keep hb) (S5.p3.keep hb) (S5.p4.keep hb) (S5.p5.keep hb) (S5.p6.keep hb) (S5.p7.keep hb) (S5.p8.keep hb) (S5.p9.keep hb) h (Yb S5.q10 hb)
 clear h hb Hh
 go_wp2_with fail
 refine rgK hK ⟨S6.p4.facts.1,S6.p4.facts.2.1,S6.p4.facts.2.2.1,S6.p5.facts.1,S6.p5.facts.2.1,S6.p5.facts.2.2.1⟩ fun Hh=>?_;clear hK K
 refine rgO 16 fun K hK=>?_
 go_simp
 go_at_call 107;refine (lowest_o S6.p9 (S6.p10.mono Yo) (Nat.mul_ne_zero q.den_nz r.den_nz) (by have:=HL.out;omega) (by have:=HL.out;omega)).mono ?_;rintro e w7 ⟨v,rfl,h,hb,hfr⟩;have HFR:=Lib.hid (Fr.mono hfr (by have h7:=S6.q11.size;exact h7:w.heap.size<=w6.heap.size));clear hfr
 obtain ⟨pq,Aq,lq,cq,Av,lv,cv,rfl⟩:=h.parts
 have S7:=Yh13 (S6.p0.keep hb) (S6.p1.keep hb) (S6.p2.keep hb) (S6.p3.keep hb) (S6.p4.keep hb) (S6.p5.keep hb) (S6.p6.keep hb) (S6.p7.keep hb) (S6.p8.keep hb) (S6.p9.keep hb) (S6.p10.keep hb) (qd_of h (Nat.mul_ne_zero q.den_nz r.den_nz)) (Yb S6.q11 hb)
 clear h hb Hh
 go_wp2_with fail
 refine rgK hK ⟨S7.p4.facts.1,S7.p4.facts.2.1,S7.p4.facts.2.2.1,S7.p5.facts.1,S7.p5.facts.2.1,S7.p5.facts.2.2.1⟩ fun Hh=>?_;clear hK K
 obtain ⟨f0,f1,f2,f3,f4,f5⟩:=S7.p6.facts
 refine rgO 17 fun K hK=>?_
 go_simp;clear f0 f1 f2 f3 f4 f5
 refine rgK hK ⟨cell_st3 _ S7.p4.facts.1 Yo,cell_st3 _ S7.p4.facts.2.1 Yo,cell_st3 _ S7.p4.facts.2.2.1 Yo,cell_st3 _ S7.p5.facts.1 Yo,cell_st3 _ S7.p5.facts.2.1 Yo,cell_st3 _ S7.p5.facts.2.2.1 Yo⟩ fun Hh=>?_;clear hK K
 refine Yw ?_
 clear Hh
 go_wp2_with fail
 refine ret_b3 S7.p6 (fun W d0 d1 d2=>by simp [results,Tryz.results68,go_sem,d0,d1,d2];try rfl) rfl ?_
 exact ⟨_,rfl,Qd.put3 S7.p11 S7.p6 _ _ _,S7.p6.below S7.q12 Yo _ _ _,HFR.out⟩
theorem sub_o {w:World} {L M:Nat} {a u:Value} {q r:Rat} (ha:Qe w L a q) (hu:Qe w M u r) (h0:0<L) (h0':0<M) (h1:L<=268435456) (h2:M<=268435456):
 Calls Tryz.prog 102 #[a,u] w fun e w'=>∃ v,e=.returned v/\Qe w' (L+M+1) v (q - r)/\Yg w w'/\Fr w.heap.size v:=by
 obtain ⟨p,A,l,c,B,k,d,rfl,hz,hd⟩:=ha.open
 obtain ⟨p2,A2,l2,c2,B2,k2,d2,rfl,hz2,hd2⟩:=hu.open
 rw [Rat.sub_eq_add_neg]
 have HL:=Yh4 h0 h0' h1 h2
 have S0:=Yh5 hz hd hz2 hd2 (Below.refl w.heap.size w)
 clear hz hd hz2 hd2 h0 h0' h1 h2 ha hu
 go_enter Tryz.func102,Tryz.ntmps102
 go_upto_region 1 with (fail)
 have S1:=Yh8 (S0.p0.keep ((Yb (Yb (Ya w (.cells #[.bool p,.slice A l c,.slice B k d] 96)) (Ya _ (.cells #[.bool p2,.slice A2 l2 c2,.slice B2 k2 d2] 96))) (Ya _ (.cells #[.bool false,.slice none 0 0,.slice none 0 0] 96))))) (S0.p1.keep ((Yb (Yb (Ya w (.cells #[.bool p,.slice A l c,.slice B k d] 96)) (Ya _ (.cells #[.bool p2,.slice A2 l2 c2,.slice B2 k2 d2] 96))) (Ya _ (.cells #[.bool false,.slice none 0 0,.slice none 0 0] 96))))) (S0.p2.keep ((Yb (Yb (Ya w (.cells #[.bool p,.slice A l c,.slice B k d] 96)) (Ya _ (.cells #[.bool p2,.slice A2 l2 c2,.slice B2 k2 d2] 96))) (Ya _ (.cells #[.bool false,.slice none 0 0,.slice none 0 0] 96))))) (S0.p3.keep ((Yb (Yb (Ya w (.cells #[.bool p,.slice A l c,.slice B k d] 96)) (Ya _ (.cells #[.bool p2,.slice A2 l2 c2,.slice B2 k2 d2] 96))) (Ya _ (.cells #[.bool false,.slice none 0 0,.slice none 0 0] 96))))) (((B3.new 96 w (.bool p) (.slice A l c) (.slice B k d)).alloc (.cells #[.bool p2,.slice A2 l2 c2,.slice B2 k2 d2] 96)).alloc (.cells #[.bool false,.slice none 0 0,.slice none 0 0] 96)) ((B3.new1 96 w (.cells #[.bool p,.slice A l c,.slice B k d] 96) (.bool p2) (.slice A2 l2 c2) (.slice B2 k2 d2)).alloc (.cells #[.bool false,.slice none 0 0,.slice none 0 0] 96)) (B3.new2 96 w (.cells #[.bool p,.slice A l c,.slice B k d] 96) (.cells #[.bool p2,.slice A2 l2 c2,.slice B2 k2 d2] 96) (.bool false) (.slice none 0 0) (.slice none 0 0)) (Yb S0.q4 ((Yb (Yb (Ya w (.cells #[.bool p,.slice A l c,.slice B k d] 96)) (Ya _ (.cells #[.bool p2,.slice A2 l2 c2,.slice B2 k2 d2] 96))) (Ya _ (.cells #[.bool false,.slice none 0 0,.slice none 0 0] 96)))))
 clear S0
 generalize ((w.alloc _).alloc _).alloc _=W0 at S1 ⊢
 go_upto_region 1 with (fail)
 have S2:=Yh8 (S1.p0.keep (below_dr _ 1)) (S1.p1.keep (below_dr _ 1)) (S1.p2.keep (below_dr _ 1)) (S1.p3.keep (below_dr _ 1)) (S1.p4.keep (below_dr _ 1)) (S1.p5.keep (below_dr _ 1)) (S1.p6.keep (below_dr _ 1)) (Yb S1.q7 (below_dr _ 1))
 refine wp_region_held_drew (S:=fun W=>Yc3 W w.heap.size (.bool p) (.slice A l c) (.slice B k d) (Ye3 W (w.heap.size+1) (.bool p2) (.slice A2 l2 c2) (.slice B2 k2 d2))) (by kernel_rfl) ⟨S2.p4.facts.1,S2.p4.facts.2.1,S2.p4.facts.2.2.1,S2.p5.facts.1,S2.p5.facts.2.1,S2.p5.facts.2.2.1⟩ (fun Hh=>?_)
 refine rgT 0 Hh ?_
 refine rgT 1 Hh ?_
 refine rgO 2 fun K hK=>?_
 go_simp
 go_at_call 66;refine (neg_e (show Qe _ M _ r from qe_of S2.p2 S2.p3) (by have:=HL.out;omega)).mono ?_;rintro e w3 ⟨v,rfl,h,hb⟩
 obtain ⟨pn,An,ln,cn,Bn,kn,dn,rfl⟩:=h.parts
 have S3:=Yh9 (S2.p0.keep hb) (S2.p1.keep hb) (S2.p2.keep hb) (S2.p3.keep hb) (S2.p4.keep hb) (S2.p5.keep hb) (S2.p6.keep hb) h (Yb S2.q7 hb)
 clear h hb Hh
 go_wp2_with fail
 refine rgK hK ⟨S3.p4.facts.1,S3.p4.facts.2.1,S3.p4.facts.2.2.1,S3.p5.facts.1,S3.p5.facts.2.1,S3.p5.facts.2.2.1⟩ fun Hh=>?_;clear hK K
 refine rgO 3 fun K hK=>?_
 go_simp
 go_at_call 68;refine (add_o (show Qe _ L _ q from qe_of S3.p0 S3.p1) S3.p7 HL.p0 HL.p1 HL.p2 HL.q3).mono ?_;rintro e w4 ⟨v,rfl,h,hb,hfr⟩;have HFR:=Lib.hid (Fr.mono hfr (by have h7:=S3.q8.size;exact h7));clear hfr
 obtain ⟨pq,Aq,lq,cq,Av,lv,cv,rfl⟩:=h.parts
 have S4:=Yh10 (S3.p0.keep hb) (S3.p1.keep hb) (S3.p2.keep hb) (S3.p3.keep hb) (S3.p4.keep hb) (S3.p5.keep hb) (S3.p6.keep hb) (S3.p7.keep hb) h (Yb S3.q8 hb)
 clear h hb Hh
 go_wp2_with fail
 refine rgK hK ⟨S4.p4.facts.1,S4.p4.facts.2.1,S4.p4.facts.2.2.1,S4.p5.facts.1,S4.p5.facts.2.1,S4.p5.facts.2.2.1⟩ fun Hh=>?_;clear hK K
 obtain ⟨f0,f1,f2,f3,f4,f5⟩:=S4.p6.facts
 refine rgO 4 fun K hK=>?_
 go_simp;clear f0 f1 f2 f3 f4 f5
 refine rgK hK ⟨cell_st3 _ S4.p4.facts.1 Yo,cell_st3 _ S4.p4.facts.2.1 Yo,cell_st3 _ S4.p4.facts.2.2.1 Yo,cell_st3 _ S4.p5.facts.1 Yo,cell_st3 _ S4.p5.facts.2.1 Yo,cell_st3 _ S4.p5.facts.2.2.1 Yo⟩ fun Hh=>?_;clear hK K
 refine Yw ?_
 clear Hh
 go_wp2_with fail
 refine ret_b3 S4.p6 (fun W d0 d1 d2=>by simp [results,Tryz.results102,go_sem,d0,d1,d2];try rfl) rfl ?_
 exact ⟨_,rfl,Qd.put3 S4.p8 S4.p6 _ _ _,S4.p6.below S4.q9 Yo _ _ _,HFR.out⟩
theorem Rd.same {w w':World} {A:Option Addr} {xs:List Nat} (h:Rd w A xs) (hk:∀ (a:Addr) (o:Nat) (x:Int),A=some a->w.cell? ⟨a.block,o,none⟩=some (.int .i64 x)->w'.heap[a.block]?=w.heap[a.block]?):Rd w' A xs:=by
 obtain ⟨h1,h2⟩:=h
 refine ⟨h1,?_⟩
 rcases h2 with h2 | ⟨b,o,rfl,h4⟩
 · exact .inl h2
 · exact .inr ⟨b,o,rfl,fun j x hj=>(World.cell?_of_block (w:=w) (a:=⟨b,o+j,none⟩) (hk ⟨b,o,none⟩ _ _ rfl (h4 j x hj))).trans (h4 j x hj)⟩
theorem Dn.same {w w':World} {L n:Nat} {s:Value} (h:Dn w L s n) (hk:∀ (g o:Nat) (x:Int),s.ownBlock=some g->w.cell? ⟨g,o,none⟩=some (.int .i64 x)->w'.heap[g]?=w.heap[g]?):Dn w' L s n:=by
 obtain ⟨⟨A,c,e,h1,h2⟩,h3⟩:=h
 refine ⟨⟨A,c,e,Rd.same h1 fun a o x ha hc=>hk a.block o x (by rw [e,ha];rfl) hc,h2⟩,h3⟩
theorem Qe.same {w w':World} {L:Nat} {v:Value} {q:Rat} {ok:Nat->Prop} (h:Qe w L v q) (ho:∃ b s d,v=.agg #[.bool b,s,d]/\(∀ g,s.ownBlock=some g->ok g)/\(∀ g,d.ownBlock=some g->ok g)) (hk:∀ (g o:Nat) (x:Int),ok g->w.cell? ⟨g,o,none⟩=some (.int .i64 x)->w'.heap[g]?=w.heap[g]?):Qe w' L v q:=by
 obtain ⟨s,d,e,h1,h2⟩:=h
 obtain ⟨b,s',d',e',o1,o2⟩:=ho
 rw [e] at e'
 injection e' with e'
 have e3:[Value.bool (decide (q.num<0)),s,d]=[Value.bool b,s',d']:=congrArg Array.toList e'
 injection e3 with _ e3
 injection e3 with e4 e3
 injection e3 with e5 _
 subst e4 e5
 exact ⟨s,d,e,h1.same fun g o x hg hc=>hk g o x (o1 g hg) hc,h2.same fun g o x hg hc=>hk g o x (o2 g hg) hc⟩
theorem Qe.put1 {w:World} {L g:Nat} {T:TypeId} {v:Value} {q:Rat} {bs:List Bool} (h:Qe w L v q) (X:Bl w T g (bs.map Value.bool)) (j:Nat) (x:Value):Qe (w.setCell ⟨g,j,none⟩ x) L v q:=by
 obtain ⟨s,d,e,-⟩:=id h
 refine h.same (ok:=fun _=>True) ⟨_,s,d,e,fun _ _=>trivial,fun _ _=>trivial⟩ fun k o z _ hc=>Below.heap_setCell w _ x k (fun e2=>?_)
 have e2:k=g:=e2
 subst e2
 have X':w.heap[k]?=_:=X
 simp [World.cell?,X'] at hc
theorem Qe.grown {w w':World} {L n:Nat} {v:Value} {q:Rat} (h:Qe w L v q) (hf:Fr n v) (hk:∀ g,n<=g->g<w.heap.size->w'.heap[g]?=w.heap[g]?):Qe w' L v q:=
 h.same (ok:=fun g=>n<=g) hf fun g o x hg hc=>hk g hg (by
  unfold World.cell? at hc
  rcases e:w.heap[g]? with - | o2
  · simp [e] at hc
  · exact heap_lt e)
end
end I
end
end Go.Proofs.YtaajajngnmaggaaGreat
