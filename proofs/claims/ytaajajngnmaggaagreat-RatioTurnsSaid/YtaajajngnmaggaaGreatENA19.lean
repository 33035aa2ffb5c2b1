import Derived.Test.YtaajajngnmaggaaGreatENA18
set_option maxRecDepth 100000
set_option maxHeartbeats 8000000
set_option linter.unusedVariables false
set_option linter.unusedSimpArgs false
namespace Go.Proofs.YtaajajngnmaggaaGreat
section
section
open Go Go.RowKit Go.Proofs Pl
theorem lack_v {w:World} {v u:Value} {l:LPx} {k L:Nat} {f g:Fx} {bl bh:Bool} {x:Rat} (h:LPv w v l) (hbl:l.hasLo[k]?=some bl) (hbh:l.hasHi[k]?=some bh) (hf:l.lo[k]?=some f) (hg:l.hi[k]?=some g) (hx:Qv w L u x) (h0:0<L/\L<=17179869184) (h1:0<6) (h6:f.xs.length<=6) (h7:f.ds.length<=6) (h8:g.xs.length<=6) (h9:g.ds.length<=6):
 Calls Tryz.prog 88 #[v,.int .i64 (k:Int),u] w fun e w'=>∃ r,e=.returned (.tuple #[r,.bool (lackQ bl bh f.q g.q x).2])/\Qr w w' r (lackQ bl bh f.q g.q x).1:=by
 obtain ⟨aA,an,ac,bA,bn,bc,cA,cn,cc,dA,dn,dc,eA,en,ec,fA,fn,fc,rfl,hP,hla,hlb,hlc,hld,hle,hlf,hma,hmb,hmc,hmd,hme,hmf⟩:=h.open
 have HU:=Lib.hid hx
 obtain ⟨bx,Ax,lx,cx,Bx,kx,dx,rfl⟩:=hx.parts
 have HS:=Lib.hid hP
 clear hP hma hmb hmc hmd hme hmf
 obtain ⟨gb,ob,qb,e,hgb,zb0⟩:=HS.p1.at_ hbl
 rw [hlb] at e
 injection e with e1 e2 e3
 subst e1
 clear e2 e3 qb
 have kb:k<bn:=by rw [<- hlb];exact (List.getElem?_eq_some_iff.1 hbl).1
 have ixb:(k:Int)<(bn:Int):=Yo
 obtain ⟨gc,oc,qc,e,hgc,zc0⟩:=HS.p2.at_ hbh
 rw [hlc] at e
 injection e with e1 e2 e3
 subst e1
 clear e2 e3 qc
 have kc:k<cn:=by rw [<- hlc];exact (List.getElem?_eq_some_iff.1 hbh).1
 have ixc:(k:Int)<(cn:Int):=Yo
 obtain ⟨gd,od,qd,xd,e,hgd,hvd,zd0,zd1,zd2⟩:=HS.p3.at_ hf
 rw [hld] at e
 injection e with e1 e2 e3
 subst e1
 clear e2 e3 qd
 have kd:k<dn:=by rw [<- hld];exact (List.getElem?_eq_some_iff.1 hf).1
 have ixd:(k:Int)<(dn:Int):=Yo
 obtain ⟨ge,oe,qe,xe,e,hge,hve,ze0,ze1,ze2⟩:=HS.p4.at_ hg
 rw [hle] at e
 injection e with e1 e2 e3
 subst e1
 clear e2 e3 qe
 have ke:k<en:=by rw [<- hle];exact (List.getElem?_eq_some_iff.1 hg).1
 have ixe:(k:Int)<(en:Int):=Yo
 have HC:Hid (∀ W,Yg w W->W.cell? ⟨gb,ob+k,none⟩=some (.bool bl)/\W.cell? ⟨gc,oc+k,none⟩=some (.bool bh)/\W.cell? ⟨gd,od+k*3,none⟩=some (.bool xd.b)/\W.cell? ⟨gd,od+k*3+1,none⟩=some (.slice xd.A xd.l xd.k)/\W.cell? ⟨gd,od+k*3+2,none⟩=some (.slice xd.B xd.m xd.d)/\W.cell? ⟨ge,oe+k*3,none⟩=some (.bool xe.b)/\W.cell? ⟨ge,oe+k*3+1,none⟩=some (.slice xe.A xe.l xe.k)/\W.cell? ⟨ge,oe+k*3+2,none⟩=some (.slice xe.B xe.m xe.d)):=fun W b=>⟨(b.cell (p:=⟨gb,_,none⟩) hgb).trans zb0,(b.cell (p:=⟨gc,_,none⟩) hgc).trans zc0,(b.cell (p:=⟨gd,_,none⟩) hgd).trans zd0,(b.cell (p:=⟨gd,_,none⟩) hgd).trans zd1,(b.cell (p:=⟨gd,_,none⟩) hgd).trans zd2,(b.cell (p:=⟨ge,_,none⟩) hge).trans ze0,(b.cell (p:=⟨ge,_,none⟩) hge).trans ze1,(b.cell (p:=⟨ge,_,none⟩) hge).trans ze2⟩
 clear zb0 hgb
 clear zc0 hgc
 have HVd:=Lib.hid hvd
 clear zd0 zd1 zd2 hvd hgd
 have HVe:=Lib.hid hve
 clear ze0 ze1 ze2 hve hge
 have HV:=Yh2 (HVd.out.qv h6 h7) (HVe.out.qv h8 h9)
 have HE:=Yh2 h0 h1
 clear HVd HVe hf hg hbl hbh hx h hla hlb hlc hld hle hlf h6 h7 h8 h9 h0 h1
 change Calls Tryz.prog 88 #[.agg #[.int .i64 l.n,.slice aA an ac,.slice (some ⟨gb,ob,none⟩) bn bc,.slice (some ⟨gc,oc,none⟩) cn cc,.slice (some ⟨gd,od,none⟩) dn dc,.slice (some ⟨ge,oe,none⟩) en ec,.slice fA fn fc],.int .i64 (k:Int),.agg #[.bool bx,.slice Ax lx cx,.slice Bx kx dx]] w _
 go_enter Tryz.func88,Tryz.ntmps88
 go_upto_region 1 with (fail)
 obtain ⟨hX,hY,hR,hB⟩:=box3 w 26 36 36 [.int .i64 l.n,.slice aA an ac,.slice (some ⟨gb,ob,none⟩) bn bc,.slice (some ⟨gc,oc,none⟩) cn cc,.slice (some ⟨gd,od,none⟩) dn dc,.slice (some ⟨ge,oe,none⟩) en ec,.slice fA fn fc] [.bool bx,.slice Ax lx cx,.slice Bx kx dx] [.bool false,.slice none 0 0,.slice none 0 0]
 have HX:=Yh4 hX hY hR hB
 clear hX hY hR hB
 generalize ((w.alloc _).alloc _).alloc _=W0 at HX ⊢
 go_cut [8] (fun z wx=>z=.bool (bl && decide (cmpQ x f.q<0))/\Hid (Yg W0 wx))
 case first=>
  cases bl with
  | true=>
   refine flow (fun W=>Yg W0 W/\W.cell? ⟨w.heap.size,2,none⟩=some (.slice (some ⟨gb,ob,none⟩) bn bc)/\W.cell? ⟨w.heap.size,3,none⟩=some (.slice (some ⟨gc,oc,none⟩) cn cc)/\W.cell? ⟨w.heap.size,4,none⟩=some (.slice (some ⟨gd,od,none⟩) dn dc)/\W.cell? ⟨w.heap.size,5,none⟩=some (.slice (some ⟨ge,oe,none⟩) en ec)/\W.cell? ⟨(w.heap.size+1),0,none⟩=some (.bool bx)/\W.cell? ⟨(w.heap.size+1),1,none⟩=some (.slice Ax lx cx)/\W.cell? ⟨(w.heap.size+1),2,none⟩=some (.slice Bx kx dx)/\W.cell? ⟨gb,ob+k,none⟩=some (.bool true)/\W.cell? ⟨gc,oc+k,none⟩=some (.bool bh)/\W.cell? ⟨gd,od+k*3,none⟩=some (.bool xd.b)/\W.cell? ⟨gd,od+k*3+1,none⟩=some (.slice xd.A xd.l xd.k)/\W.cell? ⟨gd,od+k*3+2,none⟩=some (.slice xd.B xd.m xd.d)/\W.cell? ⟨ge,oe+k*3,none⟩=some (.bool xe.b)/\W.cell? ⟨ge,oe+k*3+1,none⟩=some (.slice xe.A xe.l xe.k)/\W.cell? ⟨ge,oe+k*3+2,none⟩=some (.slice xe.B xe.m xe.d)) (fun _ _=>True) (fun _ _=>False) 0 [⟨[],[(0,9),(1,10),(2,11),(3,12),(4,13),(5,14),(6,15),(7,16),(8,17),(9,18),(10,19),(11,20)],[],[(12,21,fun v W=>v=.int .i64 (cmpQ x f.q))]⟩,⟨[(12,21)],[(0,9),(1,10),(2,11),(3,12),(4,13),(5,14),(13,22),(14,23),(15,8)],[],[]⟩] [] [] ⟨[(12,21)],[(0,9),(1,10),(2,11),(3,12),(4,13),(5,14),(6,15),(7,16),(8,17),(9,18),(10,19),(11,20),(13,22),(14,23),(15,8)],[],[]⟩ ⟨below_nil,Bl.ld (HX.p0.keep below_nil) 2 rfl,Bl.ld (HX.p0.keep below_nil) 3 rfl,Bl.ld (HX.p0.keep below_nil) 4 rfl,Bl.ld (HX.p0.keep below_nil) 5 rfl,Bl.ld (HX.p1.keep below_nil) 0 rfl,Bl.ld (HX.p1.keep below_nil) 1 rfl,Bl.ld (HX.p1.keep below_nil) 2 rfl,HC.out _ (Yb HX.q3 below_nil)⟩ (trivial) (fun _ _ h b=>⟨(Yb h.1 b),Bl.ld (HX.p0.keep (Yb h.1 b)) 2 rfl,Bl.ld (HX.p0.keep (Yb h.1 b)) 3 rfl,Bl.ld (HX.p0.keep (Yb h.1 b)) 4 rfl,Bl.ld (HX.p0.keep (Yb h.1 b)) 5 rfl,Bl.ld (HX.p1.keep (Yb h.1 b)) 0 rfl,Bl.ld (HX.p1.keep (Yb h.1 b)) 1 rfl,Bl.ld (HX.p1.keep (Yb h.1 b)) 2 rfl,HC.out _ (Yb HX.q3 (Yb h.1 b))⟩) (fun _ _ _ h _=>h) ⟨fun _ _ _ h _=>h,fun _ _ _ _ h=>h.elim,trivial⟩ ⟨?_,?_,trivial⟩ trivial trivial ?_
   · rintro W hS
     refine gvN ?_;(repeat first|refine flA ?_|refine flB ?_);refine flN (flN ?_)
     refine flK (fun K hK=>?_) flL
     go_simp
     go_at_call 89;refine (cmp_v (HU.out.keep (Yb HX.q3 hS.1)) (HV.p0.keep (Yb HX.q3 hS.1)) HE.p0.1 Yd HE.p0.2 Yd).mono ?_;rintro e W2 ⟨rfl,hb⟩
     go_wp2_with fail
     exact hK.out _ _ ⟨rfl,hb⟩
   · rintro W hS v12 rfl
     refine gvN ?_;(repeat first|refine flA ?_|refine flB ?_);refine flN (flN ?_)
     exact flL
   rintro W hS - v12 rfl
   have hS:=hS flY
   refine gvN ?_;(repeat first|refine flA ?_|refine flB ?_);refine flN (flN ?_)
   go_wp2_with fail
   go_meet
   exact ⟨by rw [Bool.true_and],hS.1⟩
  | false=>
   refine flow (fun W=>Yg W0 W/\W.cell? ⟨w.heap.size,2,none⟩=some (.slice (some ⟨gb,ob,none⟩) bn bc)/\W.cell? ⟨w.heap.size,3,none⟩=some (.slice (some ⟨gc,oc,none⟩) cn cc)/\W.cell? ⟨w.heap.size,4,none⟩=some (.slice (some ⟨gd,od,none⟩) dn dc)/\W.cell? ⟨w.heap.size,5,none⟩=some (.slice (some ⟨ge,oe,none⟩) en ec)/\W.cell? ⟨(w.heap.size+1),0,none⟩=some (.bool bx)/\W.cell? ⟨(w.heap.size+1),1,none⟩=some (.slice Ax lx cx)/\W.cell? ⟨(w.heap.size+1),2,none⟩=some (.slice Bx kx dx)/\W.cell? ⟨gb,ob+k,none⟩=some (.bool false)/\W.cell? ⟨gc,oc+k,none⟩=some (.bool bh)/\W.cell? ⟨gd,od+k*3,none⟩=some (.bool xd.b)/\W.cell? ⟨gd,od+k*3+1,none⟩=some (.slice xd.A xd.l xd.k)/\W.cell? ⟨gd,od+k*3+2,none⟩=some (.slice xd.B xd.m xd.d)/\W.cell? ⟨ge,oe+k*3,none⟩=some (.bool xe.b)/\W.cell? ⟨ge,oe+k*3+1,none⟩=some (.slice xe.A xe.l xe.k)/\W.cell? ⟨ge,oe+k*3+2,none⟩=some (.slice xe.B xe.m xe.d)) (fun _ _=>True) (fun _ _=>False) 0 [⟨[],[(0,9),(1,10),(2,11),(3,12),(4,13),(5,14),(6,15),(7,16),(8,17),(9,18),(10,19),(11,20)],[],[(12,21,fun v W=>v=undef)]⟩,⟨[(12,21)],[(0,9),(1,10),(2,11),(3,12),(4,13),(5,14),(13,22),(14,23),(15,8)],[],[]⟩] [] [] ⟨[(12,21)],[(0,9),(1,10),(2,11),(3,12),(4,13),(5,14),(6,15),(7,16),(8,17),(9,18),(10,19),(11,20),(13,22),(14,23),(15,8)],[],[]⟩ ⟨below_nil,Bl.ld (HX.p0.keep below_nil) 2 rfl,Bl.ld (HX.p0.keep below_nil) 3 rfl,Bl.ld (HX.p0.keep below_nil) 4 rfl,Bl.ld (HX.p0.keep below_nil) 5 rfl,Bl.ld (HX.p1.keep below_nil) 0 rfl,Bl.ld (HX.p1.keep below_nil) 1 rfl,Bl.ld (HX.p1.keep below_nil) 2 rfl,HC.out _ (Yb HX.q3 below_nil)⟩ (trivial) (fun _ _ h b=>⟨(Yb h.1 b),Bl.ld (HX.p0.keep (Yb h.1 b)) 2 rfl,Bl.ld (HX.p0.keep (Yb h.1 b)) 3 rfl,Bl.ld (HX.p0.keep (Yb h.1 b)) 4 rfl,Bl.ld (HX.p0.keep (Yb h.1 b)) 5 rfl,Bl.ld (HX.p1.keep (Yb h.1 b)) 0 rfl,Bl.ld (HX.p1.keep (Yb h.1 b)) 1 rfl,Bl.ld (HX.p1.keep (Yb h.1 b)) 2 rfl,HC.out _ (Yb HX.q3 (Yb h.1 b))⟩) (fun _ _ _ h _=>h) ⟨fun _ _ _ h _=>h,fun _ _ _ _ h=>h.elim,trivial⟩ ⟨?_,?_,trivial⟩ trivial trivial ?_
   · rintro W hS
     refine gvN ?_;(repeat first|refine flA ?_|refine flB ?_);refine flN (flN ?_)
     refine flK (fun K hK=>?_) flL
     go_simp
     exact hK.out _ _ ⟨rfl,below_nil⟩
   · rintro W hS v12 rfl
     refine gvN ?_;(repeat first|refine flA ?_|refine flB ?_);refine flN (flN ?_)
     exact flL
   rintro W hS - v12 rfl
   have hS:=hS flY
   refine gvN ?_;(repeat first|refine flA ?_|refine flB ?_);refine flN (flN ?_)
   go_wp2_with fail
   go_meet
   exact ⟨rfl,hS.1⟩
 case rest=>
  obtain ⟨rfl,HQ⟩:=hcut
  generalize wc=W1 at HQ ⊢
  have HX1:=Yh4 (HX.p0.keep HQ.out) (HX.p1.keep HQ.out) (HX.p2.keep HQ.out) (Yb HX.q3 HQ.out)
  clear HX HQ
  obtain ⟨b1,hb1⟩:∃ b,(bl && decide (cmpQ x f.q<0))=b:=⟨_,rfl⟩
  rw [hb1]
  have HB1:=Lib.hid hb1
  clear hb1
  cases b1 with
  | true=>
   have HT:Hid (lackQ bl bh f.q g.q x=(f.q - x,true)):=lackQ_lo HB1.out
   clear HB1
   go_upto_region 2 with (fail)
   refine flow (fun W=>Yg W1 W/\W.cell? ⟨w.heap.size,2,none⟩=some (.slice (some ⟨gb,ob,none⟩) bn bc)/\W.cell? ⟨w.heap.size,3,none⟩=some (.slice (some ⟨gc,oc,none⟩) cn cc)/\W.cell? ⟨w.heap.size,4,none⟩=some (.slice (some ⟨gd,od,none⟩) dn dc)/\W.cell? ⟨w.heap.size,5,none⟩=some (.slice (some ⟨ge,oe,none⟩) en ec)/\W.cell? ⟨(w.heap.size+1),0,none⟩=some (.bool bx)/\W.cell? ⟨(w.heap.size+1),1,none⟩=some (.slice Ax lx cx)/\W.cell? ⟨(w.heap.size+1),2,none⟩=some (.slice Bx kx dx)/\W.cell? ⟨gb,ob+k,none⟩=some (.bool bl)/\W.cell? ⟨gc,oc+k,none⟩=some (.bool bh)/\W.cell? ⟨gd,od+k*3,none⟩=some (.bool xd.b)/\W.cell? ⟨gd,od+k*3+1,none⟩=some (.slice xd.A xd.l xd.k)/\W.cell? ⟨gd,od+k*3+2,none⟩=some (.slice xd.B xd.m xd.d)/\W.cell? ⟨ge,oe+k*3,none⟩=some (.bool xe.b)/\W.cell? ⟨ge,oe+k*3+1,none⟩=some (.slice xe.A xe.l xe.k)/\W.cell? ⟨ge,oe+k*3+2,none⟩=some (.slice xe.B xe.m xe.d)) (fun vs W=>match vs with|[]=>True|_=>∃ p A l c B k d,Bl W 36 (w.heap.size+2) [.bool p,.slice A l c,.slice B k d]/\Qr w W (.agg #[.bool p,.slice A l c,.slice B k d]) (f.q - x)) (fun _ _=>False) 0 [⟨[],[(0,24),(1,25),(2,26),(3,27),(4,28),(5,29)],[],[(6,30,fun v W=>∃ p A l c B k d,v=.agg #[.bool p,.slice A l c,.slice B k d]/\Qr W1 W (.agg #[.bool p,.slice A l c,.slice B k d]) (f.q - x))]⟩] [⟨[],[],[(8,7)],[]⟩] [⟨7,none,[(6,30)],[],[]⟩] ⟨[(6,30)],[(0,24),(1,25),(2,26),(3,27),(4,28),(5,29)],[(8,7)],[]⟩ ⟨below_nil,Bl.ld (HX1.p0.keep below_nil) 2 rfl,Bl.ld (HX1.p0.keep below_nil) 3 rfl,Bl.ld (HX1.p0.keep below_nil) 4 rfl,Bl.ld (HX1.p0.keep below_nil) 5 rfl,Bl.ld (HX1.p1.keep below_nil) 0 rfl,Bl.ld (HX1.p1.keep below_nil) 1 rfl,Bl.ld (HX1.p1.keep below_nil) 2 rfl,HC.out _ (Yb HX1.q3 below_nil)⟩ (trivial) (fun _ _ h b=>⟨(Yb h.1 b),Bl.ld (HX1.p0.keep (Yb h.1 b)) 2 rfl,Bl.ld (HX1.p0.keep (Yb h.1 b)) 3 rfl,Bl.ld (HX1.p0.keep (Yb h.1 b)) 4 rfl,Bl.ld (HX1.p0.keep (Yb h.1 b)) 5 rfl,Bl.ld (HX1.p1.keep (Yb h.1 b)) 0 rfl,Bl.ld (HX1.p1.keep (Yb h.1 b)) 1 rfl,Bl.ld (HX1.p1.keep (Yb h.1 b)) 2 rfl,HC.out _ (Yb HX1.q3 (Yb h.1 b))⟩) (fun vs _ _ h b=>match vs,h with|[],_=>trivial|_::_,⟨p,A,l,c,B,k,d,h1,h2⟩=>⟨p,A,l,c,B,k,d,h1.keep b,h2.keep b⟩) ⟨fun _ _ _ ⟨p,A,l,c,B,k,d,e,h⟩ b=>⟨p,A,l,c,B,k,d,e,h.keep b⟩,fun _ _ _ _ h=>h.elim,trivial⟩ ⟨?_,trivial⟩ ⟨?_,trivial⟩ ⟨?_,trivial⟩ ?_
   · rintro W hS
     refine gvN ?_;(repeat refine flA ?_);refine flN (flN ?_)
     refine flK (fun K hK=>?_) flL
     go_simp
     go_at_call 98;refine (sub_v (HV.p0.keep (Yb HX1.q3 hS.1)) (HU.out.keep (Yb HX1.q3 hS.1)) Yd HE.p0.1 Yd HE.p0.2).mono ?_;rintro e W2 ⟨v,rfl,h⟩
     obtain ⟨p,A,l,c,B,k,d,rfl⟩:=h.qo.parts
     go_wp2_with fail
     exact hK.out _ _ ⟨⟨_,_,_,_,_,_,_,rfl,h.from hS.1⟩,h.below⟩
   · refine gvN ?_;(repeat refine flA ?_);exact trivial
   · rintro W hS - v6 ⟨p6,E6,n6,k6,F6,m6,d6,rfl,h6⟩
     have hS:=hS flY
     refine gvN ?_;refine flN (flN ?_)
     refine flC fun K hK=>?_
     have X:=HX1.p2.keep hS.1
     have f0:=Bl.fr X 0
     have f1:=Bl.fr X 1
     have f2:=Bl.fr X 2
     have r0:=Bl.ld X 0 rfl
     have r1:=Bl.ld X 1 rfl
     have r2:=Bl.ld X 2 rfl
     go_simp
     clear f0 f1 f2 r0 r1 r2
     exact hK.out undef _ ⟨⟨_,_,_,_,_,_,_,X.set3 rfl (.bool p6) (.slice E6 n6 k6) (.slice F6 m6 d6),(h6.from HX1.q3).keepT (X.keep3 Yd (.bool p6) (.slice E6 n6 k6) (.slice F6 m6 d6)) (below3 (Yb HX1.q3 hS.1) Yo (.bool p6) (.slice E6 n6 k6) (.slice F6 m6 d6))⟩,fun h=>flX h⟩
   rintro W hS c7 ⟨p,A,l,c,B,k,d,X,hq⟩ v6 ⟨_,p6,E6,n6,k6,F6,m6,d6,rfl,-⟩
   clear hS
   refine gvN ?_;(repeat refine flA ?_);refine flN ?_
   go_wp2_with fail
   refine ret_bl X (fun W2 hW=>by have d0:=hW 0 _ rfl;have d1:=hW 1 _ rfl;have d2:=hW 2 _ rfl;simp [results,Tryz.results88,go_sem,d0,d1,d2];try rfl) rfl ?_
   have HL:=HT.out
   rw [HL]
   exact ⟨_,rfl,hq⟩
  | false=>
   go_upto_region 3 with (fail)
   go_cut [31] (fun z wx=>z=.bool (bh && decide (0<cmpQ x g.q))/\Hid (Yg W1 wx))
   case first=>
    cases bh with
    | true=>
     refine flow (fun W=>Yg W1 W/\W.cell? ⟨w.heap.size,2,none⟩=some (.slice (some ⟨gb,ob,none⟩) bn bc)/\W.cell? ⟨w.heap.size,3,none⟩=some (.slice (some ⟨gc,oc,none⟩) cn cc)/\W.cell? ⟨w.heap.size,4,none⟩=some (.slice (some ⟨gd,od,none⟩) dn dc)/\W.cell? ⟨w.heap.size,5,none⟩=some (.slice (some ⟨ge,oe,none⟩) en ec)/\W.cell? ⟨(w.heap.size+1),0,none⟩=some (.bool bx)/\W.cell? ⟨(w.heap.size+1),1,none⟩=some (.slice Ax lx cx)/\W.cell? ⟨(w.heap.size+1),2,none⟩=some (.slice Bx kx dx)/\W.cell? ⟨gb,ob+k,none⟩=some (.bool bl)/\W.cell? ⟨gc,oc+k,none⟩=some (.bool true)/\W.cell? ⟨gd,od+k*3,none⟩=some (.bool xd.b)/\W.cell? ⟨gd,od+k*3+1,none⟩=some (.slice xd.A xd.l xd.k)/\W.cell? ⟨gd,od+k*3+2,none⟩=some (.slice xd.B xd.m xd.d)/\W.cell? ⟨ge,oe+k*3,none⟩=some (.bool xe.b)/\W.cell? ⟨ge,oe+k*3+1,none⟩=some (.slice xe.A xe.l xe.k)/\W.cell? ⟨ge,oe+k*3+2,none⟩=some (.slice xe.B xe.m xe.d)) (fun _ _=>True) (fun _ _=>False) 0 [⟨[],[(0,32),(1,33),(2,34),(3,35),(4,36),(5,37),(6,38),(7,39),(8,40),(9,41),(10,42),(11,43)],[],[(12,44,fun v W=>v=.int .i64 (cmpQ x g.q))]⟩,⟨[(12,44)],[(0,32),(1,33),(2,34),(3,35),(4,36),(5,37),(13,45),(14,46),(15,31)],[],[]⟩] [] [] ⟨[(12,44)],[(0,32),(1,33),(2,34),(3,35),(4,36),(5,37),(6,38),(7,39),(8,40),(9,41),(10,42),(11,43),(13,45),(14,46),(15,31)],[],[]⟩ ⟨below_nil,Bl.ld (HX1.p0.keep below_nil) 2 rfl,Bl.ld (HX1.p0.keep below_nil) 3 rfl,Bl.ld (HX1.p0.keep below_nil) 4 rfl,Bl.ld (HX1.p0.keep below_nil) 5 rfl,Bl.ld (HX1.p1.keep below_nil) 0 rfl,Bl.ld (HX1.p1.keep below_nil) 1 rfl,Bl.ld (HX1.p1.keep below_nil) 2 rfl,HC.out _ (Yb HX1.q3 below_nil)⟩ (trivial) (fun _ _ h b=>⟨(Yb h.1 b),Bl.ld (HX1.p0.keep (Yb h.1 b)) 2 rfl,Bl.ld (HX1.p0.keep (Yb h.1 b)) 3 rfl,Bl.ld (HX1.p0.keep (Yb h.1 b)) 4 rfl,Bl.ld (HX1.p0.keep (Yb h.1 b)) 5 rfl,Bl.ld (HX1.p1.keep (Yb h.1 b)) 0 rfl,Bl.ld (HX1.p1.keep (Yb h.1 b)) 1 rfl,Bl.ld (HX1.p1.keep (Yb h.1 b)) 2 rfl,HC.out _ (Yb HX1.q3 (Yb h.1 b))⟩) (fun _ _ _ h _=>h) ⟨fun _ _ _ h _=>h,fun _ _ _ _ h=>h.elim,trivial⟩ ⟨?_,?_,trivial⟩ trivial trivial ?_
     · rintro W hS
       refine gvN ?_;(repeat first|refine flA ?_|refine flB ?_);refine flN (flN ?_)
       refine flK (fun K hK=>?_) flL
       go_simp
       go_at_call 89;refine (cmp_v (HU.out.keep (Yb HX1.q3 hS.1)) (HV.q1.keep (Yb HX1.q3 hS.1)) HE.p0.1 Yd HE.p0.2 Yd).mono ?_;rintro e W2 ⟨rfl,hb⟩
       go_wp2_with fail
       exact hK.out _ _ ⟨rfl,hb⟩
     · rintro W hS v12 rfl
       refine gvN ?_;(repeat first|refine flA ?_|refine flB ?_);refine flN (flN ?_)
       exact flL
     rintro W hS - v12 rfl
     have hS:=hS flY
     refine gvN ?_;(repeat first|refine flA ?_|refine flB ?_);refine flN (flN ?_)
     go_wp2_with fail
     go_meet
     exact ⟨by rw [Bool.true_and],hS.1⟩
    | false=>
     refine flow (fun W=>Yg W1 W/\W.cell? ⟨w.heap.size,2,none⟩=some (.slice (some ⟨gb,ob,none⟩) bn bc)/\W.cell? ⟨w.heap.size,3,none⟩=some (.slice (some ⟨gc,oc,none⟩) cn cc)/\W.cell? ⟨w.heap.size,4,none⟩=some (.slice (some ⟨gd,od,none⟩) dn dc)/\W.cell? ⟨w.heap.size,5,none⟩=some (.slice (some ⟨ge,oe,none⟩) en ec)/\W.cell? ⟨(w.heap.size+1),0,none⟩=some (.bool bx)/\W.cell? ⟨(w.heap.size+1),1,none⟩=some (.slice Ax lx cx)/\W.cell? ⟨(w.heap.size+1),2,none⟩=some (.slice Bx kx dx)/\W.cell? ⟨gb,ob+k,none⟩=some (.bool bl)/\W.cell? ⟨gc,oc+k,none⟩=some (.bool false)/\W.cell? ⟨gd,od+k*3,none⟩=some (.bool xd.b)/\W.cell? ⟨gd,od+k*3+1,none⟩=some (.slice xd.A xd.l xd.k)/\W.cell? ⟨gd,od+k*3+2,none⟩=some (.slice xd.B xd.m xd.d)/\W.cell? ⟨ge,oe+k*3,none⟩=some (.bool xe.b)/\W.cell? ⟨ge,oe+k*3+1,none⟩=some (.slice xe.A xe.l xe.k)/\W.cell? ⟨ge,oe+k*3+2,none⟩=some (.slice xe.B xe.m xe.d)) (fun _ _=>True) (fun _ _=>False) 0 [⟨[],[(0,32),(1,33),(2,34),(3,35),(4,36),(5,37),(6,38),(7,39),(8,40),(9,41),(10,42),(11,43)],[],[(12,44,fun v W=>v=undef)]⟩,⟨[(12,44)],[(0,32),(1,33),(2,34),(3,35),(4,36),(5,37),(13,45),(14,46),(15,31)],[],[]⟩] [] [] ⟨[(12,44)],[(0,32),(1,33),(2,34),(3,35),(4,36),(5,37),(6,38),(7,39),(8,40),(9,41),(10,42),(11,43),(13,45),(14,46),(15,31)],[],[]⟩ ⟨below_nil,Bl.ld (HX1.p0.keep below_nil) 2 rfl,Bl.ld (HX1.p0.keep below_nil) 3 rfl,Bl.ld (HX1.p0.keep below_nil) 4 rfl,Bl.ld (HX1.p0.keep below_nil) 5 rfl,Bl.ld (HX1.p1.keep below_nil) 0 rfl,Bl.ld (HX1.p1.keep below_nil) 1 rfl,Bl.ld (HX1.p1.keep below_nil) 2 rfl,HC.out _ (Yb HX1.q3 below_nil)⟩ (trivial) (fun _ _ h b=>⟨(Yb h.1 b),Bl.ld (HX1.p0.keep (Yb h.1 b)) 2 rfl,Bl.ld (HX1.p0.keep (Yb h.1 b)) 3 rfl,Bl.ld (HX1.p0.keep (Yb h.1 b)) 4 rfl,Bl.ld (HX1.p0.keep (Yb h.1 b)) 5 rfl,Bl.ld (HX1.p1.keep (Yb h.1 b)) 0 rfl,Bl.ld (HX1.p1.keep (Yb h.1 b)) 1 rfl,Bl.ld (HX1.p1.keep (Yb h.1 b)) 2 rfl,HC.out _ (Yb HX1.q3 (Yb h.1 b))⟩) (fun _ _ _ h _=>h) ⟨fun _ _ _ h _=>h,fun _ _ _ _ h=>h.elim,trivial⟩ ⟨?_,?_,trivial⟩ trivial trivial ?_
     · rintro W hS
       refine gvN ?_;(repeat first|refine flA ?_|refine flB ?_);refine flN (flN ?_)
       refine flK (fun K hK=>?_) flL
       go_simp
       exact hK.out _ _ ⟨rfl,below_nil⟩
     · rintro W hS v12 rfl
       refine gvN ?_;(repeat first|refine flA ?_|refine flB ?_);refine flN (flN ?_)
       exact flL
     rintro W hS - v12 rfl
     have hS:=hS flY
     refine gvN ?_;(repeat first|refine flA ?_|refine flB ?_);refine flN (flN ?_)
     go_wp2_with fail
     go_meet
     exact ⟨rfl,hS.1⟩
   case rest=>
    obtain ⟨rfl,HQ⟩:=hcut
    generalize wc=W2 at HQ ⊢
    have HX2:=Yh4 (HX1.p0.keep HQ.out) (HX1.p1.keep HQ.out) (HX1.p2.keep HQ.out) (Yb HX1.q3 HQ.out)
    clear HX1 HQ
    obtain ⟨b2,hb2⟩:∃ b,(bh && decide (0<cmpQ x g.q))=b:=⟨_,rfl⟩
    rw [hb2]
    have HB2:=Lib.hid hb2
    clear hb2
    cases b2 with
    | true=>
     have HT:Hid (lackQ bl bh f.q g.q x=(x - g.q,false)):=lackQ_hi HB1.out HB2.out
     clear HB1 HB2
     go_upto_region 4 with (fail)
     refine flow (fun W=>Yg W2 W/\W.cell? ⟨w.heap.size,2,none⟩=some (.slice (some ⟨gb,ob,none⟩) bn bc)/\W.cell? ⟨w.heap.size,3,none⟩=some (.slice (some ⟨gc,oc,none⟩) cn cc)/\W.cell? ⟨w.heap.size,4,none⟩=some (.slice (some ⟨gd,od,none⟩) dn dc)/\W.cell? ⟨w.heap.size,5,none⟩=some (.slice (some ⟨ge,oe,none⟩) en ec)/\W.cell? ⟨(w.heap.size+1),0,none⟩=some (.bool bx)/\W.cell? ⟨(w.heap.size+1),1,none⟩=some (.slice Ax lx cx)/\W.cell? ⟨(w.heap.size+1),2,none⟩=some (.slice Bx kx dx)/\W.cell? ⟨gb,ob+k,none⟩=some (.bool bl)/\W.cell? ⟨gc,oc+k,none⟩=some (.bool bh)/\W.cell? ⟨gd,od+k*3,none⟩=some (.bool xd.b)/\W.cell? ⟨gd,od+k*3+1,none⟩=some (.slice xd.A xd.l xd.k)/\W.cell? ⟨gd,od+k*3+2,none⟩=some (.slice xd.B xd.m xd.d)/\W.cell? ⟨ge,oe+k*3,none⟩=some (.bool xe.b)/\W.cell? ⟨ge,oe+k*3+1,none⟩=some (.slice xe.A xe.l xe.k)/\W.cell? ⟨ge,oe+k*3+2,none⟩=some (.slice xe.B xe.m xe.d)) (fun vs W=>match vs with|[]=>True|_=>∃ p A l c B k d,Bl W 36 (w.heap.size+2) [.bool p,.slice A l c,.slice B k d]/\Qr w W (.agg #[.bool p,.slice A l c,.slice B k d]) (x - g.q)) (fun _ _=>False) 0 [⟨[],[(0,47),(1,48),(2,49),(3,50),(4,51),(5,52)],[],[(6,53,fun v W=>∃ p A l c B k d,v=.agg #[.bool p,.slice A l c,.slice B k d]/\Qr W2 W (.agg #[.bool p,.slice A l c,.slice B k d]) (x - g.q))]⟩] [⟨[],[],[(8,7)],[]⟩] [⟨7,none,[(6,53)],[],[]⟩] ⟨[(6,53)],[(0,47),(1,48),(2,49),(3,50),(4,51),(5,52)],[(8,7)],[]⟩ ⟨below_nil,Bl.ld (HX2.p0.keep below_nil) 2 rfl,Bl.ld (HX2.p0.keep below_nil) 3 rfl,Bl.ld (HX2.p0.keep below_nil) 4 rfl,Bl.ld (HX2.p0.keep below_nil) 5 rfl,Bl.ld (HX2.p1.keep below_nil) 0 rfl,Bl.ld (HX2.p1.keep below_nil) 1 rfl,Bl.ld (HX2.p1.keep below_nil) 2 rfl,HC.out _ (Yb HX2.q3 below_nil)⟩ (trivial) (fun _ _ h b=>⟨(Yb h.1 b),Bl.ld (HX2.p0.keep (Yb h.1 b)) 2 rfl,Bl.ld (HX2.p0.keep (Yb h.1 b)) 3 rfl,Bl.ld (HX2.p0.keep (Yb h.1 b)) 4 rfl,Bl.ld (HX2.p0.keep (Yb h.1 b)) 5 rfl,Bl.ld (HX2.p1.keep (Yb h.1 b)) 0 rfl,Bl.ld (HX2.p1.keep (Yb h.1 b)) 1 rfl,Bl.ld (HX2.p1.keep (Yb h.1 b)) 2 rfl,HC.out _ (Yb HX2.q3 (Yb h.1 b))⟩) (fun vs _ _ h b=>match vs,h with|[],_=>trivial|_::_,⟨p,A,l,c,B,k,d,h1,h2⟩=>⟨p,A,l,c,B,k,d,h1.keep b,h2.keep b⟩) ⟨fun _ _ _ ⟨p,A,l,c,B,k,d,e,h⟩ b=>⟨p,A,l,c,B,k,d,e,h.keep b⟩,fun _ _ _ _ h=>h.elim,trivial⟩ ⟨?_,trivial⟩ ⟨?_,trivial⟩ ⟨?_,trivial⟩ ?_
     · rintro W hS
       refine gvN ?_;(repeat refine flA ?_);refine flN (flN ?_)
       refine flK (fun K hK=>?_) flL
       go_simp
       go_at_call 98;refine (sub_v (HU.out.keep (Yb HX2.q3 hS.1)) (HV.q1.keep (Yb HX2.q3 hS.1)) HE.p0.1 Yd HE.p0.2 Yd).mono ?_;rintro e W2 ⟨v,rfl,h⟩
       obtain ⟨p,A,l,c,B,k,d,rfl⟩:=h.qo.parts
       go_wp2_with fail
       exact hK.out _ _ ⟨⟨_,_,_,_,_,_,_,rfl,h.from hS.1⟩,h.below⟩
     · refine gvN ?_;(repeat refine flA ?_);exact trivial
     · rintro W hS - v6 ⟨p6,E6,n6,k6,F6,m6,d6,rfl,h6⟩
       have hS:=hS flY
       refine gvN ?_;refine flN (flN ?_)
       refine flC fun K hK=>?_
       have X:=HX2.p2.keep hS.1
       have f0:=Bl.fr X 0
       have f1:=Bl.fr X 1
       have f2:=Bl.fr X 2
       have r0:=Bl.ld X 0 rfl
       have r1:=Bl.ld X 1 rfl
       have r2:=Bl.ld X 2 rfl
       go_simp
       clear f0 f1 f2 r0 r1 r2
       exact hK.out undef _ ⟨⟨_,_,_,_,_,_,_,X.set3 rfl (.bool p6) (.slice E6 n6 k6) (.slice F6 m6 d6),(h6.from HX2.q3).keepT (X.keep3 Yd (.bool p6) (.slice E6 n6 k6) (.slice F6 m6 d6)) (below3 (Yb HX2.q3 hS.1) Yo (.bool p6) (.slice E6 n6 k6) (.slice F6 m6 d6))⟩,fun h=>flX h⟩
     rintro W hS c7 ⟨p,A,l,c,B,k,d,X,hq⟩ v6 ⟨_,p6,E6,n6,k6,F6,m6,d6,rfl,-⟩
     clear hS
     refine gvN ?_;(repeat refine flA ?_);refine flN ?_
     go_wp2_with fail
     refine ret_bl X (fun W2 hW=>by have d0:=hW 0 _ rfl;have d1:=hW 1 _ rfl;have d2:=hW 2 _ rfl;simp [results,Tryz.results88,go_sem,d0,d1,d2];try rfl) rfl ?_
     have HL:=HT.out
     rw [HL]
     exact ⟨_,rfl,hq⟩
    | false=>
     have HT:Hid (lackQ bl bh f.q g.q x=(0,false)):=lackQ_no HB1.out HB2.out
     clear HB1 HB2
     go_wp2_with fail
     refine (whole_v (z:=0) (sm64 Yd)).mono ?_;rintro e W3 ⟨v,rfl,h⟩
     obtain ⟨p,A,l_,c,B,k_,d,rfl⟩:=h.qo.parts
     have X:=HX2.p2.keep h.below
     have f0:=Bl.fr X 0
     have f1:=Bl.fr X 1
     have f2:=Bl.fr X 2
     have r0:=Bl.ld X 0 rfl
     have r1:=Bl.ld X 1 rfl
     have r2:=Bl.ld X 2 rfl
     go_wp2_with fail
     refine ret_bl (X.set3 rfl (.bool p) (.slice A l_ c) (.slice B k_ d)) (fun W2 hW=>by have d0:=hW 0 _ rfl;have d1:=hW 1 _ rfl;have d2:=hW 2 _ rfl;simp [results,Tryz.results88,go_sem,d0,d1,d2];try rfl) rfl ?_
     have HL:=HT.out
     rw [HL]
     exact ⟨_,rfl,(h.from HX2.q3).keepT (X.keep3 Yd (.bool p) (.slice A l_ c) (.slice B k_ d)) (below3 (Yb HX2.q3 h.below) Yo (.bool p) (.slice A l_ c) (.slice B k_ d))⟩
end
end
section
section
open Go Go.RowKit Go.Proofs Pl
def fx0:Fx:=⟨false,[],[]⟩
def sL (l:LPx) (xs:List Fx) (c:Int):Rat × Bool:=
 if 0<=c/\c<(xs.length:Int) then lackQ (l.hasLo.getD c.toNat false) (l.hasHi.getD c.toNat false) (l.lo.getD c.toNat fx0).q (l.hi.getD c.toNat fx0).q (xs.getD c.toNat fx0).q else (0,false)
def sLs (l:LPx) (xs:List Fx) (bs:List Int) (i:Nat):Rat:=(sL l xs (bs.getD i 0)).1
def cLs (bs:List Int) (i:Nat):Int:=bs.getD i 0
def lvK (l:LPx) (xs:List Fx) (bs:List Int) (first:Bool) (k:Nat):Option Nat:=leaveK first (sLs l xs bs) (cLs bs) k
def leaveX (l:LPx) (bs:List Int) (xs:List Fx) (first:Bool):Int × Bool × Bool:=
 match lvK l xs bs first bs.length with
 | none=>(0,false,false)
 | some j=>((j:Int),(sL l xs (bs.getD j 0)).2,true)
def LvS (l:LPx) (xs:List Fx) (bs:List Int) (first:Bool) (k j:Nat) (up fd:Bool) (q:Rat):Prop:=
 (fd=false/\lvK l xs bs first k=none/\j=0/\up=false/\q=0)∨(fd=true/\lvK l xs bs first k=some j/\up=(sL l xs (bs.getD j 0)).2/\q=sLs l xs bs j/\j<k)
section
variable {l:LPx} {xs:List Fx} {bs:List Int} {first:Bool} {k j:Nat} {up fd:Bool} {q:Rat}
theorem LvS.fin (h:LvS l xs bs first k j up fd q) (hk:k=bs.length):leaveX l bs xs first=((j:Int),up,fd):=by
 unfold leaveX
 rw [<- hk]
 rcases h with ⟨rfl,h1,rfl,rfl,-⟩ | ⟨rfl,h1,rfl,-,-⟩
 · rw [h1];rfl
 · rw [h1]
theorem LvS.skip (h:LvS l xs bs first k j up fd q) (h0:sgnQ (sLs l xs bs k)=0):LvS l xs bs first (k+1) j up fd q:=by
 rcases h with ⟨rfl,h1,rfl,rfl,h2⟩ | ⟨rfl,h1,rfl,h2,h3⟩
 · exact .inl ⟨rfl,(leaveK_0 h0).trans h1,rfl,rfl,h2⟩
 · exact .inr ⟨rfl,(leaveK_0 h0).trans h1,rfl,h2,Yo⟩
theorem LvS.take1 (h:LvS l xs bs first k j up false q) (h0:sgnQ (sLs l xs bs k)≠0):LvS l xs bs first (k+1) k (sL l xs (bs.getD k 0)).2 true (sLs l xs bs k):=by
 rcases h with ⟨-,h1,-⟩ | ⟨h,-⟩
 · exact .inr ⟨rfl,leaveK_1 h0 h1,rfl,rfl,Yo⟩
 · cases h
theorem LvS.take2 (h:LvS l xs bs first k j up true q) (h0:sgnQ (sLs l xs bs k)≠0) (h3:((first && decide (cLs bs k<cLs bs j)) || (!first && (decide (0<cmpQ (sLs l xs bs k) q) || (decide (cmpQ (sLs l xs bs k) q=0) && decide (cLs bs k<cLs bs j)))))=true):LvS l xs bs first (k+1) k (sL l xs (bs.getD k 0)).2 true (sLs l xs bs k):=by
 rcases h with ⟨h,-⟩ | ⟨-,h1,-,rfl,-⟩
 · cases h
 · exact .inr ⟨rfl,leaveK_2 h0 h1 h3,rfl,rfl,Yo⟩
theorem LvS.stay (h:LvS l xs bs first k j up true q) (h0:sgnQ (sLs l xs bs k)≠0) (h3:((first && decide (cLs bs k<cLs bs j)) || (!first && (decide (0<cmpQ (sLs l xs bs k) q) || (decide (cmpQ (sLs l xs bs k) q=0) && decide (cLs bs k<cLs bs j)))))=false):LvS l xs bs first (k+1) j up true q:=by
 rcases h with ⟨h,-⟩ | ⟨-,h1,h4,h2,h5⟩
 · cases h
 · subst h2;exact .inr ⟨rfl,leaveK_3 h0 h1 h3,h4,rfl,Yo⟩
theorem LvS.lt (h:LvS l xs bs first k j up true q):j<k:=by
 rcases h with ⟨h,-⟩ | ⟨-,-,-,-,h⟩
 · cases h
 · exact h
theorem sL_in {c:Nat} {bl bh:Bool} {f g x:Fx} (h1:l.hasLo[c]?=some bl) (h2:l.hasHi[c]?=some bh) (h3:l.lo[c]?=some f) (h4:l.hi[c]?=some g) (h5:xs[c]?=some x):sL l xs (c:Int)=lackQ bl bh f.q g.q x.q:=by
 have hc:c<xs.length:=(List.getElem?_eq_some_iff.1 h5).1
 rw [sL,if_pos ⟨by omega,by omega⟩,Int.toNat_natCast]
 simp only [List.getD_eq_getElem?_getD,h1,h2,h3,h4,h5,Option.getD_some]
theorem sL_out {c:Int} (h:¬(0<=c/\c<(xs.length:Int))):sL l xs c=(0,false):=by rw [sL,if_neg h]
end
def fitsOne (l:LPx) (n:Nat):Prop:=l.cols.length=n/\l.lo.length=n/\l.hi.length=n/\l.hasLo.length=n/\l.hasHi.length=n
theorem fitsX_one {l:LPx} {n:Nat} (h:fitsX l [(n:Int)]=true):fitsOne l n:=by
 simp only [fitsX,allIs,List.cons_append,List.nil_append,List.all_cons,List.all_nil,Bool.and_true,Bool.and_eq_true,beq_iff_eq] at h
 unfold fitsOne;omega
theorem leave_v {w:World} {v u y:Value} {l:LPx} {bs:List Int} {xs:List Fx} {first:Bool} (h:LPv w v l) (hb:Iv w u bs) (hx:Rx w y xs) (hf:Fit30 l) (hxs:∀ f∈xs,f.xs.length<=6/\f.ds.length<=6) (hxl:xs.length<=30):
 Calls Tryz.prog 30 #[v,u,y,.bool first] w fun e w'=>∃ (p:Int) (up ok:Bool),e=.returned (.tuple #[.int .i64 p,.bool up,.bool ok])/\Yg w w'/\(fitsX l [(xs.length:Int)]=true->leaveX l bs xs first=(p,up,ok)):=by
 have hlp:=h
 obtain ⟨aA,an,ac,bA,bn,bc,cA,cn,cc,dA,dn,dc,eA,en,ec,fA,fn,fc,rfl,hP,hla,hlb,hlc,hld,hle,hlf,hma,hmb,hmc,hmd,hme,hmf⟩:=h.open
 obtain ⟨Au,cu,rfl,hs1,hs2⟩:=hb.shape
 have hnb:bs.length<=9223372036854775807:=Nat.le_trans hs1 hs2
 clear hs1 hs2
 obtain ⟨Ay,cy,rfl,-,-⟩:=hx.shape
 obtain ⟨n,hn⟩:∃ n,bs.length=n:=⟨_,rfl⟩
 obtain ⟨m,hm⟩:∃ m,xs.length=m:=⟨_,rfl⟩
 rw [hn] at hb hnb ⊢
 have HNB:=Lib.hid hnb
 clear hnb
 rw [hm] at hx hxl ⊢
 have HS:=Yh3 hlp hb hx
 have HZL:=Lib.hid (fit_sz hlp hf.1)
 have HN:=Yh2 hn hm
 have HZ:=Yh3 hxs hf hxl
 have HL:=Yh5 hla hlb hlc hld hle
 skip
 clear hP hlp hb hx hn hm hxs hf hxl hla hlb hlc hld hle hlf hma hmb hmc hmd hme hmf h
 change Calls Tryz.prog 30 #[.agg #[.int .i64 l.n,.slice aA an ac,.slice bA bn bc,.slice cA cn cc,.slice dA dn dc,.slice eA en ec,.slice fA fn fc],.slice Au n cu,.slice Ay m cy,.bool first] w _
 go_enter Tryz.func30,Tryz.ntmps30
 go_upto_region 1 with (fail)
 obtain ⟨hX,hB⟩:=box1 w 26 [.int .i64 l.n,.slice aA an ac,.slice bA bn bc,.slice cA cn cc,.slice dA dn dc,.slice eA en ec,.slice fA fn fc]
 have HX:=Yh2 hX hB
 clear hX hB
 generalize w.alloc _=W0 at HX ⊢
 have l0:=Bl.ld HX.p0 0 rfl
 have l1:=Bl.ld HX.p0 1 rfl
 have l2:=Bl.ld HX.p0 2 rfl
 have l3:=Bl.ld HX.p0 3 rfl
 have l4:=Bl.ld HX.p0 4 rfl
 have l5:=Bl.ld HX.p0 5 rfl
 have l6:=Bl.ld HX.p0 6 rfl
 have hal:=Ya W0 (.cells #[.int .i64 (m:Int)] 3)
 go_wp2_with fail
 refine (fits_r (n:=1) (ks:=[(m:Int)]) ((HS.p0.keep HX.q1).keep hal) (Bl.new W0 3 [.int .i64 (m:Int)]) rfl Yd).mono ?_;rintro e w1 ⟨rfl,hb⟩
 have H1:=Yh2 (HX.p0.keep (Yb hal hb)) (Yb HX.q1 (Yb hal hb))
 clear hal hb HX l0 l1 l2 l3 l4 l5 l6
 obtain ⟨ft,hft⟩:∃ b,fitsX l [(m:Int)]=b:=⟨_,rfl⟩
 rw [hft]
 cases ft with
 | false=>
  go_wp2_with fail
  go_ret3
  exact ⟨0,false,false,rfl,H1.q1,fun h=>by rw [hft] at h;cases h⟩
 | true=>
  have HFT:=Lib.hid (fitsX_one hft)
  clear hft
  go_wp2_with fail
  refine (whole_v (z:=0) (sm64 Yd)).mono ?_;rintro e w2 ⟨v,rfl,h⟩
  obtain ⟨p,A,l_,c,B,k_,d,rfl⟩:=h.qo.parts
  go_upto_region 4 with (fail)
  have hal:=Ya w2 (.cells #[.bool p,.slice A l_ c,.slice B k_ d] 36)
  have H2:=Yh4 (Yb H1.q1 (Yb h.below hal)) (H1.p0.keep (Yb h.below hal)) (Bl.new w2 36 [.bool p,.slice A l_ c,.slice B k_ d]) ((h.from H1.q1).keep hal)
  obtain ⟨g11,hg11⟩:∃ g,g=w2.heap.size:=⟨_,rfl⟩
  have hlt0:=(H1.p0.keep h.below).lt
  rw [<- hg11] at H2 hlt0 ⊢
  have HG:=Lib.hid hlt0
  clear hal hg11 h H1 hlt0
  generalize w2.alloc _=W2 at H2 ⊢
  go_wp2_with fail
  go_loopw [26,8,9,10] (fun z26 z8 z9 z10 wr=>∃ (k j:Nat) (up fd:Bool),z26=.int .i64 (k:Int)/\z8=.int .i64 (j:Int)/\z9=.bool up/\z10=.bool fd/\k<=n/\∃ (s:Rat) (p:Bool) (A:Option Addr) (l_ c:Nat) (B:Option Addr) (k_ d:Nat),Hid (LvS l xs bs first k j up fd s/\Sz 13 s/\Yg w wr/\Bl wr 26 w.heap.size [.int .i64 l.n,.slice aA an ac,.slice bA bn bc,.slice cA cn cc,.slice dA dn dc,.slice eA en ec,.slice fA fn fc]/\Bl wr 36 g11 [.bool p,.slice A l_ c,.slice B k_ d]/\Qr w wr (.agg #[.bool p,.slice A l_ c,.slice B k_ d]) s)) (fun z _ _ _ _=>n - (intOf z).toNat)
  case atStart=>exact ⟨0,0,false,false,rfl,rfl,rfl,rfl,Nat.zero_le _,0,p,A,l_,c,B,k_,d,.inl ⟨rfl,rfl,rfl,rfl,rfl⟩,sz_zero.mono Yd,H2.p0,H2.p1,H2.p2,H2.q3⟩
  case round=>
   clear H2
   have hnb:=HNB.out
   obtain ⟨k,j,up,fd,rfl,rfl,rfl,rfl,hk,s,p,A,l_,c,B,k_,d,H⟩:=hrel
   by_cases hlt:k<n
   · skip
     have hkb:k<bs.length:=by rw [HN.p0];exact hlt
     obtain ⟨c1,hc1⟩:∃ x,bs[k]?=some x:=⟨_,List.getElem?_eq_getElem hkb⟩
     obtain ⟨gu,ou,_,e,hgu,cu0⟩:=(HS.p1.keep H.p2).at_ hc1
     injection e with e1 e2 e3
     subst e1
     clear e2 e3
     have HC1:=Lib.hid hc1
     have HCD:=Lib.hid (show bs.getD k 0=c1 by rw [List.getD_eq_getElem?_getD,hc1];rfl)
     have HSU:=Lib.hid HS.p1
     clear hc1 hkb hgu
     by_cases hr:0<=c1/\c1<(m:Int)
     · skip
       obtain ⟨ck,rfl⟩:∃ ck:Nat,c1=(ck:Int):=⟨c1.toNat,Yo⟩
       have hcm:ck<m:=Yo
       have hn0:¬(ck:Int)<0:=Yo
       have hn1:¬(m:Int)<=(ck:Int):=Yo
       have hn2:(ck:Int)<(m:Int):=Yo
       clear hr
       obtain ⟨bl,hbl⟩:∃ t,l.hasLo[ck]?=some t:=⟨_,List.getElem?_eq_getElem (by have:=HFT.out;unfold fitsOne at this;omega)⟩
       obtain ⟨bh,hbh⟩:∃ t,l.hasHi[ck]?=some t:=⟨_,List.getElem?_eq_getElem (by have:=HFT.out;unfold fitsOne at this;omega)⟩
       obtain ⟨f,hf⟩:∃ t,l.lo[ck]?=some t:=⟨_,List.getElem?_eq_getElem (by have:=HFT.out;unfold fitsOne at this;omega)⟩
       obtain ⟨g,hg⟩:∃ t,l.hi[ck]?=some t:=⟨_,List.getElem?_eq_getElem (by have:=HFT.out;unfold fitsOne at this;omega)⟩
       obtain ⟨x,hxx⟩:∃ t,xs[ck]?=some t:=⟨_,List.getElem?_eq_getElem (by rw [HN.q1];exact hcm)⟩
       have HZ3:=Yh2 (HZL.q1 f (.inl (List.mem_of_getElem? hf))) (HZL.q1 g (.inr (.inl (List.mem_of_getElem? hg))))
       have HEL:=Yh5 hbl hbh hf hg hxx
       have HSL:Hid (sL l xs (bs.getD k 0)=lackQ bl bh f.q g.q x.q):=by rw [HCD.out];exact sL_in hbl hbh hf hg hxx
       have HZ2:=Yh3 (HZ.p1.1.2.2 f (.inl (List.mem_of_getElem? hf))) (HZ.p1.1.2.2 g (.inr (.inl (List.mem_of_getElem? hg)))) (HZ.p0 x (List.mem_of_getElem? hxx))
       obtain ⟨gy,oy,_,xy,e,hgy,hvy,y0,y1,y2⟩:=(HS.q2).at_ hxx
       injection e with e1 e2 e3
       subst e1
       clear e2 e3 hbl hbh hf hg hxx hcm
       have HY:Hid (∀ W,Yg w W->W.cell? ⟨gy,oy+ck*3,none⟩=some (.bool xy.b)/\W.cell? ⟨gy,oy+ck*3+1,none⟩=some (.slice xy.A xy.l xy.k)/\W.cell? ⟨gy,oy+ck*3+2,none⟩=some (.slice xy.B xy.m xy.d)):=fun W b=>⟨(b.cell (p:=⟨gy,_,none⟩) hgy).trans y0,(b.cell (p:=⟨gy,_,none⟩) hgy).trans y1,(b.cell (p:=⟨gy,_,none⟩) hgy).trans y2⟩
       have HVY:=Lib.hid (Fv.qv (L:=6) hvy HZ2.p2 HZ2.q3)
       clear y0 y1 y2 hvy hgy
       go_upto_region 8 with (fail)
       have HB:=Lib.hid H.p2
       refine flow (fun W=>Yg wr W/\W.cell? ⟨w.heap.size,0,none⟩=some (.int .i64 l.n)/\W.cell? ⟨w.heap.size,1,none⟩=some (.slice aA an ac)/\W.cell? ⟨w.heap.size,2,none⟩=some (.slice bA bn bc)/\W.cell? ⟨w.heap.size,3,none⟩=some (.slice cA cn cc)/\W.cell? ⟨w.heap.size,4,none⟩=some (.slice dA dn dc)/\W.cell? ⟨w.heap.size,5,none⟩=some (.slice eA en ec)/\W.cell? ⟨w.heap.size,6,none⟩=some (.slice fA fn fc)/\W.cell? ⟨gy,oy+ck*3,none⟩=some (.bool xy.b)/\W.cell? ⟨gy,oy+ck*3+1,none⟩=some (.slice xy.A xy.l xy.k)/\W.cell? ⟨gy,oy+ck*3+2,none⟩=some (.slice xy.B xy.m xy.d)) (fun vs W=>match vs with|[]=>True|[a]=>∃ gg,a=.pointer (some ⟨gg,0,none⟩)/\wr.heap.size<=gg/\Bl W 36 gg [.bool false,.slice none 0 0,.slice none 0 0]|[a,_]=>∃ gg p A l c B k d,a=.pointer (some ⟨gg,0,none⟩)/\wr.heap.size<=gg/\Bl W 36 gg [.bool p,.slice A l c,.slice B k d]/\Qr w W (.agg #[.bool p,.slice A l c,.slice B k d]) (lackQ bl bh f.q g.q x.q).1/\Yg wr W|_=>True) (fun w w'=>Yg w w') 1 [⟨[],[(0,40),(1,41),(2,42),(3,43),(4,44),(5,45)],[],[(6,46,fun v W=>∃ p A l c B k d,v=.tuple #[.agg #[.bool p,.slice A l c,.slice B k d],.bool (lackQ bl bh f.q g.q x.q).2]/\Qr w W (.agg #[.bool p,.slice A l c,.slice B k d]) (lackQ bl bh f.q g.q x.q).1)]⟩] [⟨[(6,46)],[],[(7,39),(8,47),(9,48),(12,15)],[]⟩] [⟨10,some 14,[],[],[]⟩,⟨11,none,[(6,46)],[],[(7,39),(8,47)]⟩] ⟨[(6,46)],[(0,40),(1,41),(2,42),(3,43),(4,44),(5,45)],[(7,39),(8,47),(9,48),(12,15)],[]⟩ ⟨below_nil,Bl.ld (H.p3.keep below_nil) 0 rfl,Bl.ld (H.p3.keep below_nil) 1 rfl,Bl.ld (H.p3.keep below_nil) 2 rfl,Bl.ld (H.p3.keep below_nil) 3 rfl,Bl.ld (H.p3.keep below_nil) 4 rfl,Bl.ld (H.p3.keep below_nil) 5 rfl,Bl.ld (H.p3.keep below_nil) 6 rfl,HY.out _ (Yb HB.out below_nil)⟩ (trivial) (fun _ _ h b=>⟨(Yb h.1 b),Bl.ld (H.p3.keep (Yb h.1 b)) 0 rfl,Bl.ld (H.p3.keep (Yb h.1 b)) 1 rfl,Bl.ld (H.p3.keep (Yb h.1 b)) 2 rfl,Bl.ld (H.p3.keep (Yb h.1 b)) 3 rfl,Bl.ld (H.p3.keep (Yb h.1 b)) 4 rfl,Bl.ld (H.p3.keep (Yb h.1 b)) 5 rfl,Bl.ld (H.p3.keep (Yb h.1 b)) 6 rfl,HY.out _ (Yb HB.out (Yb h.1 b))⟩) (fun vs _ _ h b=>match vs,h with|[],_=>trivial|[_],⟨g,e,h1,h2⟩=>⟨g,e,h1,h2.keep b⟩|[_,_],⟨g,p,A,l,c,B,k,d,e,h1,h2,h3,h4⟩=>⟨g,p,A,l,c,B,k,d,e,h1,h2.keep b,h3.keep b,Yb h4 b⟩|_::_::_::_,_=>trivial) ⟨fun _ _ _ ⟨p6,A6,l6,c6,B6,k6,d6,e,h⟩ b=>⟨p6,A6,l6,c6,B6,k6,d6,e,h.keep b⟩,fun _ _ _ ⟨p6,A6,l6,c6,B6,k6,d6,e,h⟩ b=>⟨p6,A6,l6,c6,B6,k6,d6,e,h.keep b⟩,trivial⟩ ⟨?_,trivial⟩ ⟨?_,trivial⟩ ⟨?_,?_,trivial⟩ ?_
       · rintro W hS
         refine gvN ?_;(repeat refine flA ?_);refine flN (flN ?_)
         refine flK (fun K hK=>?_) flL
         go_simp
         go_at_call 88;refine (lack_v (HS.p0.keep (Yb HB.out hS.1)) HEL.p0 HEL.p1 HEL.p2 HEL.p3 (HVY.out.keep (Yb HB.out hS.1)) Yd Yd HZ2.p0.1 HZ2.p0.2 HZ2.p1.1 HZ2.p1.2).mono ?_;rintro e W2 ⟨v,rfl,h⟩
         obtain ⟨p,A,l_,c,B,k_,d,rfl⟩:=h.qo.parts
         go_wp2_with fail
         exact hK.out _ _ ⟨⟨_,_,_,_,_,_,_,rfl,h.from (Yb HB.out hS.1)⟩,h.below⟩
       · rintro v6 ⟨_,p6,A6,l6,c6,B6,k6,d6,rfl,-⟩
         refine gvN ?_;(repeat refine flA ?_);exact trivial
       · rintro W hS -
         have hS:=hS flY
         refine gvN ?_;refine flN (flN ?_)
         refine flC fun K hK=>?_
         have hal:=Ya W (.cells #[.bool false,.slice none 0 0,.slice none 0 0] 36)
         go_simp
         have hb2:=Yb hS.1 hal
         exact hK.out _ _ ⟨⟨_,rfl,hS.1.size,Bl.new W 36 [.bool false,.slice none 0 0,.slice none 0 0]⟩,fun _=>⟨⟨hb2,Bl.ld (H.p3.keep hb2) 0 rfl,Bl.ld (H.p3.keep hb2) 1 rfl,Bl.ld (H.p3.keep hb2) 2 rfl,Bl.ld (H.p3.keep hb2) 3 rfl,Bl.ld (H.p3.keep hb2) 4 rfl,Bl.ld (H.p3.keep hb2) 5 rfl,Bl.ld (H.p3.keep hb2) 6 rfl,HY.out _ (Yb HB.out hb2)⟩,hal⟩⟩
       · rintro W hS c10 ⟨gz,rfl,pz,Xz⟩ v6 ⟨p6,A6,l6,c6,B6,k6,d6,rfl,h6⟩
         have hS:=hS flY
         refine gvN ?_;(repeat refine flA ?_);refine flN ?_
         refine flC fun K hK=>?_
         have f0:=Bl.fr Xz 0
         have f1:=Bl.fr Xz 1
         have f2:=Bl.fr Xz 2
         have r0:=Bl.ld Xz 0 rfl
         have r1:=Bl.ld Xz 1 rfl
         have r2:=Bl.ld Xz 2 rfl
         go_simp
         clear f0 f1 f2 r0 r1 r2
         have b3:=below3 hS.1 pz (.bool p6) (.slice A6 l6 c6) (.slice B6 k6 d6)
         exact hK.out undef _ ⟨⟨_,_,_,_,_,_,_,_,rfl,pz,Xz.set3 rfl (.bool p6) (.slice A6 l6 c6) (.slice B6 k6 d6),h6.keepT (Xz.keep3 Yd (.bool p6) (.slice A6 l6 c6) (.slice B6 k6 d6)) (Yb HB.out b3),b3⟩,fun h=>flX h⟩
       rintro W hS c10 c11 ⟨gz,pz1,Az,lz,cz,Bz,kz,dz,rfl,pz,Xz,hz,hbz⟩ v6 ⟨_,p6,A6,l6,c6,B6,k6,d6,rfl,-⟩
       clear hS
       refine gvN ?_;(repeat refine flA ?_);refine flN ?_
       have HQ:=Yh6 (Yb HB.out hbz) (H.p3.keep hbz) (H.p4.keep hbz) (H.q5.keep hbz) Xz hz
       have HNE:gz≠g11:=by have:=H.p4.lt;omega
       have HSS:Hid (sLs l xs bs k=(lackQ bl bh f.q g.q x.q).1):=congrArg Prod.fst HSL.out
       have HUP:Hid ((sL l xs (bs.getD k 0)).2=(lackQ bl bh f.q g.q x.q).2):=congrArg Prod.snd HSL.out
       have HSZ:Hid (Sz 13 (lackQ bl bh f.q g.q x.q).1):=lackQ_sz HZ3.p0 HZ3.q1 (HVY.out.sz Yd) Yd
       have HLV:=Lib.hid H.p0
       have HSB:=Lib.hid H.p1
       clear H HB HEL HZ2 HVY HY HSL hbz Xz hz
       obtain ⟨sk,hsk⟩:∃ s,lackQ bl bh f.q g.q x.q=s:=⟨_,rfl⟩
       rw [hsk] at HSS HUP HSZ HQ ⊢
       clear hsk
       obtain ⟨sk,us⟩:=sk
       dsimp only at HSS HUP HSZ HQ ⊢
       have z0:=Bl.ld HQ.p4 0 rfl
       have z1:=Bl.ld HQ.p4 1 rfl
       have z2:=Bl.ld HQ.p4 2 rfl
       go_wp2_with fail
       refine (sign_v (HQ.q5.qv HSZ.out) Yd).mono ?_;rintro e w9 ⟨rfl,hb⟩
       have H9:=Yh6 (Yb HQ.p0 hb) (HQ.p1.keep hb) (HQ.p2.keep hb) (HQ.p3.keep hb) (HQ.p4.keep hb) (HQ.q5.keep hb)
       clear hb HQ z0 z1 z2
       by_cases hs0:sgnQ sk=0
       · skip
         have hs1:(sgnQ sk==0)=true:=by simp [hs0]
         go_wp2_with fail
         case roundEnd=>exact ⟨⟨k+1,j,up,fd,by go_num,rfl,rfl,rfl,Yo,s,p,A,l_,c,B,k_,d,HLV.out.skip (by rw [HSS.out];exact hs0),HSB.out,H9.p0,H9.p1,H9.p2,H9.p3⟩,by simp [intOf];omega⟩
       have HS0:Hid (sgnQ (sLs l xs bs k)≠0):=by rw [HSS.out];exact hs0
       have hs1:(sgnQ sk==0)=false:=by simp [hs0]
       have z0:=Bl.ld H9.p4 0 rfl
       have z1:=Bl.ld H9.p4 1 rfl
       have z2:=Bl.ld H9.p4 2 rfl
       have y0:=Bl.ld H9.p2 0 rfl
       have y1:=Bl.ld H9.p2 1 rfl
       have y2:=Bl.ld H9.p2 2 rfl
       go_wp2_with fail
       refine (cmp_v (H9.q5.qv HSZ.out) (H9.p3.qv HSB.out) Yd Yd Yd Yd).mono ?_;rintro e w10 ⟨rfl,hb⟩
       have H10:=Yh6 (Yb H9.p0 hb) (H9.p1.keep hb) (H9.p2.keep hb) (H9.p3.keep hb) (H9.p4.keep hb) (H9.q5.keep hb)
       clear hb H9 z0 z1 z2 y0 y1 y2 hs0 hs1
       obtain ⟨o,ho⟩:∃ o,cmpQ sk s=o:=⟨_,rfl⟩
       rw [ho]
       have HO:=Lib.hid ho
       clear ho
       cases fd with
       | false=>
        have HGW:Hid (g11≠w.heap.size/\w.heap.size<=g11):=by have:=HG.out;exact ⟨Yo,Yo⟩
        go_upto_region 12 with (fail)
        refine flow (fun W=>Yg w10 W/\W.cell? ⟨gz,0,none⟩=some (.bool pz1)/\W.cell? ⟨gz,1,none⟩=some (.slice Az lz cz)/\W.cell? ⟨gz,2,none⟩=some (.slice Bz kz dz)) (fun vs W=>match vs with|[]=>True|_=>Bl W 26 w.heap.size [.int .i64 l.n,.slice aA an ac,.slice bA bn bc,.slice cA cn cc,.slice dA dn dc,.slice eA en ec,.slice fA fn fc]/\Bl W 36 g11 [.bool pz1,.slice Az lz cz,.slice Bz kz dz]/\Qr w W (.agg #[.bool pz1,.slice Az lz cz,.slice Bz kz dz]) sk/\Yg w W) (fun _ _=>False) 0 [⟨[],[(0,88),(1,89),(2,90),(3,8),(4,9),(5,10)],[],[]⟩] [] [⟨6,none,[],[(2,90)],[]⟩] ⟨[],[(0,88),(1,89),(2,90),(3,8),(4,9),(5,10)],[],[]⟩ ⟨below_nil,Bl.ld (H10.p4.keep below_nil) 0 rfl,Bl.ld (H10.p4.keep below_nil) 1 rfl,Bl.ld (H10.p4.keep below_nil) 2 rfl⟩ (trivial) (fun _ _ h b=>⟨(Yb h.1 b),Bl.ld (H10.p4.keep (Yb h.1 b)) 0 rfl,Bl.ld (H10.p4.keep (Yb h.1 b)) 1 rfl,Bl.ld (H10.p4.keep (Yb h.1 b)) 2 rfl⟩) (fun vs _ _ h b=>match vs,h with|[],_=>trivial|_::_,⟨h1,h2,h3,h4⟩=>⟨h1.keep b,h2.keep b,h3.keep b,Yb h4 b⟩) trivial ⟨?_,trivial⟩ trivial ⟨?_,trivial⟩ ?_
        · rintro W hS
          refine gvN ?_;(repeat refine flA ?_);refine flN (flN ?_)
          exact flL
        · rintro W hS -
          have hS:=hS flY
          refine gvN ?_;(repeat refine flA ?_);refine flN (flN ?_)
          refine flC fun K hK=>?_
          have Y:=H10.p2.keep hS.1
          have f0:=Bl.fr Y 0
          have f1:=Bl.fr Y 1
          have f2:=Bl.fr Y 2
          have r0:=Bl.ld Y 0 rfl
          have r1:=Bl.ld Y 1 rfl
          have r2:=Bl.ld Y 2 rfl
          go_simp
          clear f0 f1 f2 r0 r1 r2
          exact hK.out undef _ ⟨⟨(H10.p1.keep hS.1).other3 HGW.p0 (.bool pz1) (.slice Az lz cz) (.slice Bz kz dz),Y.set3 rfl (.bool pz1) (.slice Az lz cz) (.slice Bz kz dz),(H10.q5.keep hS.1).keepT (Y.keep3 Yd (.bool pz1) (.slice Az lz cz) (.slice Bz kz dz)) (below3 (Yb H10.p0 hS.1) HGW.q1 (.bool pz1) (.slice Az lz cz) (.slice Bz kz dz)),below3 (Yb H10.p0 hS.1) HGW.q1 (.bool pz1) (.slice Az lz cz) (.slice Bz kz dz)⟩,fun h=>flX h⟩
        rintro W hS c6 ⟨h1,h2,h3,h4⟩
        clear hS
        refine gvN ?_;(repeat refine flA ?_);refine flN (flN ?_)
        rw [<- HUP.out]
        go_wp2_with fail
        case roundEnd=>exact ⟨⟨k+1,k,_,true,by go_num,rfl,rfl,rfl,Yo,sk,pz1,Az,lz,cz,Bz,kz,dz,by have h:=HLV.out.take1 HS0.out;rw [HSS.out] at h;exact h,HSZ.out,h4,h1,h2,h3⟩,by simp [intOf];omega⟩
       | true=>
        have hjk:=HLV.out.lt
        have hjb:j<bs.length:=by rw [HN.p0];omega
        obtain ⟨cj,hcj⟩:∃ x,bs[j]?=some x:=⟨_,List.getElem?_eq_getElem hjb⟩
        obtain ⟨_,_,_,e,-,cuj⟩:=(HSU.out.keep H10.p0).at_ hcj
        injection e with e1 e2 e3
        injection e1 with e1
        injection e1 with e1 e4 e5
        subst e1;subst e4
        clear e2 e3 e5
        have hjn:(j:Int)<(n:Int):=Yo
        have HCJ:Hid (cLs bs j=cj/\cLs bs k=(ck:Int)):=⟨by simp only [cLs,List.getD_eq_getElem?_getD,hcj,Option.getD_some],HCD.out⟩
        clear hcj hjb
        cases first with
        | true=>
         by_cases hcj:(ck:Int)<cj
         · skip
           have HGW:Hid (g11≠w.heap.size/\w.heap.size<=g11):=by have:=HG.out;exact ⟨Yo,Yo⟩
           go_upto_region 12 with (fail)
           refine flow (fun W=>Yg w10 W/\W.cell? ⟨gz,0,none⟩=some (.bool pz1)/\W.cell? ⟨gz,1,none⟩=some (.slice Az lz cz)/\W.cell? ⟨gz,2,none⟩=some (.slice Bz kz dz)) (fun vs W=>match vs with|[]=>True|_=>Bl W 26 w.heap.size [.int .i64 l.n,.slice aA an ac,.slice bA bn bc,.slice cA cn cc,.slice dA dn dc,.slice eA en ec,.slice fA fn fc]/\Bl W 36 g11 [.bool pz1,.slice Az lz cz,.slice Bz kz dz]/\Qr w W (.agg #[.bool pz1,.slice Az lz cz,.slice Bz kz dz]) sk/\Yg w W) (fun _ _=>False) 0 [⟨[],[(0,88),(1,89),(2,90),(3,8),(4,9),(5,10)],[],[]⟩] [] [⟨6,none,[],[(2,90)],[]⟩] ⟨[],[(0,88),(1,89),(2,90),(3,8),(4,9),(5,10)],[],[]⟩ ⟨below_nil,Bl.ld (H10.p4.keep below_nil) 0 rfl,Bl.ld (H10.p4.keep below_nil) 1 rfl,Bl.ld (H10.p4.keep below_nil) 2 rfl⟩ (trivial) (fun _ _ h b=>⟨(Yb h.1 b),Bl.ld (H10.p4.keep (Yb h.1 b)) 0 rfl,Bl.ld (H10.p4.keep (Yb h.1 b)) 1 rfl,Bl.ld (H10.p4.keep (Yb h.1 b)) 2 rfl⟩) (fun vs _ _ h b=>match vs,h with|[],_=>trivial|_::_,⟨h1,h2,h3,h4⟩=>⟨h1.keep b,h2.keep b,h3.keep b,Yb h4 b⟩) trivial ⟨?_,trivial⟩ trivial ⟨?_,trivial⟩ ?_
           · rintro W hS
             refine gvN ?_;(repeat refine flA ?_);refine flN (flN ?_)
             exact flL
           · rintro W hS -
             have hS:=hS flY
             refine gvN ?_;(repeat refine flA ?_);refine flN (flN ?_)
             refine flC fun K hK=>?_
             have Y:=H10.p2.keep hS.1
             have f0:=Bl.fr Y 0
             have f1:=Bl.fr Y 1
             have f2:=Bl.fr Y 2
             have r0:=Bl.ld Y 0 rfl
             have r1:=Bl.ld Y 1 rfl
             have r2:=Bl.ld Y 2 rfl
             go_simp
             clear f0 f1 f2 r0 r1 r2
             exact hK.out undef _ ⟨⟨(H10.p1.keep hS.1).other3 HGW.p0 (.bool pz1) (.slice Az lz cz) (.slice Bz kz dz),Y.set3 rfl (.bool pz1) (.slice Az lz cz) (.slice Bz kz dz),(H10.q5.keep hS.1).keepT (Y.keep3 Yd (.bool pz1) (.slice Az lz cz) (.slice Bz kz dz)) (below3 (Yb H10.p0 hS.1) HGW.q1 (.bool pz1) (.slice Az lz cz) (.slice Bz kz dz)),below3 (Yb H10.p0 hS.1) HGW.q1 (.bool pz1) (.slice Az lz cz) (.slice Bz kz dz)⟩,fun h=>flX h⟩
           rintro W hS c6 ⟨h1,h2,h3,h4⟩
           clear hS
           refine gvN ?_;(repeat refine flA ?_);refine flN (flN ?_)
           rw [<- HUP.out]
           go_wp2_with fail
           case roundEnd=>exact ⟨⟨k+1,k,_,true,by go_num,rfl,rfl,rfl,Yo,sk,pz1,Az,lz,cz,Bz,kz,dz,by have h:=HLV.out.take2 HS0.out (by rw [HCJ.p0,HCJ.q1,HSS.out,HO.out];simp [hcj]);rw [HSS.out] at h;exact h,HSZ.out,h4,h1,h2,h3⟩,by simp [intOf];omega⟩
         go_wp2_with fail
         case roundEnd=>exact ⟨⟨k+1,j,up,true,by go_num,rfl,rfl,rfl,Yo,s,p,A,l_,c,B,k_,d,HLV.out.stay HS0.out (by rw [HCJ.p0,HCJ.q1,HSS.out,HO.out];simp [hcj]),HSB.out,H10.p0,H10.p1,H10.p2,H10.p3⟩,by simp [intOf];omega⟩
        | false=>
         by_cases ho1:0<o
         · skip
           have HGW:Hid (g11≠w.heap.size/\w.heap.size<=g11):=by have:=HG.out;exact ⟨Yo,Yo⟩
           go_upto_region 12 with (fail)
           refine flow (fun W=>Yg w10 W/\W.cell? ⟨gz,0,none⟩=some (.bool pz1)/\W.cell? ⟨gz,1,none⟩=some (.slice Az lz cz)/\W.cell? ⟨gz,2,none⟩=some (.slice Bz kz dz)) (fun vs W=>match vs with|[]=>True|_=>Bl W 26 w.heap.size [.int .i64 l.n,.slice aA an ac,.slice bA bn bc,.slice cA cn cc,.slice dA dn dc,.slice eA en ec,.slice fA fn fc]/\Bl W 36 g11 [.bool pz1,.slice Az lz cz,.slice Bz kz dz]/\Qr w W (.agg #[.bool pz1,.slice Az lz cz,.slice Bz kz dz]) sk/\Yg w W) (fun _ _=>False) 0 [⟨[],[(0,88),(1,89),(2,90),(3,8),(4,9),(5,10)],[],[]⟩] [] [⟨6,none,[],[(2,90)],[]⟩] ⟨[],[(0,88),(1,89),(2,90),(3,8),(4,9),(5,10)],[],[]⟩ ⟨below_nil,Bl.ld (H10.p4.keep below_nil) 0 rfl,Bl.ld (H10.p4.keep below_nil) 1 rfl,Bl.ld (H10.p4.keep below_nil) 2 rfl⟩ (trivial) (fun _ _ h b=>⟨(Yb h.1 b),Bl.ld (H10.p4.keep (Yb h.1 b)) 0 rfl,Bl.ld (H10.p4.keep (Yb h.1 b)) 1 rfl,Bl.ld (H10.p4.keep (Yb h.1 b)) 2 rfl⟩) (fun vs _ _ h b=>match vs,h with|[],_=>trivial|_::_,⟨h1,h2,h3,h4⟩=>⟨h1.keep b,h2.keep b,h3.keep b,Yb h4 b⟩) trivial ⟨?_,trivial⟩ trivial ⟨?_,trivial⟩ ?_
           · rintro W hS
             refine gvN ?_;(repeat refine flA ?_);refine flN (flN ?_)
             exact flL
           · rintro W hS -
             have hS:=hS flY
             refine gvN ?_;(repeat refine flA ?_);refine flN (flN ?_)
             refine flC fun K hK=>?_
             have Y:=H10.p2.keep hS.1
             have f0:=Bl.fr Y 0
             have f1:=Bl.fr Y 1
             have f2:=Bl.fr Y 2
             have r0:=Bl.ld Y 0 rfl
             have r1:=Bl.ld Y 1 rfl
             have r2:=Bl.ld Y 2 rfl
             go_simp
             clear f0 f1 f2 r0 r1 r2
             exact hK.out undef _ ⟨⟨(H10.p1.keep hS.1).other3 HGW.p0 (.bool pz1) (.slice Az lz cz) (.slice Bz kz dz),Y.set3 rfl (.bool pz1) (.slice Az lz cz) (.slice Bz kz dz),(H10.q5.keep hS.1).keepT (Y.keep3 Yd (.bool pz1) (.slice Az lz cz) (.slice Bz kz dz)) (below3 (Yb H10.p0 hS.1) HGW.q1 (.bool pz1) (.slice Az lz cz) (.slice Bz kz dz)),below3 (Yb H10.p0 hS.1) HGW.q1 (.bool pz1) (.slice Az lz cz) (.slice Bz kz dz)⟩,fun h=>flX h⟩
           rintro W hS c6 ⟨h1,h2,h3,h4⟩
           clear hS
           refine gvN ?_;(repeat refine flA ?_);refine flN (flN ?_)
           rw [<- HUP.out]
           go_wp2_with fail
           case roundEnd=>exact ⟨⟨k+1,k,_,true,by go_num,rfl,rfl,rfl,Yo,sk,pz1,Az,lz,cz,Bz,kz,dz,by have h:=HLV.out.take2 HS0.out (by rw [HCJ.p0,HCJ.q1,HSS.out,HO.out];simp [ho1]);rw [HSS.out] at h;exact h,HSZ.out,h4,h1,h2,h3⟩,by simp [intOf];omega⟩
         by_cases ho2:o=0
         · skip
           subst ho2
           by_cases hcj:(ck:Int)<cj
           · skip
             have HGW:Hid (g11≠w.heap.size/\w.heap.size<=g11):=by have:=HG.out;exact ⟨Yo,Yo⟩
             go_upto_region 12 with (fail)
             refine flow (fun W=>Yg w10 W/\W.cell? ⟨gz,0,none⟩=some (.bool pz1)/\W.cell? ⟨gz,1,none⟩=some (.slice Az lz cz)/\W.cell? ⟨gz,2,none⟩=some (.slice Bz kz dz)) (fun vs W=>match vs with|[]=>True|_=>Bl W 26 w.heap.size [.int .i64 l.n,.slice aA an ac,.slice bA bn bc,.slice cA cn cc,.slice dA dn dc,.slice eA en ec,.slice fA fn fc]/\Bl W 36 g11 [.bool pz1,.slice Az lz cz,.slice Bz kz dz]/\Qr w W (.agg #[.bool pz1,.slice Az lz cz,.slice Bz kz dz]) sk/\Yg w W) (fun _ _=>False) 0 [⟨[],[(0,88),(1,89),(2,90),(3,8),(4,9),(5,10)],[],[]⟩] [] [⟨6,none,[],[(2,90)],[]⟩] ⟨[],[(0,88),(1,89),(2,90),(3,8),(4,9),(5,10)],[],[]⟩ ⟨below_nil,Bl.ld (H10.p4.keep below_nil) 0 rfl,Bl.ld (H10.p4.keep below_nil) 1 rfl,Bl.ld (H10.p4.keep below_nil) 2 rfl⟩ (trivial) (fun _ _ h b=>⟨(Yb h.1 b),Bl.ld (H10.p4.keep (Yb h.1 b)) 0 rfl,Bl.ld (H10.p4.keep (Yb h.1 b)) 1 rfl,Bl.ld (H10.p4.keep (Yb h.1 b)) 2 rfl⟩) (fun vs _ _ h b=>match vs,h with|[],_=>trivial|_::_,⟨h1,h2,h3,h4⟩=>⟨h1.keep b,h2.keep b,h3.keep b,Yb h4 b⟩) trivial ⟨?_,trivial⟩ trivial ⟨?_,trivial⟩ ?_
             · rintro W hS
               refine gvN ?_;(repeat refine flA ?_);refine flN (flN ?_)
               exact flL
             · rintro W hS -
               have hS:=hS flY
               refine gvN ?_;(repeat refine flA ?_);refine flN (flN ?_)
               refine flC fun K hK=>?_
               have Y:=H10.p2.keep hS.1
               have f0:=Bl.fr Y 0
               have f1:=Bl.fr Y 1
               have f2:=Bl.fr Y 2
               have r0:=Bl.ld Y 0 rfl
               have r1:=Bl.ld Y 1 rfl
               have r2:=Bl.ld Y 2 rfl
               go_simp
               clear f0 f1 f2 r0 r1 r2
               exact hK.out undef _ ⟨⟨(H10.p1.keep hS.1).other3 HGW.p0 (.bool pz1) (.slice Az lz cz) (.slice Bz kz dz),Y.set3 rfl (.bool pz1) (.slice Az lz cz) (.slice Bz kz dz),(H10.q5.keep hS.1).keepT (Y.keep3 Yd (.bool pz1) (.slice Az lz cz) (.slice Bz kz dz)) (below3 (Yb H10.p0 hS.1) HGW.q1 (.bool pz1) (.slice Az lz cz) (.slice Bz kz dz)),below3 (Yb H10.p0 hS.1) HGW.q1 (.bool pz1) (.slice Az lz cz) (.slice Bz kz dz)⟩,fun h=>flX h⟩
             rintro W hS c6 ⟨h1,h2,h3,h4⟩
             clear hS
             refine gvN ?_;(repeat refine flA ?_);refine flN (flN ?_)
             rw [<- HUP.out]
             go_wp2_with fail
             case roundEnd=>exact ⟨⟨k+1,k,_,true,by go_num,rfl,rfl,rfl,Yo,sk,pz1,Az,lz,cz,Bz,kz,dz,by have h:=HLV.out.take2 HS0.out (by rw [HCJ.p0,HCJ.q1,HSS.out,HO.out];simp [hcj]);rw [HSS.out] at h;exact h,HSZ.out,h4,h1,h2,h3⟩,by simp [intOf];omega⟩
           go_wp2_with fail
           case roundEnd=>exact ⟨⟨k+1,j,up,true,by go_num,rfl,rfl,rfl,Yo,s,p,A,l_,c,B,k_,d,HLV.out.stay HS0.out (by rw [HCJ.p0,HCJ.q1,HSS.out,HO.out];simp [hcj]),HSB.out,H10.p0,H10.p1,H10.p2,H10.p3⟩,by simp [intOf];omega⟩
         have ho3:(o==0)=false:=by simp [ho2]
         go_wp2_with fail
         case roundEnd=>exact ⟨⟨k+1,j,up,true,by go_num,rfl,rfl,rfl,Yo,s,p,A,l_,c,B,k_,d,HLV.out.stay HS0.out (by rw [HCJ.p0,HCJ.q1,HSS.out,HO.out];simp [ho1,ho2]),HSB.out,H10.p0,H10.p1,H10.p2,H10.p3⟩,by simp [intOf];omega⟩
     have HSK:Hid (sgnQ (sLs l xs bs k)=0):=by rw [sLs,HCD.out,sL_out (by rw [HN.q1];exact hr)];rfl
     by_cases hn0:c1<0
     · skip
       clear hr
       go_wp2_with fail
       case roundEnd=>exact ⟨⟨k+1,j,up,fd,by go_num,rfl,rfl,rfl,Yo,s,p,A,l_,c,B,k_,d,H.p0.skip HSK.out,H.q1⟩,by simp [intOf];omega⟩
     have hn1:(m:Int)<=c1:=Yo
     clear hr
     go_wp2_with fail
     case roundEnd=>exact ⟨⟨k+1,j,up,fd,by go_num,rfl,rfl,rfl,Yo,s,p,A,l_,c,B,k_,d,H.p0.skip HSK.out,H.q1⟩,by simp [intOf];omega⟩
   obtain rfl:k=n:=by omega
   go_wp2_with fail
   go_ret3
   exact ⟨_,_,_,rfl,H.p2,fun _=>H.p0.fin HN.p0.symm⟩
end
end
end Go.Proofs.YtaajajngnmaggaaGreat
