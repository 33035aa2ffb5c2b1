import Derived.Test.YtaajajngnmaggaaGreatLNA18
set_option maxRecDepth 100000
set_option maxHeartbeats 8000000
set_option linter.unusedVariables false
set_option linter.unusedSimpArgs false
namespace Go.Proofs.YtaajajngnmaggaaGreat
section
section
open Go Go.RowKit Go.Proofs Pl
namespace I
theorem lack_d {w:World} {v u:Value} {l:LPx} {k:Nat} {f g:Fx} {bl bh:Bool} {x:Rat} (h:LPv w v l) (hbl:l.hasLo[k]?=some bl) (hbh:l.hasHi[k]?=some bh) (hf:l.lo[k]?=some f) (hg:l.hi[k]?=some g) (hx:Qv w 6 u x) (h6:f.xs.length<=6) (h7:f.ds.length<=6) (h8:g.xs.length<=6) (h9:g.ds.length<=6):
 Calls Tryz.prog 84 #[v,.int .i64 (k:Int),u] w fun e w'=>∃ r,e=.returned (.tuple #[r,.bool (lackQ bl bh f.q g.q x).2])/\Qe w' 61 r (lackQ bl bh f.q g.q x).1/\Yg w w':=by
 obtain ⟨aA,an,ac,bA,bn,bc,cA,cn,cc,dA,dn,dc,eA,en,ec,fA,fn,fc,rfl,hP,hla,hlb,hlc,hld,hle,hlf,hma,hmb,hmc,hmd,hme,hmf⟩:=h.open
 have HU:=Lib.hid hx
 obtain ⟨bx,Ax,lx,cx,Bx,kx,dx,rfl⟩:=hx.parts
 have HS:=Lib.hid hP
 clear hP hma hmb hmc hmd hme hmf
 obtain ⟨gb,ob,qb,e,hgb,zb0⟩:=HS.p1.at_ hbl
 rw [hlb] at e
 injection e with e1 e2 e3
 subst e1
 clear e2 e3 qb
 have kb:k<bn:=by rw [<- hlb];exact (List.getElem?_eq_some_iff.1 hbl).1
 have ixb:(k:Int)<(bn:Int):=Yo
 obtain ⟨gc,oc,qc,e,hgc,zc0⟩:=HS.p2.at_ hbh
 rw [hlc] at e
 injection e with e1 e2 e3
 subst e1
 clear e2 e3 qc
 have kc:k<cn:=by rw [<- hlc];exact (List.getElem?_eq_some_iff.1 hbh).1
 have ixc:(k:Int)<(cn:Int):=Yo
 obtain ⟨gd,od,qd,xd,e,hgd,hvd,zd0,zd1,zd2⟩:=HS.p3.at_ hf
 rw [hld] at e
 injection e with e1 e2 e3
 subst e1
 clear e2 e3 qd
 have kd:k<dn:=by rw [<- hld];exact (List.getElem?_eq_some_iff.1 hf).1
 have ixd:(k:Int)<(dn:Int):=Yo
 obtain ⟨ge,oe,qe,xe,e,hge,hve,ze0,ze1,ze2⟩:=HS.p4.at_ hg
 rw [hle] at e
 injection e with e1 e2 e3
 subst e1
 clear e2 e3 qe
 have ke:k<en:=by rw [<- hle];exact (List.getElem?_eq_some_iff.1 hg).1
 have ixe:(k:Int)<(en:Int):=Yo
 have HC:Hid (∀ W,Yg w W->W.cell? ⟨gb,ob+k,none⟩=some (.bool bl)/\W.cell? ⟨gc,oc+k,none⟩=some (.bool bh)/\W.cell? ⟨gd,od+k*3,none⟩=some (.bool xd.b)/\W.cell? ⟨gd,od+k*3+1,none⟩=some (.slice xd.A xd.l xd.k)/\W.cell? ⟨gd,od+k*3+2,none⟩=some (.slice xd.B xd.m xd.d)/\W.cell? ⟨ge,oe+k*3,none⟩=some (.bool xe.b)/\W.cell? ⟨ge,oe+k*3+1,none⟩=some (.slice xe.A xe.l xe.k)/\W.cell? ⟨ge,oe+k*3+2,none⟩=some (.slice xe.B xe.m xe.d)):=fun W b=>⟨(b.cell (p:=⟨gb,_,none⟩) hgb).trans zb0,(b.cell (p:=⟨gc,_,none⟩) hgc).trans zc0,(b.cell (p:=⟨gd,_,none⟩) hgd).trans zd0,(b.cell (p:=⟨gd,_,none⟩) hgd).trans zd1,(b.cell (p:=⟨gd,_,none⟩) hgd).trans zd2,(b.cell (p:=⟨ge,_,none⟩) hge).trans ze0,(b.cell (p:=⟨ge,_,none⟩) hge).trans ze1,(b.cell (p:=⟨ge,_,none⟩) hge).trans ze2⟩
 clear zb0 hgb
 clear zc0 hgc
 have HVd:=Lib.hid hvd
 clear zd0 zd1 zd2 hvd hgd
 have HVe:=Lib.hid hve
 clear ze0 ze1 ze2 hve hge
 have HV:=Yh2 (HVd.out.qv h6 h7) (HVe.out.qv h8 h9)
 clear HVd HVe hf hg hbl hbh hx h hla hlb hlc hld hle hlf h6 h7 h8 h9
 change Calls Tryz.prog 84 #[.agg #[.int .i64 l.n,.slice aA an ac,.slice (some ⟨gb,ob,none⟩) bn bc,.slice (some ⟨gc,oc,none⟩) cn cc,.slice (some ⟨gd,od,none⟩) dn dc,.slice (some ⟨ge,oe,none⟩) en ec,.slice fA fn fc],.int .i64 (k:Int),.agg #[.bool bx,.slice Ax lx cx,.slice Bx kx dx]] w _
 go_enter Tryz.func84,Tryz.ntmps84
 go_upto_region 1 with (fail)
 obtain ⟨hX,hY,hR,hB⟩:=box3 w 26 36 96 [.int .i64 l.n,.slice aA an ac,.slice (some ⟨gb,ob,none⟩) bn bc,.slice (some ⟨gc,oc,none⟩) cn cc,.slice (some ⟨gd,od,none⟩) dn dc,.slice (some ⟨ge,oe,none⟩) en ec,.slice fA fn fc] [.bool bx,.slice Ax lx cx,.slice Bx kx dx] [.bool false,.slice none 0 0,.slice none 0 0]
 have HX:=Yh4 hX hY hR hB
 clear hX hY hR hB
 generalize ((w.alloc _).alloc _).alloc _=W0 at HX ⊢
 have y0:=Bl.ld HX.p1 0 rfl
 have y1:=Bl.ld HX.p1 1 rfl
 have y2:=Bl.ld HX.p1 2 rfl
 go_wp2_with fail
 refine (of_e (HU.out.keep HX.q3) Yd Yd).mono ?_;rintro e w1 ⟨v8,rfl,h8,hb⟩
 obtain ⟨p8,A8,l8,c8,B8,k8,d8,rfl⟩:=h8.parts
 go_upto_region 2 with (fail)
 have hal:=Ya w1 (.cells #[.bool p8,.slice A8 l8 c8,.slice B8 k8 d8] 96)
 have hbb:=Yb hb hal
 have H1:=Yh5 (HX.p0.keep hbb) (HX.p2.keep hbb) (Yb HX.q3 hbb) (Bl.new w1 96 [.bool p8,.slice A8 l8 c8,.slice B8 k8 d8]) (h8.keep hal)
 have hlt8:=(HX.p2.keep hb).lt
 obtain ⟨g8,hg8⟩:∃ g,g=w1.heap.size:=⟨_,rfl⟩
 rw [<- hg8] at H1 hlt8 ⊢
 have HG8:=Lib.hid hlt8
 clear hal hbb hb h8 hg8 hlt8 HX HU y0 y1 y2
 generalize w1.alloc _=V0 at H1 ⊢
 have HCC:Hid (∀ W,Yg V0 W->W.cell? ⟨w.heap.size,4,none⟩=some (.slice (some ⟨gd,od,none⟩) dn dc)/\W.cell? ⟨w.heap.size,5,none⟩=some (.slice (some ⟨ge,oe,none⟩) en ec)/\W.cell? ⟨gd,od+k*3,none⟩=some (.bool xd.b)/\W.cell? ⟨gd,od+k*3+1,none⟩=some (.slice xd.A xd.l xd.k)/\W.cell? ⟨gd,od+k*3+2,none⟩=some (.slice xd.B xd.m xd.d)/\W.cell? ⟨ge,oe+k*3,none⟩=some (.bool xe.b)/\W.cell? ⟨ge,oe+k*3+1,none⟩=some (.slice xe.A xe.l xe.k)/\W.cell? ⟨ge,oe+k*3+2,none⟩=some (.slice xe.B xe.m xe.d)):=fun W b=>⟨Bl.ld (H1.p0.keep b) 4 rfl,Bl.ld (H1.p0.keep b) 5 rfl,(HC.out _ (Yb H1.p2 b)).2.2.1,(HC.out _ (Yb H1.p2 b)).2.2.2.1,(HC.out _ (Yb H1.p2 b)).2.2.2.2.1,(HC.out _ (Yb H1.p2 b)).2.2.2.2.2.1,(HC.out _ (Yb H1.p2 b)).2.2.2.2.2.2.1,(HC.out _ (Yb H1.p2 b)).2.2.2.2.2.2.2⟩
 have HV0:=Yh2 (HV.p0.keep H1.p2) (HV.q1.keep H1.p2)
 have HG9:Hid (g8<V0.heap.size/\w.heap.size<V0.heap.size/\w.heap.size+2<V0.heap.size):=⟨H1.p3.lt,H1.p0.lt,H1.p1.lt⟩
 refine wp_region_held_drew (S:=fun W=>W.cell? ⟨w.heap.size,4,none⟩=some (.slice (some ⟨gd,od,none⟩) dn dc)/\W.cell? ⟨w.heap.size,5,none⟩=some (.slice (some ⟨ge,oe,none⟩) en ec)/\W.cell? ⟨gd,od+k*3,none⟩=some (.bool xd.b)/\W.cell? ⟨gd,od+k*3+1,none⟩=some (.slice xd.A xd.l xd.k)/\W.cell? ⟨gd,od+k*3+2,none⟩=some (.slice xd.B xd.m xd.d)/\W.cell? ⟨ge,oe+k*3,none⟩=some (.bool xe.b)/\W.cell? ⟨ge,oe+k*3+1,none⟩=some (.slice xe.A xe.l xe.k)/\W.cell? ⟨ge,oe+k*3+2,none⟩=some (.slice xe.B xe.m xe.d)) (by kernel_rfl) (HCC.out _ (below_d _)) (fun Hh=>?_)
 refine rgRun 10 [0,1,2,3,4,6,7,8,9,10] Hh fun K hK=>?_
 repeat refine rgA ?_
 refine hK _ _ ?_;clear hK K
 have R0:=Yh5 (below_d V0) (H1.p0.keep (below_d V0)) (H1.p1.keep (below_d V0)) (H1.p3.keep (below_d V0)) (H1.q4.keep (below_d V0))
 generalize V0.drew=Wd at R0 Hh ⊢
 refine wpAnyH_ctx (fun F hF=>?_)
 have HF:=Lib.hid hF
 clear hF
 refine act_ctx (G:=fun a=>F _ _ a Wd) (fun a0 ha0=>?_)
 have HACT:=Lib.hid ha0
 clear ha0 Hh
 have st012345_:∀ (W:World) (p5:Bool) (A5:Option Addr) (l5:Nat) (c5:Nat) (B5:Option Addr) (k5:Nat) (d5:Nat) (p6:Bool) (A6:Option Addr) (l6:Nat) (c6:Nat) (B6:Option Addr) (k6:Nat) (d6:Nat) (g3:Nat) (g4:Nat),Hid (Yg V0 W/\Bl W 26 w.heap.size [.int .i64 l.n,.slice aA an ac,.slice (some ⟨gb,ob,none⟩) bn bc,.slice (some ⟨gc,oc,none⟩) cn cc,.slice (some ⟨gd,od,none⟩) dn dc,.slice (some ⟨ge,oe,none⟩) en ec,.slice fA fn fc]/\Bl W 96 (w.heap.size+2) [.bool false,.slice none 0 0,.slice none 0 0]/\Bl W 96 g8 [.bool p8,.slice A8 l8 c8,.slice B8 k8 d8]/\Qe W 30 (.agg #[.bool p8,.slice A8 l8 c8,.slice B8 k8 d8]) x/\Qe W 30 (.agg #[.bool p5,.slice A5 l5 c5,.slice B5 k5 d5]) f.q/\Qe W 30 (.agg #[.bool p6,.slice A6 l6 c6,.slice B6 k6 d6]) g.q/\Bl W 96 g3 [.bool p5,.slice A5 l5 c5,.slice B5 k5 d5]/\V0.heap.size<=g3/\Bl W 96 g4 [.bool p6,.slice A6 l6 c6,.slice B6 k6 d6]/\V0.heap.size<=g4/\g3≠g4)->F 0 (Yl 16 65535).toArray ((((a0.put (some 9) (.pointer (some ⟨g3,0,none⟩))).put (some 10) (.pointer (some ⟨g4,0,none⟩))).put (some 18) (.agg #[.bool p5,.slice A5 l5 c5,.slice B5 k5 d5])).put (some 24) (.agg #[.bool p6,.slice A6 l6 c6,.slice B6 k6 d6])) W:=by
  intro W p5 A5 l5 c5 B5 k5 d5 p6 A6 l6 c6 B6 k6 d6 g3 g4 R
  refine rgF HF ?_
  obtain ⟨rB,rXL,rXR,rX8,rQ8,rQ5,rQ6,rX3,rP3,rX4,rP4,rNE⟩:=R.out
  refine Yw ?_
  have H2:=Yh9 (Yb H1.p2 rB) rXL rXR rX8 rQ8 rX3 rQ5 rX4 rQ6
  have HN3:Hid (g3≠w.heap.size/\g4≠w.heap.size):=⟨by have:=HG9.out;omega,by have:=HG9.out;omega⟩
  clear rB rXL rXR rX8 rQ8 rX3 rQ5 rX4 rQ6 rP3 rP4 rNE HACT HF H1 HCC
  obtain ⟨b1,hb1⟩:∃ b,(bl && decide (cmpQ x f.q<0))=b:=⟨_,rfl⟩
  have HB1:=Lib.hid hb1
  clear hb1
  cases bl with
  | true=>
   obtain ⟨z0,z1,z2,z3,z4,z5,z6,z7⟩:=HC.out _ H2.p0
   have l2:=Bl.ld H2.p1 2 rfl
   have y0:=Bl.ld H2.p3 0 rfl
   have y1:=Bl.ld H2.p3 1 rfl
   have y2:=Bl.ld H2.p3 2 rfl
   have t0:=Bl.ld H2.p5 0 rfl
   have t1:=Bl.ld H2.p5 1 rfl
   have t2:=Bl.ld H2.p5 2 rfl
   go_wp2_with fail
   refine (cmp_e H2.p4 H2.p6 Yd Yd Yd Yd).mono ?_;rintro e w4 ⟨rfl,hb⟩
   have H3:=Yh9 (Yb H2.p0 hb) ((H2.p1).keep hb) ((H2.p2).keep hb) ((H2.p3).keep hb) ((H2.p4).keep hb) ((H2.p5).keep hb) ((H2.p6).keep hb) ((H2.p7).keep hb) ((H2.q8).keep hb)
   clear H2 hb
   have H2:=H3
   clear H3
   clear z0 z1 z2 z3 z4 z5 z6 z7 l2 y0 y1 y2 t0 t1 t2
   cases b1 with
   | true=>
    have dd:decide (cmpQ x f.q<0)=true:=by have:=HB1.out;simpa using this
    have dd2:cmpQ x f.q<0:=of_decide_eq_true dd
    go_upto_region 4 with (fail)
    have y0:=Bl.ld H2.p3 0 rfl
    have y1:=Bl.ld H2.p3 1 rfl
    have y2:=Bl.ld H2.p3 2 rfl
    have t0:=Bl.ld H2.p5 0 rfl
    have t1:=Bl.ld H2.p5 1 rfl
    have t2:=Bl.ld H2.p5 2 rfl
    go_wp2_with fail
    refine (sub_e H2.p6 H2.p4 Yd Yd Yd Yd).mono ?_;rintro e w5 ⟨v,rfl,h,hb⟩
    obtain ⟨pz,Az,lz,cz,Bz,kz,dz,rfl⟩:=h.parts
    have X:=(H2.p2).keep hb
    have f0:=Bl.fr X 0
    have f1:=Bl.fr X 1
    have f2:=Bl.fr X 2
    have r0:=Bl.ld X 0 rfl
    have r1:=Bl.ld X 1 rfl
    have r2:=Bl.ld X 2 rfl
    go_wp2_with fail
    refine ret_bl (X.set3 rfl (.bool pz) (.slice Az lz cz) (.slice Bz kz dz)) (fun W2 hW=>by have d0:=hW 0 _ rfl;have d1:=hW 1 _ rfl;have d2:=hW 2 _ rfl;simp [results,Tryz.results84,go_sem,d0,d1,d2];try rfl) rfl ?_
    rw [lackQ_lo HB1.out]
    exact ⟨_,rfl,Qd.put3 (h.mono Yd) X _ _ _,below3 (Yb H2.p0 hb) Yo (.bool pz) (.slice Az lz cz) (.slice Bz kz dz)⟩
   | false=>
    have dd2:¬cmpQ x f.q<0:=by have:=HB1.out;simpa using this
    go_upto_region 5 with (fail)
    obtain ⟨b2,hb2⟩:∃ b,(bh && decide (0<cmpQ x g.q))=b:=⟨_,rfl⟩
    have HB3:=Lib.hid hb2
    clear hb2
    cases bh with
    | true=>
     obtain ⟨z0,z1,z2,z3,z4,z5,z6,z7⟩:=HC.out _ H2.p0
     have l3:=Bl.ld H2.p1 3 rfl
     have y0:=Bl.ld H2.p3 0 rfl
     have y1:=Bl.ld H2.p3 1 rfl
     have y2:=Bl.ld H2.p3 2 rfl
     have t0:=Bl.ld H2.p7 0 rfl
     have t1:=Bl.ld H2.p7 1 rfl
     have t2:=Bl.ld H2.p7 2 rfl
     go_wp2_with fail
     refine (cmp_e H2.p4 H2.q8 Yd Yd Yd Yd).mono ?_;rintro e w4b ⟨rfl,hb⟩
     have H3:=Yh9 (Yb H2.p0 hb) ((H2.p1).keep hb) ((H2.p2).keep hb) ((H2.p3).keep hb) ((H2.p4).keep hb) ((H2.p5).keep hb) ((H2.p6).keep hb) ((H2.p7).keep hb) ((H2.q8).keep hb)
     clear H2 hb
     have H2:=H3
     clear H3
     clear z0 z1 z2 z3 z4 z5 z6 z7 l3 y0 y1 y2 t0 t1 t2
     cases b2 with
     | true=>
      have dd2:0<cmpQ x g.q:=of_decide_eq_true (by have:=HB3.out;simpa using this)
      go_upto_region 6 with (fail)
      have y0:=Bl.ld H2.p3 0 rfl
      have y1:=Bl.ld H2.p3 1 rfl
      have y2:=Bl.ld H2.p3 2 rfl
      have t0:=Bl.ld H2.p7 0 rfl
      have t1:=Bl.ld H2.p7 1 rfl
      have t2:=Bl.ld H2.p7 2 rfl
      go_wp2_with fail
      refine (sub_e H2.p4 H2.q8 Yd Yd Yd Yd).mono ?_;rintro e w5 ⟨v,rfl,h,hb⟩
      obtain ⟨pz,Az,lz,cz,Bz,kz,dz,rfl⟩:=h.parts
      have X:=(H2.p2).keep hb
      have f0:=Bl.fr X 0
      have f1:=Bl.fr X 1
      have f2:=Bl.fr X 2
      have r0:=Bl.ld X 0 rfl
      have r1:=Bl.ld X 1 rfl
      have r2:=Bl.ld X 2 rfl
      go_wp2_with fail
      refine ret_bl (X.set3 rfl (.bool pz) (.slice Az lz cz) (.slice Bz kz dz)) (fun W2 hW=>by have d0:=hW 0 _ rfl;have d1:=hW 1 _ rfl;have d2:=hW 2 _ rfl;simp [results,Tryz.results84,go_sem,d0,d1,d2];try rfl) rfl ?_
      rw [lackQ_hi HB1.out HB3.out]
      exact ⟨_,rfl,Qd.put3 (h.mono Yd) X _ _ _,below3 (Yb H2.p0 hb) Yo (.bool pz) (.slice Az lz cz) (.slice Bz kz dz)⟩
     | false=>
      have dd2:¬0<cmpQ x g.q:=by have:=HB3.out;simpa using this
      go_wp2_with fail
      refine (small_e (z:=0) (sm64 Yd)).mono ?_;rintro e w5 ⟨v,rfl,h,hb⟩
      obtain ⟨pz,Az,lz,cz,Bz,kz,dz,rfl⟩:=h.parts
      have X:=(H2.p2).keep hb
      have f0:=Bl.fr X 0
      have f1:=Bl.fr X 1
      have f2:=Bl.fr X 2
      have r0:=Bl.ld X 0 rfl
      have r1:=Bl.ld X 1 rfl
      have r2:=Bl.ld X 2 rfl
      go_wp2_with fail
      refine ret_bl (X.set3 rfl (.bool pz) (.slice Az lz cz) (.slice Bz kz dz)) (fun W2 hW=>by have d0:=hW 0 _ rfl;have d1:=hW 1 _ rfl;have d2:=hW 2 _ rfl;simp [results,Tryz.results84,go_sem,d0,d1,d2];try rfl) rfl ?_
      rw [lackQ_no HB1.out HB3.out]
      exact ⟨_,rfl,Qd.put3 (h.mono Yd) X _ _ _,below3 (Yb H2.p0 hb) Yo (.bool pz) (.slice Az lz cz) (.slice Bz kz dz)⟩
    | false=>
     obtain rfl:b2=false:=HB3.out.symm
     obtain ⟨z0,z1,z2,z3,z4,z5,z6,z7⟩:=HC.out _ H2.p0
     have l3:=Bl.ld H2.p1 3 rfl
     go_wp2_with fail
     refine (small_e (z:=0) (sm64 Yd)).mono ?_;rintro e w5 ⟨v,rfl,h,hb⟩
     obtain ⟨pz,Az,lz,cz,Bz,kz,dz,rfl⟩:=h.parts
     have X:=(H2.p2).keep hb
     have f0:=Bl.fr X 0
     have f1:=Bl.fr X 1
     have f2:=Bl.fr X 2
     have r0:=Bl.ld X 0 rfl
     have r1:=Bl.ld X 1 rfl
     have r2:=Bl.ld X 2 rfl
     go_wp2_with fail
     refine ret_bl (X.set3 rfl (.bool pz) (.slice Az lz cz) (.slice Bz kz dz)) (fun W2 hW=>by have d0:=hW 0 _ rfl;have d1:=hW 1 _ rfl;have d2:=hW 2 _ rfl;simp [results,Tryz.results84,go_sem,d0,d1,d2];try rfl) rfl ?_
     rw [lackQ_no HB1.out HB3.out]
     exact ⟨_,rfl,Qd.put3 (h.mono Yd) X _ _ _,below3 (Yb H2.p0 hb) Yo (.bool pz) (.slice Az lz cz) (.slice Bz kz dz)⟩
  | false=>
   obtain rfl:b1=false:=HB1.out.symm
   obtain ⟨z0,z1,z2,z3,z4,z5,z6,z7⟩:=HC.out _ H2.p0
   have l2:=Bl.ld H2.p1 2 rfl
   go_upto_region 5 with (fail)
   obtain ⟨b2,hb2⟩:∃ b,(bh && decide (0<cmpQ x g.q))=b:=⟨_,rfl⟩
   have HB3:=Lib.hid hb2
   clear hb2
   cases bh with
   | true=>
    obtain ⟨z0,z1,z2,z3,z4,z5,z6,z7⟩:=HC.out _ H2.p0
    have l3:=Bl.ld H2.p1 3 rfl
    have y0:=Bl.ld H2.p3 0 rfl
    have y1:=Bl.ld H2.p3 1 rfl
    have y2:=Bl.ld H2.p3 2 rfl
    have t0:=Bl.ld H2.p7 0 rfl
    have t1:=Bl.ld H2.p7 1 rfl
    have t2:=Bl.ld H2.p7 2 rfl
    go_wp2_with fail
    refine (cmp_e H2.p4 H2.q8 Yd Yd Yd Yd).mono ?_;rintro e w4b ⟨rfl,hb⟩
    have H3:=Yh9 (Yb H2.p0 hb) ((H2.p1).keep hb) ((H2.p2).keep hb) ((H2.p3).keep hb) ((H2.p4).keep hb) ((H2.p5).keep hb) ((H2.p6).keep hb) ((H2.p7).keep hb) ((H2.q8).keep hb)
    clear H2 hb
    have H2:=H3
    clear H3
    clear z0 z1 z2 z3 z4 z5 z6 z7 l3 y0 y1 y2 t0 t1 t2
    cases b2 with
    | true=>
     have dd2:0<cmpQ x g.q:=of_decide_eq_true (by have:=HB3.out;simpa using this)
     go_upto_region 6 with (fail)
     have y0:=Bl.ld H2.p3 0 rfl
     have y1:=Bl.ld H2.p3 1 rfl
     have y2:=Bl.ld H2.p3 2 rfl
     have t0:=Bl.ld H2.p7 0 rfl
     have t1:=Bl.ld H2.p7 1 rfl
     have t2:=Bl.ld H2.p7 2 rfl
     go_wp2_with fail
     refine (sub_e H2.p4 H2.q8 Yd Yd Yd Yd).mono ?_;rintro e w5 ⟨v,rfl,h,hb⟩
     obtain ⟨pz,Az,lz,cz,Bz,kz,dz,rfl⟩:=h.parts
     have X:=(H2.p2).keep hb
     have f0:=Bl.fr X 0
     have f1:=Bl.fr X 1
     have f2:=Bl.fr X 2
     have r0:=Bl.ld X 0 rfl
     have r1:=Bl.ld X 1 rfl
     have r2:=Bl.ld X 2 rfl
     go_wp2_with fail
     refine ret_bl (X.set3 rfl (.bool pz) (.slice Az lz cz) (.slice Bz kz dz)) (fun W2 hW=>by have d0:=hW 0 _ rfl;have d1:=hW 1 _ rfl;have d2:=hW 2 _ rfl;simp [results,Tryz.results84,go_sem,d0,d1,d2];try rfl) rfl ?_
     rw [lackQ_hi HB1.out HB3.out]
     exact ⟨_,rfl,Qd.put3 (h.mono Yd) X _ _ _,below3 (Yb H2.p0 hb) Yo (.bool pz) (.slice Az lz cz) (.slice Bz kz dz)⟩
    | false=>
     have dd2:¬0<cmpQ x g.q:=by have:=HB3.out;simpa using this
     go_wp2_with fail
     refine (small_e (z:=0) (sm64 Yd)).mono ?_;rintro e w5 ⟨v,rfl,h,hb⟩
     obtain ⟨pz,Az,lz,cz,Bz,kz,dz,rfl⟩:=h.parts
     have X:=(H2.p2).keep hb
     have f0:=Bl.fr X 0
     have f1:=Bl.fr X 1
     have f2:=Bl.fr X 2
     have r0:=Bl.ld X 0 rfl
     have r1:=Bl.ld X 1 rfl
     have r2:=Bl.ld X 2 rfl
     go_wp2_with fail
     refine ret_bl (X.set3 rfl (.bool pz) (.slice Az lz cz) (.slice Bz kz dz)) (fun W2 hW=>by have d0:=hW 0 _ rfl;have d1:=hW 1 _ rfl;have d2:=hW 2 _ rfl;simp [results,Tryz.results84,go_sem,d0,d1,d2];try rfl) rfl ?_
     rw [lackQ_no HB1.out HB3.out]
     exact ⟨_,rfl,Qd.put3 (h.mono Yd) X _ _ _,below3 (Yb H2.p0 hb) Yo (.bool pz) (.slice Az lz cz) (.slice Bz kz dz)⟩
   | false=>
    obtain rfl:b2=false:=HB3.out.symm
    obtain ⟨z0,z1,z2,z3,z4,z5,z6,z7⟩:=HC.out _ H2.p0
    have l3:=Bl.ld H2.p1 3 rfl
    go_wp2_with fail
    refine (small_e (z:=0) (sm64 Yd)).mono ?_;rintro e w5 ⟨v,rfl,h,hb⟩
    obtain ⟨pz,Az,lz,cz,Bz,kz,dz,rfl⟩:=h.parts
    have X:=(H2.p2).keep hb
    have f0:=Bl.fr X 0
    have f1:=Bl.fr X 1
    have f2:=Bl.fr X 2
    have r0:=Bl.ld X 0 rfl
    have r1:=Bl.ld X 1 rfl
    have r2:=Bl.ld X 2 rfl
    go_wp2_with fail
    refine ret_bl (X.set3 rfl (.bool pz) (.slice Az lz cz) (.slice Bz kz dz)) (fun W2 hW=>by have d0:=hW 0 _ rfl;have d1:=hW 1 _ rfl;have d2:=hW 2 _ rfl;simp [results,Tryz.results84,go_sem,d0,d1,d2];try rfl) rfl ?_
    rw [lackQ_no HB1.out HB3.out]
    exact ⟨_,rfl,Qd.put3 (h.mono Yd) X _ _ _,below3 (Yb H2.p0 hb) Yo (.bool pz) (.slice Az lz cz) (.slice Bz kz dz)⟩
 have st01234_:∀ (W:World) (p5:Bool) (A5:Option Addr) (l5:Nat) (c5:Nat) (B5:Option Addr) (k5:Nat) (d5:Nat) (p6:Bool) (A6:Option Addr) (l6:Nat) (c6:Nat) (B6:Option Addr) (k6:Nat) (d6:Nat) (g3:Nat) (g4:Nat),Hid (Yg V0 W/\Bl W 26 w.heap.size [.int .i64 l.n,.slice aA an ac,.slice (some ⟨gb,ob,none⟩) bn bc,.slice (some ⟨gc,oc,none⟩) cn cc,.slice (some ⟨gd,od,none⟩) dn dc,.slice (some ⟨ge,oe,none⟩) en ec,.slice fA fn fc]/\Bl W 96 (w.heap.size+2) [.bool false,.slice none 0 0,.slice none 0 0]/\Bl W 96 g8 [.bool p8,.slice A8 l8 c8,.slice B8 k8 d8]/\Qe W 30 (.agg #[.bool p8,.slice A8 l8 c8,.slice B8 k8 d8]) x/\Qe W 30 (.agg #[.bool p5,.slice A5 l5 c5,.slice B5 k5 d5]) f.q/\Qe W 30 (.agg #[.bool p6,.slice A6 l6 c6,.slice B6 k6 d6]) g.q/\Bl W 96 g3 [.bool p5,.slice A5 l5 c5,.slice B5 k5 d5]/\V0.heap.size<=g3/\Bl W 96 g4 [.bool false,.slice none 0 0,.slice none 0 0]/\V0.heap.size<=g4/\g3≠g4)->F 1 (Yl 16 32767).toArray ((((a0.put (some 9) (.pointer (some ⟨g3,0,none⟩))).put (some 10) (.pointer (some ⟨g4,0,none⟩))).put (some 18) (.agg #[.bool p5,.slice A5 l5 c5,.slice B5 k5 d5])).put (some 24) (.agg #[.bool p6,.slice A6 l6 c6,.slice B6 k6 d6])) W:=by
  intro W p5 A5 l5 c5 B5 k5 d5 p6 A6 l6 c6 B6 k6 d6 g3 g4 R
  refine rgF HF ?_
  obtain ⟨rB,rXL,rXR,rX8,rQ8,rQ5,rQ6,rX3,rP3,rX4,rP4,rNE⟩:=R.out
  refine rgO 15 fun K hK=>?_
  have f0:=Bl.fr rX4 0
  have f1:=Bl.fr rX4 1
  have f2:=Bl.fr rX4 2
  have r0:=Bl.ld rX4 0 rfl
  have r1:=Bl.ld rX4 1 rfl
  have r2:=Bl.ld rX4 2 rfl
  go_simp
  clear f0 f1 f2 r0 r1 r2
  change K _ (cells3 W g4 (.bool p6) (.slice A6 l6 c6) (.slice B6 k6 d6))
  have hbn:=below3 rB rP4 (.bool p6) (.slice A6 l6 c6) (.slice B6 k6 d6)
  refine hK.out _ _ (HCC.out _ hbn) (fun _=>?_);clear hK K
  exact rgG HF (st012345_ _ p5 A5 l5 c5 B5 k5 d5 p6 A6 l6 c6 B6 k6 d6 g3 g4 (Lib.hid ⟨hbn,rXL.other3 (by have:=HG9.out;omega) (.bool p6) (.slice A6 l6 c6) (.slice B6 k6 d6),rXR.other3 (by have:=HG9.out;omega) (.bool p6) (.slice A6 l6 c6) (.slice B6 k6 d6),rX8.other3 (by have:=HG9.out;omega) (.bool p6) (.slice A6 l6 c6) (.slice B6 k6 d6),Qd.put3 rQ8 rX4 _ _ _,Qd.put3 rQ5 rX4 _ _ _,Qd.put3 rQ6 rX4 _ _ _,rX3.other3 rNE.symm (.bool p6) (.slice A6 l6 c6) (.slice B6 k6 d6),rP3,rX4.set3 rfl (.bool p6) (.slice A6 l6 c6) (.slice B6 k6 d6),rP4,rNE⟩))
 have st0123_:∀ (W:World) (p5:Bool) (A5:Option Addr) (l5:Nat) (c5:Nat) (B5:Option Addr) (k5:Nat) (d5:Nat) (p6:Bool) (A6:Option Addr) (l6:Nat) (c6:Nat) (B6:Option Addr) (k6:Nat) (d6:Nat) (g3:Nat) (g4:Nat),Hid (Yg V0 W/\Bl W 26 w.heap.size [.int .i64 l.n,.slice aA an ac,.slice (some ⟨gb,ob,none⟩) bn bc,.slice (some ⟨gc,oc,none⟩) cn cc,.slice (some ⟨gd,od,none⟩) dn dc,.slice (some ⟨ge,oe,none⟩) en ec,.slice fA fn fc]/\Bl W 96 (w.heap.size+2) [.bool false,.slice none 0 0,.slice none 0 0]/\Bl W 96 g8 [.bool p8,.slice A8 l8 c8,.slice B8 k8 d8]/\Qe W 30 (.agg #[.bool p8,.slice A8 l8 c8,.slice B8 k8 d8]) x/\Qe W 30 (.agg #[.bool p5,.slice A5 l5 c5,.slice B5 k5 d5]) f.q/\Qe W 30 (.agg #[.bool p6,.slice A6 l6 c6,.slice B6 k6 d6]) g.q/\Bl W 96 g3 [.bool false,.slice none 0 0,.slice none 0 0]/\V0.heap.size<=g3/\Bl W 96 g4 [.bool false,.slice none 0 0,.slice none 0 0]/\V0.heap.size<=g4/\g3≠g4)->F 2 (Yl 16 16383).toArray ((((a0.put (some 9) (.pointer (some ⟨g3,0,none⟩))).put (some 10) (.pointer (some ⟨g4,0,none⟩))).put (some 18) (.agg #[.bool p5,.slice A5 l5 c5,.slice B5 k5 d5])).put (some 24) (.agg #[.bool p6,.slice A6 l6 c6,.slice B6 k6 d6])) W:=by
  intro W p5 A5 l5 c5 B5 k5 d5 p6 A6 l6 c6 B6 k6 d6 g3 g4 R
  refine rgF HF ?_
  obtain ⟨rB,rXL,rXR,rX8,rQ8,rQ5,rQ6,rX3,rP3,rX4,rP4,rNE⟩:=R.out
  refine rgO 14 fun K hK=>?_
  have f0:=Bl.fr rX3 0
  have f1:=Bl.fr rX3 1
  have f2:=Bl.fr rX3 2
  have r0:=Bl.ld rX3 0 rfl
  have r1:=Bl.ld rX3 1 rfl
  have r2:=Bl.ld rX3 2 rfl
  go_simp
  clear f0 f1 f2 r0 r1 r2
  change K _ (cells3 W g3 (.bool p5) (.slice A5 l5 c5) (.slice B5 k5 d5))
  have hbn:=below3 rB rP3 (.bool p5) (.slice A5 l5 c5) (.slice B5 k5 d5)
  refine hK.out _ _ (HCC.out _ hbn) (fun _=>?_);clear hK K
  exact rgG HF (st01234_ _ p5 A5 l5 c5 B5 k5 d5 p6 A6 l6 c6 B6 k6 d6 g3 g4 (Lib.hid ⟨hbn,rXL.other3 (by have:=HG9.out;omega) (.bool p5) (.slice A5 l5 c5) (.slice B5 k5 d5),rXR.other3 (by have:=HG9.out;omega) (.bool p5) (.slice A5 l5 c5) (.slice B5 k5 d5),rX8.other3 (by have:=HG9.out;omega) (.bool p5) (.slice A5 l5 c5) (.slice B5 k5 d5),Qd.put3 rQ8 rX3 _ _ _,Qd.put3 rQ5 rX3 _ _ _,Qd.put3 rQ6 rX3 _ _ _,rX3.set3 rfl (.bool p5) (.slice A5 l5 c5) (.slice B5 k5 d5),rP3,rX4.other3 rNE (.bool p5) (.slice A5 l5 c5) (.slice B5 k5 d5),rP4,rNE⟩))
 have st012_:∀ (W:World) (p5:Bool) (A5:Option Addr) (l5:Nat) (c5:Nat) (B5:Option Addr) (k5:Nat) (d5:Nat) (p6:Bool) (A6:Option Addr) (l6:Nat) (c6:Nat) (B6:Option Addr) (k6:Nat) (d6:Nat) (g3:Nat),Hid (Yg V0 W/\Bl W 26 w.heap.size [.int .i64 l.n,.slice aA an ac,.slice (some ⟨gb,ob,none⟩) bn bc,.slice (some ⟨gc,oc,none⟩) cn cc,.slice (some ⟨gd,od,none⟩) dn dc,.slice (some ⟨ge,oe,none⟩) en ec,.slice fA fn fc]/\Bl W 96 (w.heap.size+2) [.bool false,.slice none 0 0,.slice none 0 0]/\Bl W 96 g8 [.bool p8,.slice A8 l8 c8,.slice B8 k8 d8]/\Qe W 30 (.agg #[.bool p8,.slice A8 l8 c8,.slice B8 k8 d8]) x/\Qe W 30 (.agg #[.bool p5,.slice A5 l5 c5,.slice B5 k5 d5]) f.q/\Qe W 30 (.agg #[.bool p6,.slice A6 l6 c6,.slice B6 k6 d6]) g.q/\Bl W 96 g3 [.bool false,.slice none 0 0,.slice none 0 0]/\V0.heap.size<=g3)->F 3 (Yl 16 8191).toArray (((a0.put (some 9) (.pointer (some ⟨g3,0,none⟩))).put (some 18) (.agg #[.bool p5,.slice A5 l5 c5,.slice B5 k5 d5])).put (some 24) (.agg #[.bool p6,.slice A6 l6 c6,.slice B6 k6 d6])) W:=by
  intro W p5 A5 l5 c5 B5 k5 d5 p6 A6 l6 c6 B6 k6 d6 g3 R
  refine rgF HF ?_
  obtain ⟨rB,rXL,rXR,rX8,rQ8,rQ5,rQ6,rX3,rP3⟩:=R.out
  refine rgO 13 fun K hK=>?_
  have hal:=Ya W (.cells #[.bool false,.slice none 0 0,.slice none 0 0] 96)
  go_simp
  refine hK.out _ _ (HCC.out _ (Yb rB hal)) (fun _=>?_);clear hK K
  obtain ⟨g4,hg⟩:∃ g,g=W.heap.size:=⟨_,rfl⟩
  rw [<- hg]
  exact rgG HF (st0123_ _ p5 A5 l5 c5 B5 k5 d5 p6 A6 l6 c6 B6 k6 d6 g3 g4 (Lib.hid ⟨Yb rB hal,rXL.keep hal,rXR.keep hal,rX8.keep hal,rQ8.keep hal,rQ5.keep hal,rQ6.keep hal,rX3.keep hal,rP3,by rw [hg];exact Bl.new W 96 [.bool false,.slice none 0 0,.slice none 0 0],by rw [hg];exact rB.size,by have h:=rX3.lt;omega⟩))
 have st013_:∀ (W:World) (p5:Bool) (A5:Option Addr) (l5:Nat) (c5:Nat) (B5:Option Addr) (k5:Nat) (d5:Nat) (p6:Bool) (A6:Option Addr) (l6:Nat) (c6:Nat) (B6:Option Addr) (k6:Nat) (d6:Nat) (g4:Nat),Hid (Yg V0 W/\Bl W 26 w.heap.size [.int .i64 l.n,.slice aA an ac,.slice (some ⟨gb,ob,none⟩) bn bc,.slice (some ⟨gc,oc,none⟩) cn cc,.slice (some ⟨gd,od,none⟩) dn dc,.slice (some ⟨ge,oe,none⟩) en ec,.slice fA fn fc]/\Bl W 96 (w.heap.size+2) [.bool false,.slice none 0 0,.slice none 0 0]/\Bl W 96 g8 [.bool p8,.slice A8 l8 c8,.slice B8 k8 d8]/\Qe W 30 (.agg #[.bool p8,.slice A8 l8 c8,.slice B8 k8 d8]) x/\Qe W 30 (.agg #[.bool p5,.slice A5 l5 c5,.slice B5 k5 d5]) f.q/\Qe W 30 (.agg #[.bool p6,.slice A6 l6 c6,.slice B6 k6 d6]) g.q/\Bl W 96 g4 [.bool false,.slice none 0 0,.slice none 0 0]/\V0.heap.size<=g4)->F 3 (Yl 16 12287).toArray (((a0.put (some 10) (.pointer (some ⟨g4,0,none⟩))).put (some 18) (.agg #[.bool p5,.slice A5 l5 c5,.slice B5 k5 d5])).put (some 24) (.agg #[.bool p6,.slice A6 l6 c6,.slice B6 k6 d6])) W:=by
  intro W p5 A5 l5 c5 B5 k5 d5 p6 A6 l6 c6 B6 k6 d6 g4 R
  refine rgF HF ?_
  obtain ⟨rB,rXL,rXR,rX8,rQ8,rQ5,rQ6,rX4,rP4⟩:=R.out
  refine rgO 12 fun K hK=>?_
  have hal:=Ya W (.cells #[.bool false,.slice none 0 0,.slice none 0 0] 96)
  go_simp
  refine hK.out _ _ (HCC.out _ (Yb rB hal)) (fun _=>?_);clear hK K
  obtain ⟨g3,hg⟩:∃ g,g=W.heap.size:=⟨_,rfl⟩
  rw [<- hg]
  exact rgG HF (st0123_ _ p5 A5 l5 c5 B5 k5 d5 p6 A6 l6 c6 B6 k6 d6 g3 g4 (Lib.hid ⟨Yb rB hal,rXL.keep hal,rXR.keep hal,rX8.keep hal,rQ8.keep hal,rQ5.keep hal,rQ6.keep hal,by rw [hg];exact Bl.new W 96 [.bool false,.slice none 0 0,.slice none 0 0],by rw [hg];exact rB.size,rX4.keep hal,rP4,by have h:=rX4.lt;omega⟩))
 have st023_:∀ (W:World) (p5:Bool) (A5:Option Addr) (l5:Nat) (c5:Nat) (B5:Option Addr) (k5:Nat) (d5:Nat) (g3:Nat) (g4:Nat),Hid (Yg V0 W/\Bl W 26 w.heap.size [.int .i64 l.n,.slice aA an ac,.slice (some ⟨gb,ob,none⟩) bn bc,.slice (some ⟨gc,oc,none⟩) cn cc,.slice (some ⟨gd,od,none⟩) dn dc,.slice (some ⟨ge,oe,none⟩) en ec,.slice fA fn fc]/\Bl W 96 (w.heap.size+2) [.bool false,.slice none 0 0,.slice none 0 0]/\Bl W 96 g8 [.bool p8,.slice A8 l8 c8,.slice B8 k8 d8]/\Qe W 30 (.agg #[.bool p8,.slice A8 l8 c8,.slice B8 k8 d8]) x/\Qe W 30 (.agg #[.bool p5,.slice A5 l5 c5,.slice B5 k5 d5]) f.q/\Bl W 96 g3 [.bool false,.slice none 0 0,.slice none 0 0]/\V0.heap.size<=g3/\Bl W 96 g4 [.bool false,.slice none 0 0,.slice none 0 0]/\V0.heap.size<=g4/\g3≠g4)->F 3 (Yl 16 14335).toArray (((a0.put (some 9) (.pointer (some ⟨g3,0,none⟩))).put (some 10) (.pointer (some ⟨g4,0,none⟩))).put (some 18) (.agg #[.bool p5,.slice A5 l5 c5,.slice B5 k5 d5])) W:=by
  intro W p5 A5 l5 c5 B5 k5 d5 g3 g4 R
  refine rgF HF ?_
  obtain ⟨rB,rXL,rXR,rX8,rQ8,rQ5,rX3,rP3,rX4,rP4,rNE⟩:=R.out
  refine rgO 11 fun K hK=>?_
  go_simp
  go_at_call 41;refine (of_e (HV0.q1.keep rB) Yd Yd).mono ?_;rintro e W2 ⟨v,rfl,h,hb⟩
  obtain ⟨p6,A6,l6,c6,B6,k6,d6,rfl⟩:=h.parts
  go_wp2_with fail
  refine hK.out _ _ (HCC.out _ (Yb rB hb)) (fun _=>?_);clear hK K
  exact rgG HF (st0123_ _ p5 A5 l5 c5 B5 k5 d5 p6 A6 l6 c6 B6 k6 d6 g3 g4 (Lib.hid ⟨Yb rB hb,rXL.keep hb,rXR.keep hb,rX8.keep hb,rQ8.keep hb,rQ5.keep hb,h,rX3.keep hb,rP3,rX4.keep hb,rP4,rNE⟩))
 have st01_:∀ (W:World) (p5:Bool) (A5:Option Addr) (l5:Nat) (c5:Nat) (B5:Option Addr) (k5:Nat) (d5:Nat) (p6:Bool) (A6:Option Addr) (l6:Nat) (c6:Nat) (B6:Option Addr) (k6:Nat) (d6:Nat),Hid (Yg V0 W/\Bl W 26 w.heap.size [.int .i64 l.n,.slice aA an ac,.slice (some ⟨gb,ob,none⟩) bn bc,.slice (some ⟨gc,oc,none⟩) cn cc,.slice (some ⟨gd,od,none⟩) dn dc,.slice (some ⟨ge,oe,none⟩) en ec,.slice fA fn fc]/\Bl W 96 (w.heap.size+2) [.bool false,.slice none 0 0,.slice none 0 0]/\Bl W 96 g8 [.bool p8,.slice A8 l8 c8,.slice B8 k8 d8]/\Qe W 30 (.agg #[.bool p8,.slice A8 l8 c8,.slice B8 k8 d8]) x/\Qe W 30 (.agg #[.bool p5,.slice A5 l5 c5,.slice B5 k5 d5]) f.q/\Qe W 30 (.agg #[.bool p6,.slice A6 l6 c6,.slice B6 k6 d6]) g.q)->F 4 (Yl 16 4095).toArray ((a0.put (some 18) (.agg #[.bool p5,.slice A5 l5 c5,.slice B5 k5 d5])).put (some 24) (.agg #[.bool p6,.slice A6 l6 c6,.slice B6 k6 d6])) W:=by
  intro W p5 A5 l5 c5 B5 k5 d5 p6 A6 l6 c6 B6 k6 d6 R
  refine rgF HF ?_
  obtain ⟨rB,rXL,rXR,rX8,rQ8,rQ5,rQ6⟩:=R.out
  refine rgReady [12,13] (rgOne (fun K hK=>?_) (rgOne (fun K hK=>?_) rgNil))
  · skip
    have hal:=Ya W (.cells #[.bool false,.slice none 0 0,.slice none 0 0] 96)
    go_simp
    refine hK.out _ _ (HCC.out _ (Yb rB hal)) (fun _=>?_);clear hK K
    obtain ⟨g3,hg⟩:∃ g,g=W.heap.size:=⟨_,rfl⟩
    rw [<- hg]
    exact rgG HF (st012_ _ p5 A5 l5 c5 B5 k5 d5 p6 A6 l6 c6 B6 k6 d6 g3 (Lib.hid ⟨Yb rB hal,rXL.keep hal,rXR.keep hal,rX8.keep hal,rQ8.keep hal,rQ5.keep hal,rQ6.keep hal,by rw [hg];exact Bl.new W 96 [.bool false,.slice none 0 0,.slice none 0 0],by rw [hg];exact rB.size⟩))
  have hal:=Ya W (.cells #[.bool false,.slice none 0 0,.slice none 0 0] 96)
  go_simp
  refine hK.out _ _ (HCC.out _ (Yb rB hal)) (fun _=>?_);clear hK K
  obtain ⟨g4,hg⟩:∃ g,g=W.heap.size:=⟨_,rfl⟩
  rw [<- hg]
  exact rgG HF (st013_ _ p5 A5 l5 c5 B5 k5 d5 p6 A6 l6 c6 B6 k6 d6 g4 (Lib.hid ⟨Yb rB hal,rXL.keep hal,rXR.keep hal,rX8.keep hal,rQ8.keep hal,rQ5.keep hal,rQ6.keep hal,by rw [hg];exact Bl.new W 96 [.bool false,.slice none 0 0,.slice none 0 0],by rw [hg];exact rB.size⟩))
 have st02_:∀ (W:World) (p5:Bool) (A5:Option Addr) (l5:Nat) (c5:Nat) (B5:Option Addr) (k5:Nat) (d5:Nat) (g3:Nat),Hid (Yg V0 W/\Bl W 26 w.heap.size [.int .i64 l.n,.slice aA an ac,.slice (some ⟨gb,ob,none⟩) bn bc,.slice (some ⟨gc,oc,none⟩) cn cc,.slice (some ⟨gd,od,none⟩) dn dc,.slice (some ⟨ge,oe,none⟩) en ec,.slice fA fn fc]/\Bl W 96 (w.heap.size+2) [.bool false,.slice none 0 0,.slice none 0 0]/\Bl W 96 g8 [.bool p8,.slice A8 l8 c8,.slice B8 k8 d8]/\Qe W 30 (.agg #[.bool p8,.slice A8 l8 c8,.slice B8 k8 d8]) x/\Qe W 30 (.agg #[.bool p5,.slice A5 l5 c5,.slice B5 k5 d5]) f.q/\Bl W 96 g3 [.bool false,.slice none 0 0,.slice none 0 0]/\V0.heap.size<=g3)->F 4 (Yl 16 6143).toArray ((a0.put (some 9) (.pointer (some ⟨g3,0,none⟩))).put (some 18) (.agg #[.bool p5,.slice A5 l5 c5,.slice B5 k5 d5])) W:=by
  intro W p5 A5 l5 c5 B5 k5 d5 g3 R
  refine rgF HF ?_
  obtain ⟨rB,rXL,rXR,rX8,rQ8,rQ5,rX3,rP3⟩:=R.out
  refine rgReady [11,13] (rgOne (fun K hK=>?_) (rgOne (fun K hK=>?_) rgNil))
  · skip
    go_simp
    go_at_call 41;refine (of_e (HV0.q1.keep rB) Yd Yd).mono ?_;rintro e W2 ⟨v,rfl,h,hb⟩
    obtain ⟨p6,A6,l6,c6,B6,k6,d6,rfl⟩:=h.parts
    go_wp2_with fail
    refine hK.out _ _ (HCC.out _ (Yb rB hb)) (fun _=>?_);clear hK K
    exact rgG HF (st012_ _ p5 A5 l5 c5 B5 k5 d5 p6 A6 l6 c6 B6 k6 d6 g3 (Lib.hid ⟨Yb rB hb,rXL.keep hb,rXR.keep hb,rX8.keep hb,rQ8.keep hb,rQ5.keep hb,h,rX3.keep hb,rP3⟩))
  have hal:=Ya W (.cells #[.bool false,.slice none 0 0,.slice none 0 0] 96)
  go_simp
  refine hK.out _ _ (HCC.out _ (Yb rB hal)) (fun _=>?_);clear hK K
  obtain ⟨g4,hg⟩:∃ g,g=W.heap.size:=⟨_,rfl⟩
  rw [<- hg]
  exact rgG HF (st023_ _ p5 A5 l5 c5 B5 k5 d5 g3 g4 (Lib.hid ⟨Yb rB hal,rXL.keep hal,rXR.keep hal,rX8.keep hal,rQ8.keep hal,rQ5.keep hal,rX3.keep hal,rP3,by rw [hg];exact Bl.new W 96 [.bool false,.slice none 0 0,.slice none 0 0],by rw [hg];exact rB.size,by have h:=rX3.lt;omega⟩))
 have st03_:∀ (W:World) (p5:Bool) (A5:Option Addr) (l5:Nat) (c5:Nat) (B5:Option Addr) (k5:Nat) (d5:Nat) (g4:Nat),Hid (Yg V0 W/\Bl W 26 w.heap.size [.int .i64 l.n,.slice aA an ac,.slice (some ⟨gb,ob,none⟩) bn bc,.slice (some ⟨gc,oc,none⟩) cn cc,.slice (some ⟨gd,od,none⟩) dn dc,.slice (some ⟨ge,oe,none⟩) en ec,.slice fA fn fc]/\Bl W 96 (w.heap.size+2) [.bool false,.slice none 0 0,.slice none 0 0]/\Bl W 96 g8 [.bool p8,.slice A8 l8 c8,.slice B8 k8 d8]/\Qe W 30 (.agg #[.bool p8,.slice A8 l8 c8,.slice B8 k8 d8]) x/\Qe W 30 (.agg #[.bool p5,.slice A5 l5 c5,.slice B5 k5 d5]) f.q/\Bl W 96 g4 [.bool false,.slice none 0 0,.slice none 0 0]/\V0.heap.size<=g4)->F 4 (Yl 16 10239).toArray ((a0.put (some 10) (.pointer (some ⟨g4,0,none⟩))).put (some 18) (.agg #[.bool p5,.slice A5 l5 c5,.slice B5 k5 d5])) W:=by
  intro W p5 A5 l5 c5 B5 k5 d5 g4 R
  refine rgF HF ?_
  obtain ⟨rB,rXL,rXR,rX8,rQ8,rQ5,rX4,rP4⟩:=R.out
  refine rgReady [11,12] (rgOne (fun K hK=>?_) (rgOne (fun K hK=>?_) rgNil))
  · skip
    go_simp
    go_at_call 41;refine (of_e (HV0.q1.keep rB) Yd Yd).mono ?_;rintro e W2 ⟨v,rfl,h,hb⟩
    obtain ⟨p6,A6,l6,c6,B6,k6,d6,rfl⟩:=h.parts
    go_wp2_with fail
    refine hK.out _ _ (HCC.out _ (Yb rB hb)) (fun _=>?_);clear hK K
    exact rgG HF (st013_ _ p5 A5 l5 c5 B5 k5 d5 p6 A6 l6 c6 B6 k6 d6 g4 (Lib.hid ⟨Yb rB hb,rXL.keep hb,rXR.keep hb,rX8.keep hb,rQ8.keep hb,rQ5.keep hb,h,rX4.keep hb,rP4⟩))
  have hal:=Ya W (.cells #[.bool false,.slice none 0 0,.slice none 0 0] 96)
  go_simp
  refine hK.out _ _ (HCC.out _ (Yb rB hal)) (fun _=>?_);clear hK K
  obtain ⟨g3,hg⟩:∃ g,g=W.heap.size:=⟨_,rfl⟩
  rw [<- hg]
  exact rgG HF (st023_ _ p5 A5 l5 c5 B5 k5 d5 g3 g4 (Lib.hid ⟨Yb rB hal,rXL.keep hal,rXR.keep hal,rX8.keep hal,rQ8.keep hal,rQ5.keep hal,by rw [hg];exact Bl.new W 96 [.bool false,.slice none 0 0,.slice none 0 0],by rw [hg];exact rB.size,rX4.keep hal,rP4,by have h:=rX4.lt;omega⟩))
 have st23_:∀ (W:World) (g3:Nat) (g4:Nat),Hid (Yg V0 W/\Bl W 26 w.heap.size [.int .i64 l.n,.slice aA an ac,.slice (some ⟨gb,ob,none⟩) bn bc,.slice (some ⟨gc,oc,none⟩) cn cc,.slice (some ⟨gd,od,none⟩) dn dc,.slice (some ⟨ge,oe,none⟩) en ec,.slice fA fn fc]/\Bl W 96 (w.heap.size+2) [.bool false,.slice none 0 0,.slice none 0 0]/\Bl W 96 g8 [.bool p8,.slice A8 l8 c8,.slice B8 k8 d8]/\Qe W 30 (.agg #[.bool p8,.slice A8 l8 c8,.slice B8 k8 d8]) x/\Bl W 96 g3 [.bool false,.slice none 0 0,.slice none 0 0]/\V0.heap.size<=g3/\Bl W 96 g4 [.bool false,.slice none 0 0,.slice none 0 0]/\V0.heap.size<=g4/\g3≠g4)->F 4 (Yl 16 14303).toArray ((a0.put (some 9) (.pointer (some ⟨g3,0,none⟩))).put (some 10) (.pointer (some ⟨g4,0,none⟩))) W:=by
  intro W g3 g4 R
  refine rgF HF ?_
  obtain ⟨rB,rXL,rXR,rX8,rQ8,rX3,rP3,rX4,rP4,rNE⟩:=R.out
  refine rgO 5 fun K hK=>?_
  go_simp
  go_at_call 41;refine (of_e (HV0.p0.keep rB) Yd Yd).mono ?_;rintro e W2 ⟨v,rfl,h,hb⟩
  obtain ⟨p5,A5,l5,c5,B5,k5,d5,rfl⟩:=h.parts
  go_wp2_with fail
  refine hK.out _ _ (HCC.out _ (Yb rB hb)) (fun _=>?_);clear hK K
  exact rgG HF (st023_ _ p5 A5 l5 c5 B5 k5 d5 g3 g4 (Lib.hid ⟨Yb rB hb,rXL.keep hb,rXR.keep hb,rX8.keep hb,rQ8.keep hb,h,rX3.keep hb,rP3,rX4.keep hb,rP4,rNE⟩))
 have st0_:∀ (W:World) (p5:Bool) (A5:Option Addr) (l5:Nat) (c5:Nat) (B5:Option Addr) (k5:Nat) (d5:Nat),Hid (Yg V0 W/\Bl W 26 w.heap.size [.int .i64 l.n,.slice aA an ac,.slice (some ⟨gb,ob,none⟩) bn bc,.slice (some ⟨gc,oc,none⟩) cn cc,.slice (some ⟨gd,od,none⟩) dn dc,.slice (some ⟨ge,oe,none⟩) en ec,.slice fA fn fc]/\Bl W 96 (w.heap.size+2) [.bool false,.slice none 0 0,.slice none 0 0]/\Bl W 96 g8 [.bool p8,.slice A8 l8 c8,.slice B8 k8 d8]/\Qe W 30 (.agg #[.bool p8,.slice A8 l8 c8,.slice B8 k8 d8]) x/\Qe W 30 (.agg #[.bool p5,.slice A5 l5 c5,.slice B5 k5 d5]) f.q)->F 5 (Yl 16 2047).toArray (a0.put (some 18) (.agg #[.bool p5,.slice A5 l5 c5,.slice B5 k5 d5])) W:=by
  intro W p5 A5 l5 c5 B5 k5 d5 R
  refine rgF HF ?_
  obtain ⟨rB,rXL,rXR,rX8,rQ8,rQ5⟩:=R.out
  refine rgReady [11,12,13] (rgOne (fun K hK=>?_) (rgOne (fun K hK=>?_) (rgOne (fun K hK=>?_) rgNil)))
  · skip
    go_simp
    go_at_call 41;refine (of_e (HV0.q1.keep rB) Yd Yd).mono ?_;rintro e W2 ⟨v,rfl,h,hb⟩
    obtain ⟨p6,A6,l6,c6,B6,k6,d6,rfl⟩:=h.parts
    go_wp2_with fail
    refine hK.out _ _ (HCC.out _ (Yb rB hb)) (fun _=>?_);clear hK K
    exact rgG HF (st01_ _ p5 A5 l5 c5 B5 k5 d5 p6 A6 l6 c6 B6 k6 d6 (Lib.hid ⟨Yb rB hb,rXL.keep hb,rXR.keep hb,rX8.keep hb,rQ8.keep hb,rQ5.keep hb,h⟩))
  · skip
    have hal:=Ya W (.cells #[.bool false,.slice none 0 0,.slice none 0 0] 96)
    go_simp
    refine hK.out _ _ (HCC.out _ (Yb rB hal)) (fun _=>?_);clear hK K
    obtain ⟨g3,hg⟩:∃ g,g=W.heap.size:=⟨_,rfl⟩
    rw [<- hg]
    exact rgG HF (st02_ _ p5 A5 l5 c5 B5 k5 d5 g3 (Lib.hid ⟨Yb rB hal,rXL.keep hal,rXR.keep hal,rX8.keep hal,rQ8.keep hal,rQ5.keep hal,by rw [hg];exact Bl.new W 96 [.bool false,.slice none 0 0,.slice none 0 0],by rw [hg];exact rB.size⟩))
  have hal:=Ya W (.cells #[.bool false,.slice none 0 0,.slice none 0 0] 96)
  go_simp
  refine hK.out _ _ (HCC.out _ (Yb rB hal)) (fun _=>?_);clear hK K
  obtain ⟨g4,hg⟩:∃ g,g=W.heap.size:=⟨_,rfl⟩
  rw [<- hg]
  exact rgG HF (st03_ _ p5 A5 l5 c5 B5 k5 d5 g4 (Lib.hid ⟨Yb rB hal,rXL.keep hal,rXR.keep hal,rX8.keep hal,rQ8.keep hal,rQ5.keep hal,by rw [hg];exact Bl.new W 96 [.bool false,.slice none 0 0,.slice none 0 0],by rw [hg];exact rB.size⟩))
 have st2_:∀ (W:World) (g3:Nat),Hid (Yg V0 W/\Bl W 26 w.heap.size [.int .i64 l.n,.slice aA an ac,.slice (some ⟨gb,ob,none⟩) bn bc,.slice (some ⟨gc,oc,none⟩) cn cc,.slice (some ⟨gd,od,none⟩) dn dc,.slice (some ⟨ge,oe,none⟩) en ec,.slice fA fn fc]/\Bl W 96 (w.heap.size+2) [.bool false,.slice none 0 0,.slice none 0 0]/\Bl W 96 g8 [.bool p8,.slice A8 l8 c8,.slice B8 k8 d8]/\Qe W 30 (.agg #[.bool p8,.slice A8 l8 c8,.slice B8 k8 d8]) x/\Bl W 96 g3 [.bool false,.slice none 0 0,.slice none 0 0]/\V0.heap.size<=g3)->F 5 (Yl 16 6111).toArray (a0.put (some 9) (.pointer (some ⟨g3,0,none⟩))) W:=by
  intro W g3 R
  refine rgF HF ?_
  obtain ⟨rB,rXL,rXR,rX8,rQ8,rX3,rP3⟩:=R.out
  refine rgReady [5,13] (rgOne (fun K hK=>?_) (rgOne (fun K hK=>?_) rgNil))
  · skip
    go_simp
    go_at_call 41;refine (of_e (HV0.p0.keep rB) Yd Yd).mono ?_;rintro e W2 ⟨v,rfl,h,hb⟩
    obtain ⟨p5,A5,l5,c5,B5,k5,d5,rfl⟩:=h.parts
    go_wp2_with fail
    refine hK.out _ _ (HCC.out _ (Yb rB hb)) (fun _=>?_);clear hK K
    exact rgG HF (st02_ _ p5 A5 l5 c5 B5 k5 d5 g3 (Lib.hid ⟨Yb rB hb,rXL.keep hb,rXR.keep hb,rX8.keep hb,rQ8.keep hb,h,rX3.keep hb,rP3⟩))
  have hal:=Ya W (.cells #[.bool false,.slice none 0 0,.slice none 0 0] 96)
  go_simp
  refine hK.out _ _ (HCC.out _ (Yb rB hal)) (fun _=>?_);clear hK K
  obtain ⟨g4,hg⟩:∃ g,g=W.heap.size:=⟨_,rfl⟩
  rw [<- hg]
  exact rgG HF (st23_ _ g3 g4 (Lib.hid ⟨Yb rB hal,rXL.keep hal,rXR.keep hal,rX8.keep hal,rQ8.keep hal,rX3.keep hal,rP3,by rw [hg];exact Bl.new W 96 [.bool false,.slice none 0 0,.slice none 0 0],by rw [hg];exact rB.size,by have h:=rX3.lt;omega⟩))
 have st3_:∀ (W:World) (g4:Nat),Hid (Yg V0 W/\Bl W 26 w.heap.size [.int .i64 l.n,.slice aA an ac,.slice (some ⟨gb,ob,none⟩) bn bc,.slice (some ⟨gc,oc,none⟩) cn cc,.slice (some ⟨gd,od,none⟩) dn dc,.slice (some ⟨ge,oe,none⟩) en ec,.slice fA fn fc]/\Bl W 96 (w.heap.size+2) [.bool false,.slice none 0 0,.slice none 0 0]/\Bl W 96 g8 [.bool p8,.slice A8 l8 c8,.slice B8 k8 d8]/\Qe W 30 (.agg #[.bool p8,.slice A8 l8 c8,.slice B8 k8 d8]) x/\Bl W 96 g4 [.bool false,.slice none 0 0,.slice none 0 0]/\V0.heap.size<=g4)->F 5 (Yl 16 10207).toArray (a0.put (some 10) (.pointer (some ⟨g4,0,none⟩))) W:=by
  intro W g4 R
  refine rgF HF ?_
  obtain ⟨rB,rXL,rXR,rX8,rQ8,rX4,rP4⟩:=R.out
  refine rgReady [5,12] (rgOne (fun K hK=>?_) (rgOne (fun K hK=>?_) rgNil))
  · skip
    go_simp
    go_at_call 41;refine (of_e (HV0.p0.keep rB) Yd Yd).mono ?_;rintro e W2 ⟨v,rfl,h,hb⟩
    obtain ⟨p5,A5,l5,c5,B5,k5,d5,rfl⟩:=h.parts
    go_wp2_with fail
    refine hK.out _ _ (HCC.out _ (Yb rB hb)) (fun _=>?_);clear hK K
    exact rgG HF (st03_ _ p5 A5 l5 c5 B5 k5 d5 g4 (Lib.hid ⟨Yb rB hb,rXL.keep hb,rXR.keep hb,rX8.keep hb,rQ8.keep hb,h,rX4.keep hb,rP4⟩))
  have hal:=Ya W (.cells #[.bool false,.slice none 0 0,.slice none 0 0] 96)
  go_simp
  refine hK.out _ _ (HCC.out _ (Yb rB hal)) (fun _=>?_);clear hK K
  obtain ⟨g3,hg⟩:∃ g,g=W.heap.size:=⟨_,rfl⟩
  rw [<- hg]
  exact rgG HF (st23_ _ g3 g4 (Lib.hid ⟨Yb rB hal,rXL.keep hal,rXR.keep hal,rX8.keep hal,rQ8.keep hal,by rw [hg];exact Bl.new W 96 [.bool false,.slice none 0 0,.slice none 0 0],by rw [hg];exact rB.size,rX4.keep hal,rP4,by have h:=rX4.lt;omega⟩))
 have st_:∀ (W:World),Hid (Yg V0 W/\Bl W 26 w.heap.size [.int .i64 l.n,.slice aA an ac,.slice (some ⟨gb,ob,none⟩) bn bc,.slice (some ⟨gc,oc,none⟩) cn cc,.slice (some ⟨gd,od,none⟩) dn dc,.slice (some ⟨ge,oe,none⟩) en ec,.slice fA fn fc]/\Bl W 96 (w.heap.size+2) [.bool false,.slice none 0 0,.slice none 0 0]/\Bl W 96 g8 [.bool p8,.slice A8 l8 c8,.slice B8 k8 d8]/\Qe W 30 (.agg #[.bool p8,.slice A8 l8 c8,.slice B8 k8 d8]) x)->F 6 (Yl 16 2015).toArray a0 W:=by
  intro W  R
  refine rgF HF ?_
  obtain ⟨rB,rXL,rXR,rX8,rQ8⟩:=R.out
  refine rgReady [5,12,13] (rgOne (fun K hK=>?_) (rgOne (fun K hK=>?_) (rgOne (fun K hK=>?_) rgNil)))
  · skip
    go_simp
    go_at_call 41;refine (of_e (HV0.p0.keep rB) Yd Yd).mono ?_;rintro e W2 ⟨v,rfl,h,hb⟩
    obtain ⟨p5,A5,l5,c5,B5,k5,d5,rfl⟩:=h.parts
    go_wp2_with fail
    refine hK.out _ _ (HCC.out _ (Yb rB hb)) (fun _=>?_);clear hK K
    exact rgG HF (st0_ _ p5 A5 l5 c5 B5 k5 d5 (Lib.hid ⟨Yb rB hb,rXL.keep hb,rXR.keep hb,rX8.keep hb,rQ8.keep hb,h⟩))
  · skip
    have hal:=Ya W (.cells #[.bool false,.slice none 0 0,.slice none 0 0] 96)
    go_simp
    refine hK.out _ _ (HCC.out _ (Yb rB hal)) (fun _=>?_);clear hK K
    obtain ⟨g3,hg⟩:∃ g,g=W.heap.size:=⟨_,rfl⟩
    rw [<- hg]
    exact rgG HF (st2_ _ g3 (Lib.hid ⟨Yb rB hal,rXL.keep hal,rXR.keep hal,rX8.keep hal,rQ8.keep hal,by rw [hg];exact Bl.new W 96 [.bool false,.slice none 0 0,.slice none 0 0],by rw [hg];exact rB.size⟩))
  have hal:=Ya W (.cells #[.bool false,.slice none 0 0,.slice none 0 0] 96)
  go_simp
  refine hK.out _ _ (HCC.out _ (Yb rB hal)) (fun _=>?_);clear hK K
  obtain ⟨g4,hg⟩:∃ g,g=W.heap.size:=⟨_,rfl⟩
  rw [<- hg]
  exact rgG HF (st3_ _ g4 (Lib.hid ⟨Yb rB hal,rXL.keep hal,rXR.keep hal,rX8.keep hal,rQ8.keep hal,by rw [hg];exact Bl.new W 96 [.bool false,.slice none 0 0,.slice none 0 0],by rw [hg];exact rB.size⟩))
 exact st_ Wd R0
end I
end
end
section
section
open Go Go.RowKit Go.Proofs Pl
def Sane (l:LPx):Prop:=(∀ c∈l.cols,∀ t∈c,t.2.xs.length<=2305843009213693951/\t.2.ds.length<=2305843009213693951)/\∀ f,f∈l.lo∨f∈l.hi∨f∈l.cost->f.xs.length<=2305843009213693951/\f.ds.length<=2305843009213693951
def Fit30 (l:LPx):Prop:=Fit l/\l.lo.length<=30/\l.hi.length<=30/\l.cost.length<=30
namespace I
theorem great_l {w:World} {v:Value} {l:LPx} (h:LPv w v l) (hs:Sane l):
 Calls Tryz.prog 10 #[v] w fun e w'=>Saysb (fun r=>r=false->Fit30 l) e/\Yg w w':=by
 obtain ⟨aA,an,ac,bA,bn,bc,cA,cn,cc,dA,dn,dc,eA,en,ec,fA,fn,fc,rfl,hP,hla,hlb,hlc,hld,hle,hlf,hma,hmb,hmc,hmd,hme,hmf⟩:=h.open
 have HS:=Lib.hid hP
 have HL:=Yh6 hla hlb hlc hld hle hlf
 have HSN:=Lib.hid hs
 have hma2:an<=9223372036854775807:=by unfold maxLen at hma;omega
 clear hP hs hla hlb hlc hld hle hlf hma hmb hmc hmd hme hmf h
 change Calls Tryz.prog 10 #[.agg #[.int .i64 l.n,.slice aA an ac,.slice bA bn bc,.slice cA cn cc,.slice dA dn dc,.slice eA en ec,.slice fA fn fc]] w _
 go_enter Tryz.func10,Tryz.ntmps10
 go_upto_region 1 with (fail)
 have S0:=Yh2 (Bl.new w 26 [.int .i64 l.n,.slice aA an ac,.slice bA bn bc,.slice cA cn cc,.slice dA dn dc,.slice eA en ec,.slice fA fn fc]) (Ya w (.cells #[.int .i64 l.n,.slice aA an ac,.slice bA bn bc,.slice cA cn cc,.slice dA dn dc,.slice eA en ec,.slice fA fn fc] 26))
 have HA:=Yh6 (HS.p0.keep S0.q1) (HS.p1.keep S0.q1) (HS.p2.keep S0.q1) (HS.p3.keep S0.q1) (HS.p4.keep S0.q1) (HS.q5.keep S0.q1)
 clear HS
 have HBW:=Lib.hid S0.q1
 have HBL:=Lib.hid S0.p0
 clear S0
 generalize w.alloc _=W0 at HA HBW HBL ⊢
 have HC:Hid (∀ W,Yg W0 W->Ye7 W w.heap.size (.int .i64 l.n) (.slice aA an ac) (.slice bA bn bc) (.slice cA cn cc) (.slice dA dn dc) (.slice eA en ec) (.slice fA fn fc)):=fun W hb=>⟨Bl.ld (HBL.out.keep hb) 0 rfl,Bl.ld (HBL.out.keep hb) 1 rfl,Bl.ld (HBL.out.keep hb) 2 rfl,Bl.ld (HBL.out.keep hb) 3 rfl,Bl.ld (HBL.out.keep hb) 4 rfl,Bl.ld (HBL.out.keep hb) 5 rfl,Bl.ld (HBL.out.keep hb) 6 rfl⟩
 have B1:=Lib.hid (below_d W0)
 refine wp_region_held_drew (S:=fun W=>Ye7 W w.heap.size (.int .i64 l.n) (.slice aA an ac) (.slice bA bn bc) (.slice cA cn cc) (.slice dA dn dc) (.slice eA en ec) (.slice fA fn fc)) (by kernel_rfl) (HC.out _ B1.out) (fun Hh=>?_)
 generalize W0.drew=Wd at B1 Hh ⊢
 refine rgFree [0,1,3,4,6,7,8,10] (Yl 12 0) (fun HFR=>?_)
 refine rgRun 6 [0,1,3,4,7,8] Hh fun K hK=>?_
 repeat refine rgA ?_
 refine hK _ _ ?_;clear hK K
 refine rgO 2 fun K hK=>?_
 go_simp
 go_at_call 45;refine (weight_r (HA.p3.keep B1.out) (fun f hf=>HSN.q1 f (.inl hf))).mono ?_;rintro e wB2 ⟨⟨mB2,rfl⟩,hb⟩
 have B2:=Lib.hid (Yb B1.out hb)
 clear hb B1 Hh
 go_wp2_with fail
 refine rgK hK (HC.out _ B2.out) fun Hh=>?_;clear hK K
 refine rgO 5 fun K hK=>?_
 go_simp
 go_at_call 45;refine (weight_r (HA.p4.keep B2.out) (fun f hf=>HSN.q1 f (.inr (.inl hf)))).mono ?_;rintro e wB3 ⟨⟨mB3,rfl⟩,hb⟩
 have B3:=Lib.hid (Yb B2.out hb)
 clear hb B2 Hh
 go_wp2_with fail
 refine rgK hK (HC.out _ B3.out) fun Hh=>?_;clear hK K
 refine rgU 6 11 HFR Hh ?_
 refine rgO 9 fun K hK=>?_
 go_simp
 go_at_call 45;refine (weight_r (HA.q5.keep B3.out) (fun f hf=>HSN.q1 f (.inr (.inr hf)))).mono ?_;rintro e wB4 ⟨⟨mB4,rfl⟩,hb⟩
 have B4:=Lib.hid (Yb B3.out hb)
 clear hb B3 Hh
 go_wp2_with fail
 refine rgK hK (HC.out _ B4.out) fun Hh=>?_;clear hK K
 refine rgU 10 15 HFR Hh ?_
 refine rgT 11 Hh ?_
 refine Yw ?_
 clear Hh
 generalize IntKind.i64.wrap _=n0
 go_wp2_with fail
 go_loopw [3,4] (fun z3 z4 wr=>∃ (k:Nat) (n:Int),z3=.int .i64 n/\z4=.int .i64 (k:Int)/\k<=an/\Hid (Yg W0 wr/\∀ c∈l.cols.take k,c.length<=30/\∀ t∈c,t.2.xs.length+t.2.ds.length<=6)) (fun _ z _=>an - (intOf z).toNat)
 case atStart=>exact ⟨0,_,rfl,rfl,Nat.zero_le _,B4.out,by simp⟩
 case round=>
  obtain ⟨k,n,rfl,rfl,hk,H⟩:=hrel
  by_cases hlt:k<an
  · skip
    obtain ⟨ta,hta⟩:∃ t,l.cols[k]?=some t:=⟨_,List.getElem?_eq_getElem (by rw [HL.p0];exact hlt)⟩
    obtain ⟨ga,oa,qa,xa,e,hga,hva,za0⟩:=HA.p0.at_ hta
    rw [HL.p0] at e
    injection e with e1 e2 e3
    subst e1
    clear e2 e3 qa
    have HV:=Yh3 hva (List.mem_of_getElem? hta) (take_f hta)
    have HCa:Hid (∀ W,Yg W0 W->W.cell? ⟨ga,oa+k,none⟩=some (.slice xa.A xa.l xa.k)/\Ye7 W w.heap.size (.int .i64 l.n) (.slice (some ⟨ga,oa,none⟩) an ac) (.slice bA bn bc) (.slice cA cn cc) (.slice dA dn dc) (.slice eA en ec) (.slice fA fn fc)):=fun W hb=>⟨(hb.cell (p:=⟨ga,_,none⟩) hga).trans za0,Bl.ld (HBL.out.keep hb) 0 rfl,Bl.ld (HBL.out.keep hb) 1 rfl,Bl.ld (HBL.out.keep hb) 2 rfl,Bl.ld (HBL.out.keep hb) 3 rfl,Bl.ld (HBL.out.keep hb) 4 rfl,Bl.ld (HBL.out.keep hb) 5 rfl,Bl.ld (HBL.out.keep hb) 6 rfl⟩
    clear hga hta za0 hva
    have dk:(k:Int)<(an:Int):=Yo
    obtain ⟨za0,l0,l1,l2,l3,l4,l5,l6⟩:=HCa.out _ H.p0
    go_wp2_with fail
    refine (great_t (HV.p0.keep H.p0) (fun t ht=>HSN.p0 _ HV.p1 t ht)).mono ?_;rintro e w5 ⟨⟨r,rfl,hr⟩,hb⟩
    have H5:=Yh2 (Yb H.p0 hb) H.q1
    have HR:=Lib.hid hr
    clear hb hr H za0 l0 l1 l2 l3 l4 l5 l6
    cases r with
    | true=>
     go_wp2_with fail
     go_ret
     exact ⟨⟨true,rfl,by simp⟩,Yb HBW.out H5.p0⟩
    | false=>
     obtain ⟨za0,l0,l1,l2,l3,l4,l5,l6⟩:=HCa.out _ H5.p0
     go_wp2_with fail
     refine (weights_t (HV.p0.keep H5.p0) (Nat.le_trans (HR.out (by trivial)).1 Yd) (fun t ht=>HSN.p0 _ HV.p1 t ht)).mono ?_;rintro e w7 ⟨⟨m,rfl⟩,hb⟩
     have H7:=Yh2 (Yb H5.p0 hb) H5.q1
     clear hb H5 za0 l0 l1 l2 l3 l4 l5 l6
     go_wp2_with fail
     case roundEnd=>exact ⟨⟨k+1,_,rfl,by go_num,Yo,H7.p0,fun c hc=>by rw [HV.q2] at hc;rcases List.mem_append.1 hc with hc | hc;exact H7.q1 c hc;rw [List.mem_singleton.1 hc];exact HR.out (by trivial)⟩,by simp [intOf];omega⟩
  obtain rfl:k=an:=by omega
  have dk:¬ (k:Int)<(k:Int):=Yo
  have HALL:Hid (∀ c∈l.cols,c.length<=30/\∀ t∈c,t.2.xs.length+t.2.ds.length<=6):=by have h:=H.q1;rw [List.take_of_length_le (by rw [HL.p0];exact Nat.le_refl _)] at h;exact h
  obtain ⟨l0,l1,l2,l3,l4,l5,l6⟩:=HC.out _ H.p0
  by_cases d1:(18:Int)<n
  · skip
    go_wp2_with fail
    go_ret
    exact ⟨⟨true,rfl,by simp⟩,Yb HBW.out H.p0⟩
  by_cases d2:(14:Int)<(k:Int)
  · skip
    go_wp2_with fail
    go_ret
    exact ⟨⟨true,rfl,by simp⟩,Yb HBW.out H.p0⟩
  have H14:=Lib.hid (show k<=14 by omega)
  have B10:=Lib.hid H.p0
  clear H
  go_wp2_with fail
  refine (greatAll_r (HA.p3.keep B10.out) (fun f hf=>HSN.q1 f (.inl hf))).mono ?_;rintro e w11 ⟨⟨r1,rfl,hr⟩,hb⟩
  have B11:=Lib.hid (Yb B10.out hb)
  have HR1:=Lib.hid hr
  clear hr hb l0 l1 l2 l3 l4 l5 l6 B10
  obtain ⟨l0,l1,l2,l3,l4,l5,l6⟩:=HC.out _ B11.out
  cases r1 with
  | true=>
   go_wp2_with fail
   go_ret
   exact ⟨⟨true,rfl,by simp⟩,Yb HBW.out B11.out⟩
  | false=>
   go_wp2_with fail
   refine (greatAll_r (HA.p4.keep B11.out) (fun f hf=>HSN.q1 f (.inr (.inl hf)))).mono ?_;rintro e w12 ⟨⟨r2,rfl,hr⟩,hb⟩
   have B12:=Lib.hid (Yb B11.out hb)
   have HR2:=Lib.hid hr
   clear hr hb l0 l1 l2 l3 l4 l5 l6 B11
   obtain ⟨l0,l1,l2,l3,l4,l5,l6⟩:=HC.out _ B12.out
   cases r2 with
   | true=>
    go_wp2_with fail
    go_ret
    exact ⟨⟨true,rfl,by simp⟩,Yb HBW.out B12.out⟩
   | false=>
    go_wp2_with fail
    refine (greatAll_r (HA.q5.keep B12.out) (fun f hf=>HSN.q1 f (.inr (.inr hf)))).mono ?_;rintro e w13 ⟨⟨r3,rfl,hr⟩,hb⟩
    have B13:=Lib.hid (Yb B12.out hb)
    have HR3:=Lib.hid hr
    clear hr hb l0 l1 l2 l3 l4 l5 l6 B12
    obtain ⟨l0,l1,l2,l3,l4,l5,l6⟩:=HC.out _ B13.out
    go_wp2_with fail
    go_ret
    exact ⟨⟨_,rfl,fun hr3=>by subst hr3;exact ⟨⟨by rw [HL.p0];exact H14.out,fun c hc=>⟨(HALL.out c hc).1,fun t ht=>by have:=(HALL.out c hc).2 t ht;omega⟩,fun f hf=>by rcases hf with hf | hf | hf;have:=(HR1.out (by trivial)).2 f hf;omega;have:=(HR2.out (by trivial)).2 f hf;omega;have:=(HR3.out (by trivial)).2 f hf;omega⟩,(HR1.out (by trivial)).1,(HR2.out (by trivial)).1,(HR3.out (by trivial)).1⟩⟩,Yb HBW.out B13.out⟩
end I
end
end
section
section
open Go Go.RowKit Go.Proofs Pl
section
variable {α:Type} {f:α->List Value} {ys:List α} {s:Nat} {w:World} {T:TypeId} {u:Value}
theorem run_append_lit {S:TypeId} {bytes:Nat} {z:Value} (hS:Tryz.prog.underlying S=some (.slice T)) (hI:(Tryz.prog.info? T).map (fun i=>(i.zero,i.size,i.bytes))=some (some z,s,bytes))
 (hby:0<s/\z.cells.size=s) (hf:∀ x,(f x).length=s) (hf1:∀ x,∀ u∈f x,u.oneCell'=true) (ty:TypeId) {g B:Nat} (X:Bl w T g []) (hB:B<=g) (hn:Rv w f u ys) (hl:ys.length*bytes<=140737488355328) (hl2:ys.length<=maxLen):
 ∃ A c w',(Builtin.append_ #[S,S] ty #[.slice (some ⟨g,0,none⟩) 0 0,u]).run Tryz.prog w=.ok (.slice A ys.length c) w'/\Rr w' B T s f (.slice A ys.length c) ys/\Yg w w':=by
 obtain ⟨i,hi,hz0,hz1,hz2⟩:=info_parts hI
 obtain ⟨A,cap,rfl,h1,h2,h3,h4⟩:=hn
 subst hz1;subst hz2
 have hown:w.ownsRow B T i.size (.slice (some ⟨g,0,none⟩) 0 0) 0 []:=⟨by simp,.inr ⟨g,0,#[],rfl,hB,X,Nat.le_refl _,Nat.zero_le _,by simp,by simp⟩⟩
 cases ys with
 | nil=>
  refine ⟨some ⟨g,0,none⟩,0,w,?_,hown,Below.refl _ _⟩
  cases A<;>simp [Builtin.append_,run_underlying hS,sizeOf,typeInfo,hi,Builtin.lenOf,Builtin.firstCells,storeCells,loadCells,loadCellsFrom]
 | cons y ys=>
  rcases h4 with h4 | ⟨b,off,rfl,hb,hc⟩
  · have:=flat_len hf (y::ys)
    rw [h4,List.length_cons] at this
    have h:=Nat.mul_pos (show 0<ys.length+1 by omega) hby.1
    simp only [List.length_nil] at this
    omega
  · have hnews:∀ (j:Nat) (u:Value),(flat f (y::ys))[j]?=some u->w.cell? ((⟨b,off,none⟩:Addr).add j)=some u:=fun j u hj=>by
     have e:(⟨b,off,none⟩:Addr).add j=⟨b,off+j,none⟩:=by unfold Addr.add;split<;>simp_all
     rw [e];exact hc j u hj
    have hr:=run_append_grow (P:=Tryz.prog) w S ty T i z hS hi hz0 ⟨g,0,none⟩ 0 0 [] (by simp) (fun j v h=>by simp at h) ⟨b,off,none⟩ (y::ys).length cap (flat f (y::ys)) (flat_len hf _) hnews (by simp) (by unfold maxLen at hl2;omega) (growslice_fits (by simp) (by rw [Nat.zero_add];exact hl))
    obtain ⟨v',w',hr',hown',-,-⟩:=run_append_own (P:=Tryz.prog) (w:=w) B S ty T i z i.size i.bytes hS hi hz0 rfl rfl hby.2 hby.1 _ 0 [] hown ⟨b,off,none⟩ (y::ys).length cap (flat f (y::ys)) (flat_len hf _) hnews (flat_cell hf1) (by rw [Nat.zero_add];exact hl2) (by rw [Nat.zero_add];exact hl) (Nat.le_trans hB (Nat.le_of_lt X.lt))
    rw [hr] at hr'
    injection hr' with e1 e2
    subst e1;subst e2
    rw [Nat.zero_add] at hr hown'
    rw [List.nil_append] at hown'
    refine ⟨_,_,_,hr,hown',⟨rfl,rfl,rfl,by show w.heap.size<=(w.heap.push _).size;simp,fun k hk=>?_⟩⟩
    exact Go.heap_alloc_old w.drew _ hk
theorem app_lit {S:TypeId} {bytes:Nat} {z:Value} (hS:Tryz.prog.underlying S=some (.slice T)) (hI:(Tryz.prog.info? T).map (fun i=>(i.zero,i.size,i.bytes))=some (some z,s,bytes))
 (hby:0<s/\z.cells.size=s) (hf:∀ x,(f x).length=s) (hf1:∀ x,∀ u∈f x,u.oneCell'=true) {o:Oper} {a:Act} {K:Act->World->Prop} {Q:Exit->Act->World->Prop} (sO xO:Operand)
 (ho:o.op=.call { callee:=.builtin .append,args:=#[sO,xO],argTypes:=#[S,S] }) {g B:Nat} (hs:a.eval sO=.slice (some ⟨g,0,none⟩) 0 0) (hx:a.eval xO=u)
 (X:Bl w T g []) (hB:B<=g) (hn:Rv w f u ys) (hl:ys.length*bytes<=140737488355328)
 (h:∀ A c w',Rr w' B T s f (.slice A ys.length c) ys->Yg w w'->K (a.put o.dst (.slice A ys.length c)) w'):o.wp Tryz.prog a w K Q:=by
 have hl2:ys.length<=maxLen:=by obtain ⟨_,_,-,h1,h2,-⟩:=hn;omega
 obtain ⟨A,c,w',hr,h2,h3⟩:=run_append_lit hS hI hby hf hf1 o.type X hB hn hl hl2
 unfold Oper.wp execOp
 simp only [ho,resolve,invoke,builtin,Sem.run_bind,Sem.run_pure,Result.andThen_ok,List.map_toArray,List.map_cons,List.map_nil,hs,hx,hr]
 exact h A c w' h2 h3
end
theorem bool_info:(Tryz.prog.info? 4).map (fun i=>(i.zero,i.size,i.bytes))=some (some (.bool false),1,1):=by kernel_rfl
theorem terms_info:(Tryz.prog.info? 54).map (fun i=>(i.zero,i.size,i.bytes))=some (some (.slice none 0 0),1,24):=by kernel_rfl
end
end
end Go.Proofs.YtaajajngnmaggaaGreat
