import Derived.Test.YtclaiidoomdklaaGreatSNA28
set_option maxRecDepth 100000
set_option maxHeartbeats 8000000
set_option linter.unusedVariables false
set_option linter.unusedSimpArgs false
namespace Go.Proofs.YtclaiidoomdklaaGreat
section
section
open Go Go.RowKit Go.Proofs Pl
def Ub (w0 w:World) (v:Value) (us:List Ux):Prop:=∃ xs:List Um,Rr w w0.heap.size 48 5 Um.cs v xs/\Zip2 (fun x t=>x.c=t.c/\x.u=t.u/\Fw w0 w x.num t.f) xs us/\Yg w0 w
theorem Ub.uv {w0 w:World} {v:Value} {us:List Ux} (h:Ub w0 w v us):Uv w v us:=by
 obtain ⟨xs,h1,h2,-⟩:=h
 exact ⟨xs,h1.rv,h2.imp fun x t ht=>⟨ht.1,ht.2.1,ht.2.2.fv⟩⟩
theorem Ub.keep {w0 w w':World} {v:Value} {us:List Ux} (h:Ub w0 w v us) (hb:Below w.heap.size w w'):Ub w0 w' v us:=by
 obtain ⟨xs,h1,h2,h3⟩:=h
 exact ⟨xs,h1.keep hb,h2.imp fun x t ht=>⟨ht.1,ht.2.1,ht.2.2.keep hb⟩,Yb h3 hb⟩
theorem Ub.nil {w0 w:World} (hb:Below w0.heap.size w0 w):Ub w0 w (.slice none 0 0) []:=⟨[],Rr.nil _ _ _ _ _,Zip2.nil,hb⟩
def bestX (fs:List Fx):Nat->List Ux
 | 0=>[]
 | k+1=>bestX fs k++(if (fs.getD k ⟨false,[],[]⟩).q=0 then [] else [⟨k,decide ((fs.getD k ⟨false,[],[]⟩).q<0),fq (fs.getD k ⟨false,[],[]⟩).q⟩])
theorem bestX_len (fs:List Fx):∀ k,(bestX fs k).length<=k
 | 0=>Nat.le_refl _
 | k+1=>by
  have:=bestX_len fs k
  unfold bestX
  rw [List.length_append]
  split
  · rw [List.length_nil];omega
  · rw [List.length_singleton];omega
theorem bestX_no {fs:List Fx} {k:Nat} {f:Fx} (h:fs[k]?=some f) (h0:f.q=0):bestX fs (k+1)=bestX fs k:=by
 have e:fs.getD k ⟨false,[],[]⟩=f:=by rw [List.getD_eq_getElem?_getD,h];rfl
 rw [bestX,e,if_pos h0,List.append_nil]
theorem bestX_yes {fs:List Fx} {k:Nat} {f:Fx} (h:fs[k]?=some f) (h0:f.q≠0):bestX fs (k+1)=bestX fs k++[⟨k,decide (f.q<0),fq f.q⟩]:=by
 have e:fs.getD k ⟨false,[],[]⟩=f:=by rw [List.getD_eq_getElem?_getD,h];rfl
 rw [bestX,e,if_neg h0]
theorem sgn_neg (q:Rat):decide (sgnQ q<0)=decide (q<0):=by
 have h2:q<0↔q.num<0:=by rw [Rat.lt_iff];simp
 refine decide_eq_decide.2 ?_
 rw [h2]
 unfold sgnQ signZ
 split<;>(try split)<;>omega
theorem sgn_nil (q:Rat):sgnQ q=0↔q=0:=by
 rw [<- Rat.num_eq_zero]
 unfold sgnQ signZ
 split<;>(try split)<;>omega
namespace I
theorem whole_l {w:World} {z:Int} (h:z.natAbs<=1000000):
 Calls Tryz.prog 54 #[.int .i64 z] w fun e w'=>∃ v,e=.returned v/\Qr w w' v (z:Rat):=by
 have HL:=Yh2 (sm64 h) (sz_int h)
 clear h
 go_enter Tryz.func54,Tryz.ntmps54
 go_upto_region 1 with (fail)
 have S1:=Yh2 (Bl.new w 37 [.bool false,.slice none 0 0,.slice none 0 0]) (Ya w (.cells #[.bool false,.slice none 0 0,.slice none 0 0] 37))
 generalize w.alloc _=W0 at S1 ⊢
 go_wp2_with fail
 refine (small_e HL.p0).mono ?_;rintro e w2 ⟨v,rfl,h,hb⟩
 have S2:=Yh3 (S1.p0.keep hb) h (Yb S1.q1 hb)
 clear h hb S1
 go_wp2_with fail
 refine (to_r S2.p1 Yd HL.q1 Yd).mono ?_;rintro e w3 ⟨v,rfl,h⟩
 obtain ⟨pq,Aq,lq,cq,Av,lv,cv,rfl⟩:=h.parts
 have S3:=Yh3 (S2.p0.keep h.below) (h.from S2.q2) (Yb S2.q2 h.below)
 clear h S2
 have f0:=Bl.fr S3.p0 0
 have f1:=Bl.fr S3.p0 1
 have f2:=Bl.fr S3.p0 2
 have r0:=Bl.ld S3.p0 0 rfl
 have r1:=Bl.ld S3.p0 1 rfl
 have r2:=Bl.ld S3.p0 2 rfl
 go_wp2_with fail
 clear f0 f1 f2 r0 r1 r2
 refine ret_bl (S3.p0.set3 rfl _ _ _) (fun W hW=>by have d0:=hW 0 _ rfl;have d1:=hW 1 _ rfl;have d2:=hW 2 _ rfl;simp [results,Tryz.results54,go_sem,d0,d1,d2];try rfl) rfl ?_
 exact ⟨_,rfl,S3.p1.keepT (S3.p0.keep3 Yd _ _ _) (below3 S3.q2 (Nat.le_refl _) _ _ _)⟩
end I
theorem use_c {w:World} {v:Value} {col:Int} {q:Rat} {L:Nat} (h:Qv w L v q) (h0:0<L) (hL:L<=137438953472):
 Calls Tryz.prog 125 #[.int .i64 col,v] w fun e w'=>∃ b A l k B m d,e=.returned (.agg #[.int .i64 col,.bool (decide (q<0)),.bool b,.slice A l k,.slice B m d])/\Fw w w' (.agg #[.bool b,.slice A l k,.slice B m d]) (fq q):=by
 obtain ⟨b,A,l,j,B,m,d,rfl⟩:∃ b A l k B m d,v=.agg #[.bool b,.slice A l k,.slice B m d]:=h.parts
 have HS:=Yh3 h h0 hL
 have hsg:=sgn_neg q
 clear h h0 hL
 go_enter Tryz.func125,Tryz.ntmps125
 go_upto_region 1 with (fail)
 have hb0:=Yb (Ya w (.cells #[.bool b,.slice A l j,.slice B m d] 37)) (Ya _ (.cells #[.int .i64 0,.bool false,.bool false,.slice none 0 0,.slice none 0 0] 48))
 have X0:=Lib.hid ((Bl.new w 37 [.bool b,.slice A l j,.slice B m d]).alloc (.cells #[.int .i64 0,.bool false,.bool false,.slice none 0 0,.slice none 0 0] 48))
 have X1:=Lib.hid (Bl.new1 w (.cells #[.bool b,.slice A l j,.slice B m d] 37) 48 [.int .i64 0,.bool false,.bool false,.slice none 0 0,.slice none 0 0])
 have HA:=Yh2 (HS.p0.keep hb0) HS.q1
 have HB0:=Lib.hid hb0
 clear hb0 HS
 generalize (w.alloc _).alloc _=W0 at X0 X1 HA HB0 ⊢
 have HC:Hid (∀ W,Yg W0 W->Ye3 W w.heap.size (.bool b) (.slice A l j) (.slice B m d)):=fun W hb=>⟨Bl.ld (X0.out.keep hb) 0 rfl,Bl.ld (X0.out.keep hb) 1 rfl,Bl.ld (X0.out.keep hb) 2 rfl⟩
 obtain ⟨S,hS⟩:∃ S,S=sgnQ q:=⟨_,rfl⟩
 have HSG:=Yh2 hS hsg
 clear hS hsg
 refine wp_region_held_drew (S:=fun W=>Ye3 W w.heap.size (.bool b) (.slice A l j) (.slice B m d)) (by kernel_rfl) (HC.out _ (below_d _)) (fun Hh=>?_)
 have B1:=Lib.hid (below_d W0)
 generalize W0.drew=Wd at B1 Hh ⊢
 refine rgFree [0,1,3,4,6] (Yl 8 0) (fun HFR=>?_)
 refine rgU 0 5 HFR Hh ?_
 refine rgU 1 6 HFR Hh ?_
 refine rgU 4 9 HFR Hh ?_
 refine rgO 2 fun K hK=>?_
 go_simp
 go_at_call 93;refine (sign_v (HA.p0.keep B1.out) HA.q2).mono ?_;rintro e w2 ⟨rfl,hb⟩
 rw [<- HSG.p0]
 have B2:=Lib.hid (Yb B1.out hb)
 clear hb B1 Hh
 go_wp2_with fail
 refine rgK hK (HC.out _ B2.out) fun Hh=>?_;clear hK K
 refine rgU 3 8 HFR Hh ?_
 refine rgO 5 fun K hK=>?_
 go_simp
 go_at_call 119;refine (form_v (HA.p0.keep B2.out) HA.p1 HA.q2).mono ?_;rintro e w3 ⟨v3,rfl,h3⟩
 have B3:=Lib.hid (Yb B2.out h3.below)
 have H3:=Lib.hid (h3.fw.from (Yb HB0.out B2.out))
 obtain ⟨b9,A9,l9,j9,B9,m9,d9,rfl⟩:=h3.parts
 have X3:=Lib.hid (X1.out.keep B3.out)
 clear h3 B2 Hh
 go_wp2_with fail
 refine rgK hK (HC.out _ B3.out) fun Hh=>?_;clear hK K
 refine rgU 6 11 HFR Hh ?_
 refine rgO 7 fun K hK=>?_
 have f0:=Bl.fr X3.out 0
 have f1:=Bl.fr X3.out 1
 have f2:=Bl.fr X3.out 2
 have f3:=Bl.fr X3.out 3
 have f4:=Bl.fr X3.out 4
 have r0:=Bl.ld X3.out 0 rfl
 have r1:=Bl.ld X3.out 1 rfl
 have r2:=Bl.ld X3.out 2 rfl
 have r3:=Bl.ld X3.out 3 rfl
 have r4:=Bl.ld X3.out 4 rfl
 go_simp
 clear f0 r0 f1 r1 f2 r2 f3 r3 f4 r4
 change K _ (cells5 w3 (w.heap.size+1) (.int .i64 col) (.bool (decide (S<0))) (.bool b9) (.slice A9 l9 j9) (.slice B9 m9 d9))
 have hbn:=below5 (Yb HB0.out B3.out) (Nat.le_succ w.heap.size) (.int .i64 col) (.bool (decide (S<0))) (.bool b9) (.slice A9 l9 j9) (.slice B9 m9 d9)
 have X4:=Lib.hid (X3.out.set5 rfl (.int .i64 col) (.bool (decide (S<0))) (.bool b9) (.slice A9 l9 j9) (.slice B9 m9 d9))
 have H4:=Yh2 hbn (H3.out.keepT (X3.out.keep5 Yd (.int .i64 col) (.bool (decide (S<0))) (.bool b9) (.slice A9 l9 j9) (.slice B9 m9 d9)) hbn)
 have hX0:=Bl.other5 (g:=w.heap.size+1) (X0.out.keep B3.out) Yo (.int .i64 col) (.bool (decide (S<0))) (.bool b9) (.slice A9 l9 j9) (.slice B9 m9 d9)
 refine rgK hK ⟨Bl.ld hX0 0 rfl,Bl.ld hX0 1 rfl,Bl.ld hX0 2 rfl⟩ fun Hh=>?_;clear hK K
 clear hbn hX0
 generalize cells5 w3 (w.heap.size+1) (.int .i64 col) (.bool (decide (S<0))) (.bool b9) (.slice A9 l9 j9) (.slice B9 m9 d9)=W5 at X4 H4 Hh ⊢
 refine Yw ?_
 clear Hh
 go_wp2_with fail
 skip
 refine ret_bl X4.out (fun W hW=>by have d0:=hW 0 _ rfl;have d1:=hW 1 _ rfl;have d2:=hW 2 _ rfl;have d3:=hW 3 _ rfl;have d4:=hW 4 _ rfl;simp [results,Tryz.results125,go_sem,d0,d1,d2,d3,d4];try rfl) rfl ?_
 rw [HSG.p0,HSG.q1]
 exact ⟨b9,A9,l9,j9,B9,m9,d9,rfl,H4.q1⟩
theorem best_c {w:World} {v u:Value} {l:LPx} {fs:List Fx} (h:LPv w v l) (hx:Rx w u fs) (hn:fs.length=l.cols.length) (hl:fs.length<=30) (hw:∀ f∈fs,f.xs.length<=6/\f.ds.length<=6):
 Calls Tryz.prog 56 #[v,u] w fun e w'=>∃ r,e=.returned r/\Ub w w' r (bestX fs fs.length):=by
 obtain ⟨aA,an,ac,bA,bn,bc,cA,cn,cc,dA,dn,dc,eA,en,ec,fA,fn,fc,rfl,hP,hla,-⟩:=h.open
 obtain ⟨A,cap,rfl,q1,q2⟩:=hx.shape
 obtain ⟨n,hnn⟩:∃ n,fs.length=n:=⟨_,rfl⟩
 rw [hnn] at hl q1 ⊢
 obtain rfl:n=an:=by omega
 have HS:=Yh3 hx hw hnn
 clear hP hla hx hw hn hnn q1 q2 h
 change Calls Tryz.prog 56 #[.agg #[.int .i64 l.n,.slice aA n ac,.slice bA bn bc,.slice cA cn cc,.slice dA dn dc,.slice eA en ec,.slice fA fn fc],_] w _
 go_enter Tryz.func56,Tryz.ntmps56
 go_upto_region 1 with (fail)
 have hb0:=Ya w (.cells #[.int .i64 l.n,.slice aA n ac,.slice bA bn bc,.slice cA cn cc,.slice dA dn dc,.slice eA en ec,.slice fA fn fc] 26)
 have X0:=Lib.hid (Bl.new w 26 [.int .i64 l.n,.slice aA n ac,.slice bA bn bc,.slice cA cn cc,.slice dA dn dc,.slice eA en ec,.slice fA fn fc])
 have HA:=Yh2 (HS.p0.keep hb0) HS.q1
 have HB0:=Lib.hid hb0
 clear hb0 HS
 generalize w.alloc _=W0 at X0 HA HB0 ⊢
 have HC:Hid (∀ W,Yg W0 W->Ye7 W w.heap.size (.int .i64 l.n) (.slice aA n ac) (.slice bA bn bc) (.slice cA cn cc) (.slice dA dn dc) (.slice eA en ec) (.slice fA fn fc)):=fun W hb=>⟨Bl.ld (X0.out.keep hb) 0 rfl,Bl.ld (X0.out.keep hb) 1 rfl,Bl.ld (X0.out.keep hb) 2 rfl,Bl.ld (X0.out.keep hb) 3 rfl,Bl.ld (X0.out.keep hb) 4 rfl,Bl.ld (X0.out.keep hb) 5 rfl,Bl.ld (X0.out.keep hb) 6 rfl⟩
 obtain ⟨l0,l1,l2,l3,l4,l5,l6⟩:=HC.out W0 below_nil
 go_wp2_with fail
 clear l0 l1 l2 l3 l4 l5 l6
 go_loopw [4,15] (fun z4 z wr=>∃ k:Nat,z=.int .i64 (k:Int)/\k<=n/\Hid (Ub W0 wr z4 (bestX fs k))) (fun _ z _=>n - (intOf z).toNat)
 case atStart=>exact ⟨0,rfl,Nat.zero_le _,Ub.nil below_nil⟩
 case round=>
  obtain ⟨k,rfl,hk,H⟩:=hrel
  by_cases hlt:k<n
  · skip
    obtain ⟨f,hf⟩:∃ f,fs[k]?=some f:=⟨_,List.getElem?_eq_getElem (by rw [HA.q2];exact hlt)⟩
    have hbr:Yg W0 wr:=by obtain ⟨xs,-,-,h3⟩:=H.out;exact h3
    obtain ⟨g,o,cap2,x,e,hg,hv,c0,c1,c2⟩:=HA.p0.at_ hf
    rw [HA.q2] at e
    injection e with e1 e2 e3
    subst e1
    clear e2 e3
    have z0:=(hbr.cell (p:=⟨g,_,none⟩) hg).trans c0
    have z1:=(hbr.cell (p:=⟨g,_,none⟩) hg).trans c1
    have z2:=(hbr.cell (p:=⟨g,_,none⟩) hg).trans c2
    have HV:=Yh2 (Fv.qv (L:=6) hv (HA.p1 f (List.mem_of_getElem? hf)).1 (HA.p1 f (List.mem_of_getElem? hf)).2) hf
    have HR:=Lib.hid hbr
    clear hv hf hbr c0 c1 c2 hg
    have dk:(k:Int)<(n:Int):=Yo
    go_upto_region 6 with (fail)
    have V0:=Lib.hid (Bl.new wr 37 [.bool x.b,.slice x.A x.l x.k,.slice x.B x.m x.d])
    have hb1:=Ya wr (.cells #[.bool x.b,.slice x.A x.l x.k,.slice x.B x.m x.d] 37)
    have H1:=Yh2 (H.out.keep hb1) (Yb HR.out hb1)
    clear hb1 z0 z1 z2 H HR
    generalize (wr.alloc (.cells #[.bool x.b,.slice x.A x.l x.k,.slice x.B x.m x.d] 37))=V at V0 H1 ⊢
    have v0:=Bl.ld V0.out 0 rfl
    have v1:=Bl.ld V0.out 1 rfl
    have v2:=Bl.ld V0.out 2 rfl
    go_wp2_with fail
    refine (sign_v (HV.p0.keep H1.q1) Yd).mono ?_;rintro e w5 ⟨rfl,hb⟩
    have V1:=Lib.hid (V0.out.keep hb)
    have H2:=Yh2 (H1.p0.keep hb) (Yb H1.q1 hb)
    clear hb v0 v1 v2 V0 H1
    obtain ⟨S,hS⟩:∃ S,S=sgnQ f.q:=⟨_,rfl⟩
    rw [<- hS]
    have HSG:=Lib.hid hS
    clear hS
    by_cases d0:S=0
    · skip
      go_wp2_with fail
      case roundEnd=>exact ⟨⟨k+1,by go_num,Yo,by rw [bestX_no HV.q1 ((sgn_nil _).1 (HSG.out.symm.trans d0))];exact H2.p0⟩,by simp [intOf];omega⟩
    have v0:=Bl.ld V1.out 0 rfl
    have v1:=Bl.ld V1.out 1 rfl
    have v2:=Bl.ld V1.out 2 rfl
    go_wp2_with fail
    refine (use_c (HV.p0.keep H2.q1) Yd Yd).mono ?_;rintro e w6 ⟨b4,A4,l4,k4,B4,m4,d4,rfl,h6⟩
    have H3:=Yh3 (H2.p0.keep h6.below) (h6.from H2.q1) (Yb H2.q1 h6.below)
    clear h6 v0 v1 v2 V1 H2
    obtain ⟨sg,hsg⟩:∃ sg,sg=decide (f.q<0):=⟨_,rfl⟩
    rw [<- hsg]
    have HG:=Lib.hid hsg
    clear hsg
    obtain ⟨xs,hx1,hx2,hx3⟩:=id H3.p0
    have HX:=Yh3 hx1 hx2 (show xs.length<=1048576 by rw [hx2.1];have:=bestX_len fs k;omega)
    clear hx1 hx2 hx3
    go_wp2_with (at_builtin;refine app_els (f:=Um.cs) (x:=(⟨(k:Int),sg,b4,A4,l4,k4,B4,m4,d4⟩:Um)) Tryz.underlying27 use_info ⟨Yd,rfl,Yd⟩ Um.len Um.one rfl (.tmp 23) (.tmp 27) rfl rfl rfl (HX.p0.keep (Ya _ _)) (Bl.new w6 _ _) HX.q2 (Yb H3.q2 (Ya _ _)) ?_;intro u2 w2 k1 k2 k3 k4)
    have K2:Hid (Ub W0 w2 u2 (bestX fs (k+1))):=by rw [bestX_yes HV.q1 (fun h0=>d0 (HSG.out.trans ((sgn_nil _).2 h0)))];exact ⟨_,k1,((HX.p1.imp fun x t ht=>⟨ht.1,ht.2.1,(ht.2.2.keep (Ya _ _)).keepT (k3 _ Yd) k2⟩).app ⟨rfl,HG.out,(H3.p1.keep (Ya _ _)).keepT (k3 _ Yd) k2⟩),k2⟩
    clear k1 k2 k3 k4
    go_wp2_with fail
    case roundEnd=>exact ⟨⟨k+1,by go_num,Yo,K2.out⟩,by simp [intOf];omega⟩
  obtain rfl:k=n:=by omega
  have dk:¬ (k:Int)<(k:Int):=Yo
  go_wp2_with fail
  go_ret
  exact ⟨_,rfl,(by obtain ⟨xs,h1,h2,h3⟩:=H.out;exact ⟨xs,Rr.mono h1 HB0.out.size,h2.imp fun x t ht=>⟨ht.1,ht.2.1,ht.2.2.from HB0.out⟩,Yb HB0.out h3⟩)⟩
end
end
section
section
open Go Go.RowKit Go.Proofs Pl
def zq (z:Int):Fx:=fq (z:Rat)
theorem zq_q (z:Int):(zq z).q=(z:Rat):=fq_q _
theorem zq_len {z:Int} (h:z.natAbs<=1000000):(zq z).xs.length<=6/\(zq z).ds.length<=6:=⟨Nat.le_trans (fq_len (sz_int h)).1 (show 1<=6 by decide),Nat.le_trans (fq_len (sz_int h)).2 (show 1<=6 by decide)⟩
def qh:Rat:=mkRat (((-1:Int):Rat).num*((((2:Int):Rat).den:Nat):Int)) (((2:Int):Rat).num*((((-1:Int):Rat).den:Nat):Int)).natAbs
theorem qh_neg:qh<0:=by decide+kernel
theorem qh_ne:qh≠0:=by decide+kernel
theorem qh_two:qh*((2:Int):Rat)=((-1:Int):Rat):=by decide+kernel
theorem qh_sz:Sz 6 qh:=by
 unfold Sz
 rw [WB_eq]
 decide+kernel
theorem fqh_len:(fq qh).xs.length<=6/\(fq qh).ds.length<=6:=fq_len qh_sz
def pS:Px:=⟨[⟨false,true,zq 0,zq 3,[((0:Int),zq 2)]⟩],[⟨true,true,zq 0,zq 4,zq (-1)⟩]⟩
def lS:LPx:=⟨1,[[((0:Int),zq 2)],[((0:Int),fq (-1))]],[true,false],[true,true],[zq 0,zq 0],[zq 4,zq 3],[zq (-1),fq 0]⟩
theorem mk_two:mkV [((0:Int),((2:Int):Rat))]=[((0:Int),((2:Int):Rat))]:=by decide+kernel
theorem mk_neg:mkV [((0:Int),((-1:Int):Rat))]=[((0:Int),((-1:Int):Rat))]:=by decide+kernel
theorem get_two:getV (qT [((0:Int),zq 2)]) 0=((2:Int):Rat):=by
 unfold getV qT
 rw [if_pos (Int.le_refl 0)]
 simp only [List.map_cons,List.map_nil,sumAt,zq_q,if_true]
 exact Rat.add_zero _
theorem makeS:makeX pS=lS:=by
 have hc:colM pS 0 1=[((0:Int),((2:Int):Rat))]:=by
  have e:colM pS 0 1=[((0:Int),getV (qT [((0:Int),zq 2)]) 0)]:=rfl
  rw [e,get_two]
 have h1:colsV pS 1=[fqT (mkV (colM pS 0 1))]:=rfl
 rw [hc,mk_two] at h1
 have h2:makeX pS=⟨1,colsV pS 1++[[((0:Int),fq (-1))]],[true,false],[true,true],[zq 0,zq 0],[zq 4,zq 3],[zq (-1),fq 0]⟩:=rfl
 rw [h2,h1]
 rfl
theorem one_len:(fq (-1)).xs.length<=6/\(fq (-1)).ds.length<=6:=zq_len (z:=-1) Yd
theorem fitPS:FitP pS:=by
 refine ⟨Yd,Yd,fun r hr=>?_⟩
 rw [List.mem_singleton.1 hr]
 exact ⟨Yd,fun t ht=>by rw [List.mem_singleton.1 ht];exact zq_len Yd⟩
theorem fitS:Fit lS:=by
 refine ⟨Yd,fun c hc=>?_,fun f hf=>?_⟩
 · simp only [lS,List.mem_cons,List.not_mem_nil,or_false] at hc
   rcases hc with rfl | rfl
   · exact ⟨Yd,fun t ht=>by rw [List.mem_singleton.1 ht];exact zq_len Yd⟩
   · exact ⟨Yd,fun t ht=>by rw [List.mem_singleton.1 ht];exact one_len⟩
 · simp only [lS,List.mem_cons,List.not_mem_nil,or_false] at hf
   rcases hf with (rfl | rfl) | (rfl | rfl) | (rfl | rfl)
   · exact zq_len Yd
   · exact zq_len Yd
   · exact zq_len Yd
   · exact zq_len Yd
   · exact zq_len Yd
   · exact zq_len (z:=0) Yd
theorem bestS:bestX [zq 0,fq qh] 2=[⟨1,true,fq qh⟩]:=by
 rw [bestX_yes (f:=fq qh) rfl (by rw [fq_q];exact qh_ne),bestX_no (f:=zq 0) rfl (zq_q 0),fq_q,decide_eq_true qh_neg]
 rfl
theorem rowS:rowT lS 1=[((0:Int),((2:Int):Rat))]:=by
 have e:rowT lS 1=[((0:Int),getV (qT [((0:Int),zq 2)]) 0)]:=rfl
 rw [e,get_two]
theorem boundS:boundX lS 1 true=some ⟨1,[((0:Int),zq 2)],zq 3⟩:=by
 have h:boundX lS 1 true=some ⟨1,fqT (mkV (rowT lS 1)),fq (zq 3).q⟩:=if_pos ⟨Yd,rfl⟩
 rw [h,rowS,mk_two,zq_q]
 rfl
theorem runS:runC 2 [(⟨1,[((0:Int),zq 2)],zq 3⟩,fq qh)]=(false,[((0:Int),((-1:Int):Rat))],0+qh*((3:Int):Rat)):=by
 show stepC 2 (false,[],0) (⟨1,[((0:Int),zq 2)],zq 3⟩,fq qh)=_
 unfold stepC badC
 have e1:qT [((0:Int),zq 2)]=[((0:Int),((2:Int):Rat))]:=by unfold qT;rw [List.map_cons,zq_q];rfl
 simp only [fq_q,zq_q,if_neg qh_ne,e1]
 have e2:mkV ([]++scaleT qh [((0:Int),((2:Int):Rat))])=[((0:Int),((-1:Int):Rat))]:=by
  show mkV [((0:Int),qh*((2:Int):Rat))]=_
  rw [qh_two,mk_neg]
 rw [e2]
 have e3:decide (0<qh)=false:=by decide+kernel
 simp [e3]
theorem sumS {p:Cx × Int} (h:SumIs lS [⟨1,true,fq qh⟩] 2 p):p=(⟨2,[((0:Int),zq (-1))],fq (0+qh*((3:Int):Rat))⟩,0):=by
 rcases h with ⟨⟨u,hu,hn⟩,-⟩ | ⟨cs,hz,rfl⟩
 · rw [List.mem_singleton.1 hu] at hn
   exact absurd (boundS.symm.trans hn) (by simp)
 · have h1:cs=[⟨1,[((0:Int),zq 2)],zq 3⟩]:=by
    obtain ⟨c,hc,hb⟩:=hz.right (i:=0) (x:=⟨1,true,fq qh⟩) rfl
    have hb:boundX lS 1 true=some c:=hb
    rw [boundS] at hb
    injection hb with hb
    have hl:cs.length=1:=hz.1.symm
    match cs,hl,hc with
    | [d],_,hc=>
     injection hc with hc
     rw [hc,<- hb]
   subst h1
   unfold combX
   rw [if_pos ⟨by decide,by decide⟩]
   show (if (runC 2 [(⟨1,[((0:Int),zq 2)],zq 3⟩,fq qh)]).1=true then _ else _)=_
   rw [show ([⟨1,[((0:Int),zq 2)],zq 3⟩]:List Cx).zip (List.map Ux.f [⟨1,true,fq qh⟩])=[(⟨1,[((0:Int),zq 2)],zq 3⟩,fq qh)] from rfl,runS]
   rfl
end
end
section
namespace I
section
open Go Go.RowKit Go.Proofs Pl
theorem qmake_e {w:World} {L:Nat} {a:Value} {A2:Option Addr} {l2 c2:Nat} {z:Int} {m:Nat} (ha:Zd w L a z) (hd:Dn w L (.slice A2 l2 c2) m) (h0:m≠0) (h1:0<L) (hL:L<=1073741824):
 Calls Tryz.prog 124 #[a,.agg #[.bool false,.slice A2 l2 c2]] w fun e w'=>∃ v,e=.returned v/\Qe w' L v (mkRat z m)/\Yg w w':=by
 obtain ⟨p,A,l,c,rfl,ha2⟩:=ha.parts
 have HL:=Yh3 h0 h1 hL
 have e9:(p !=false)=p:=by cases p<;>rfl
 have S0:=Yh3 ha hd (Below.refl w.heap.size w)
 clear ha hd h0 h1 hL ha2
 go_enter Tryz.func124,Tryz.ntmps124
 go_upto_region 1 with (fail)
 have S1:=Yh6 (S0.p0.keep ((Yb (Yb (Ya w (.cells #[.bool p,.slice A l c] 58)) (Ya _ (.cells #[.bool false,.slice A2 l2 c2] 58))) (Ya _ (.cells #[.bool false,.slice none 0 0,.slice none 0 0] 60))))) (S0.p1.keep ((Yb (Yb (Ya w (.cells #[.bool p,.slice A l c] 58)) (Ya _ (.cells #[.bool false,.slice A2 l2 c2] 58))) (Ya _ (.cells #[.bool false,.slice none 0 0,.slice none 0 0] 60))))) (((Bx.new 58 w (.bool p) (.slice A l c)).alloc (.cells #[.bool false,.slice A2 l2 c2] 58)).alloc (.cells #[.bool false,.slice none 0 0,.slice none 0 0] 60)) ((Bx.new1 58 w (.cells #[.bool p,.slice A l c] 58) (.bool false) (.slice A2 l2 c2)).alloc (.cells #[.bool false,.slice none 0 0,.slice none 0 0] 60)) (B3.new2 60 w (.cells #[.bool p,.slice A l c] 58) (.cells #[.bool false,.slice A2 l2 c2] 58) (.bool false) (.slice none 0 0) (.slice none 0 0)) (Yb S0.q2 ((Yb (Yb (Ya w (.cells #[.bool p,.slice A l c] 58)) (Ya _ (.cells #[.bool false,.slice A2 l2 c2] 58))) (Ya _ (.cells #[.bool false,.slice none 0 0,.slice none 0 0] 60)))))
 clear S0
 generalize ((w.alloc _).alloc _).alloc _=W0 at S1 ⊢
 obtain ⟨xa,xb,-,-⟩:=S1.p2.facts
 obtain ⟨ya,yb,-,-⟩:=S1.p3.facts
 go_wp2_with fail
 refine (lowest_d S1.p0 S1.p1 HL.p0 HL.p1 HL.q2).mono ?_;rintro e w2 ⟨v,rfl,h,hb⟩
 obtain ⟨pq,Aq,lq,cq,Av,lv,cv,rfl⟩:=h.parts
 have S2:=Yh7 (S1.p0.keep hb) (S1.p1.keep hb) (S1.p2.keep hb) (S1.p3.keep hb) (S1.p4.keep hb) (qd_of h HL.p0) (Yb S1.q5 hb)
 clear h hb xa xb ya yb S1
 obtain ⟨f0,f1,f2,f3,f4,f5⟩:=S2.p4.facts
 go_wp2_with fail
 refine ret_b3 S2.p4 (fun W d0 d1 d2=>by simp [results,Tryz.results124,go_sem,d0,d1,d2];try rfl) rfl ?_
 exact ⟨_,rfl,Qd.put3 S2.p5 S2.p4 _ _ _,S2.p4.below S2.q6 Yo _ _ _⟩
theorem div_e {w:World} {L M:Nat} {a u:Value} {q r:Rat} (ha:Qe w L a q) (hu:Qe w M u r) (hr:0<r.num) (h0:0<L) (h0':0<M) (h1:L<=268435456) (h2:M<=268435456):
 Calls Tryz.prog 55 #[a,u] w fun e w'=>∃ v,e=.returned v/\Qe w' (L+M) v (mkRat (q.num*(r.den:Int)) (r.num*(q.den:Int)).natAbs)/\Yg w w':=by
 obtain ⟨p,A,l,c,B,k,d,rfl,hz,hd⟩:=ha.open
 obtain ⟨p2,A2,l2,c2,B2,k2,d2,rfl,hz2,hd2⟩:=hu.open
 have hp9:0<r.num*(q.den:Int):=Int.mul_pos hr (by have:=q.den_pos;omega)
 have HP:=Yh2 (show decide (r.num*(q.den:Int)<0)=false from decide_eq_false Yo) (show (r.num*(q.den:Int)).natAbs≠0 by omega)
 clear hp9 hr
 have HL:=Yh4 h0 h0' h1 h2
 have S0:=Yh5 hz hd hz2 hd2 (Below.refl w.heap.size w)
 clear hz hd hz2 hd2 h0 h0' h1 h2 ha hu
 go_enter Tryz.func55,Tryz.ntmps55
 go_upto_region 1 with (fail)
 have S1:=Yh8 (S0.p0.keep ((Yb (Yb (Ya w (.cells #[.bool p,.slice A l c,.slice B k d] 60)) (Ya _ (.cells #[.bool p2,.slice A2 l2 c2,.slice B2 k2 d2] 60))) (Ya _ (.cells #[.bool false,.slice none 0 0,.slice none 0 0] 60))))) (S0.p1.keep ((Yb (Yb (Ya w (.cells #[.bool p,.slice A l c,.slice B k d] 60)) (Ya _ (.cells #[.bool p2,.slice A2 l2 c2,.slice B2 k2 d2] 60))) (Ya _ (.cells #[.bool false,.slice none 0 0,.slice none 0 0] 60))))) (S0.p2.keep ((Yb (Yb (Ya w (.cells #[.bool p,.slice A l c,.slice B k d] 60)) (Ya _ (.cells #[.bool p2,.slice A2 l2 c2,.slice B2 k2 d2] 60))) (Ya _ (.cells #[.bool false,.slice none 0 0,.slice none 0 0] 60))))) (S0.p3.keep ((Yb (Yb (Ya w (.cells #[.bool p,.slice A l c,.slice B k d] 60)) (Ya _ (.cells #[.bool p2,.slice A2 l2 c2,.slice B2 k2 d2] 60))) (Ya _ (.cells #[.bool false,.slice none 0 0,.slice none 0 0] 60))))) (((B3.new 60 w (.bool p) (.slice A l c) (.slice B k d)).alloc (.cells #[.bool p2,.slice A2 l2 c2,.slice B2 k2 d2] 60)).alloc (.cells #[.bool false,.slice none 0 0,.slice none 0 0] 60)) ((B3.new1 60 w (.cells #[.bool p,.slice A l c,.slice B k d] 60) (.bool p2) (.slice A2 l2 c2) (.slice B2 k2 d2)).alloc (.cells #[.bool false,.slice none 0 0,.slice none 0 0] 60)) (B3.new2 60 w (.cells #[.bool p,.slice A l c,.slice B k d] 60) (.cells #[.bool p2,.slice A2 l2 c2,.slice B2 k2 d2] 60) (.bool false) (.slice none 0 0) (.slice none 0 0)) (Yb S0.q4 ((Yb (Yb (Ya w (.cells #[.bool p,.slice A l c,.slice B k d] 60)) (Ya _ (.cells #[.bool p2,.slice A2 l2 c2,.slice B2 k2 d2] 60))) (Ya _ (.cells #[.bool false,.slice none 0 0,.slice none 0 0] 60)))))
 clear S0
 generalize ((w.alloc _).alloc _).alloc _=W0 at S1 ⊢
 go_upto_region 1 with (fail)
 have S2:=Yh8 (S1.p0.keep (below_dr _ 1)) (S1.p1.keep (below_dr _ 1)) (S1.p2.keep (below_dr _ 1)) (S1.p3.keep (below_dr _ 1)) (S1.p4.keep (below_dr _ 1)) (S1.p5.keep (below_dr _ 1)) (S1.p6.keep (below_dr _ 1)) (Yb S1.q7 (below_dr _ 1))
 refine wp_region_held_drew (S:=fun W=>Yc3 W w.heap.size (.bool p) (.slice A l c) (.slice B k d) (Ye3 W (w.heap.size+1) (.bool p2) (.slice A2 l2 c2) (.slice B2 k2 d2))) (by kernel_rfl) ⟨S2.p4.facts.1,S2.p4.facts.2.1,S2.p4.facts.2.2.1,S2.p5.facts.1,S2.p5.facts.2.1,S2.p5.facts.2.2.1⟩ (fun Hh=>?_)
 refine rgRun 8 [0,1,2,3,5,6,7,8] Hh fun K hK=>?_
 repeat refine rgA ?_
 refine hK _ _ ?_;clear hK K
 refine rgO 4 fun K hK=>?_
 go_simp
 go_at_call 79;refine (times_d S2.p0 S2.p3 (by have:=HL.out;omega) (by have:=HL.out;omega)).mono ?_;rintro e w3 ⟨v,rfl,h,hb⟩
 obtain ⟨pf,Af,lf,cf,rfl,-⟩:=h.parts
 have S3:=Yh9 (S2.p0.keep hb) (S2.p1.keep hb) (S2.p2.keep hb) (S2.p3.keep hb) (S2.p4.keep hb) (S2.p5.keep hb) (S2.p6.keep hb) h (Yb S2.q7 hb)
 clear h hb Hh
 go_wp2_with fail
 refine rgK hK ⟨S3.p4.facts.1,S3.p4.facts.2.1,S3.p4.facts.2.2.1,S3.p5.facts.1,S3.p5.facts.2.1,S3.p5.facts.2.2.1⟩ fun Hh=>?_;clear hK K
 refine rgO 9 fun K hK=>?_
 go_simp
 go_at_call 79;refine (times_d S3.p2 S3.p1 (by have:=HL.out;omega) (by have:=HL.out;omega)).mono ?_;rintro e w4 ⟨v,rfl,h,hb⟩
 obtain ⟨s9,rfl,h⟩:=h
 obtain ⟨A9,l9,c9,rfl⟩:=h.form
 have h:=h.mono (show M+L<=L+M by omega)
 rw [show decide (r.num*(q.den:Int)<0)=false from HP.p0]
 have S4:=Yh10 (S3.p0.keep hb) (S3.p1.keep hb) (S3.p2.keep hb) (S3.p3.keep hb) (S3.p4.keep hb) (S3.p5.keep hb) (S3.p6.keep hb) (S3.p7.keep hb) h (Yb S3.q8 hb)
 clear h hb Hh
 go_wp2_with fail
 refine rgK hK ⟨S4.p4.facts.1,S4.p4.facts.2.1,S4.p4.facts.2.2.1,S4.p5.facts.1,S4.p5.facts.2.1,S4.p5.facts.2.2.1⟩ fun Hh=>?_;clear hK K
 refine rgO 10 fun K hK=>?_
 go_simp
 go_at_call 124;refine (qmake_e S4.p7 S4.p8 HP.q1 (by have:=HL.out;omega) (by have:=HL.out;omega)).mono ?_;rintro e w5 ⟨v,rfl,h,hb⟩
 obtain ⟨pq,Aq,lq,cq,Av,lv,cv,rfl⟩:=h.parts
 have S5:=Yh11 (S4.p0.keep hb) (S4.p1.keep hb) (S4.p2.keep hb) (S4.p3.keep hb) (S4.p4.keep hb) (S4.p5.keep hb) (S4.p6.keep hb) (S4.p7.keep hb) (S4.p8.keep hb) h (Yb S4.q9 hb)
 clear h hb Hh
 go_wp2_with fail
 refine rgK hK ⟨S5.p4.facts.1,S5.p4.facts.2.1,S5.p4.facts.2.2.1,S5.p5.facts.1,S5.p5.facts.2.1,S5.p5.facts.2.2.1⟩ fun Hh=>?_;clear hK K
 obtain ⟨f0,f1,f2,f3,f4,f5⟩:=S5.p6.facts
 refine rgO 11 fun K hK=>?_
 go_simp;clear f0 f1 f2 f3 f4 f5
 refine rgK hK ⟨cell_st3 _ S5.p4.facts.1 Yo,cell_st3 _ S5.p4.facts.2.1 Yo,cell_st3 _ S5.p4.facts.2.2.1 Yo,cell_st3 _ S5.p5.facts.1 Yo,cell_st3 _ S5.p5.facts.2.1 Yo,cell_st3 _ S5.p5.facts.2.2.1 Yo⟩ fun Hh=>?_;clear hK K
 refine Yw ?_
 clear Hh
 go_wp2_with fail
 refine ret_b3 S5.p6 (fun W d0 d1 d2=>by simp [results,Tryz.results55,go_sem,d0,d1,d2];try rfl) rfl ?_
 exact ⟨_,rfl,Qd.put3 S5.p9 S5.p6 _ _ _,S5.p6.below S5.q10 Yo _ _ _⟩
end
end I
end
section
section
open Go Go.RowKit Go.Proofs Pl
theorem Wr.one {w:World} {g:Nat} {x:Wm} {r:Wx} (X:Bl w 105 g x.cs) (h:Wv w x r):Wr w (.slice (some ⟨g,0,none⟩) 1 1) [r]:=
 ⟨[x],⟨some ⟨g,0,none⟩,1,rfl,Nat.le_refl _,by unfold maxLen;decide,by simp,.inr ⟨g,0,rfl,X.lt,fun i u hi=>by rw [Nat.zero_add];rw [flat_one_] at hi;exact X.ld i hi⟩⟩,Zip2.nil.app h⟩
theorem Vr'.one {w:World} {g:Nat} {x:Vm} {r:Vx} (X:Bl w 108 g x.cs) (h:Vv w x r):Vr' w (.slice (some ⟨g,0,none⟩) 1 1) [r]:=
 ⟨[x],⟨some ⟨g,0,none⟩,1,rfl,Nat.le_refl _,by unfold maxLen;decide,by simp,.inr ⟨g,0,rfl,X.lt,fun i u hi=>by rw [Nat.zero_add];rw [flat_one_] at hi;exact X.ld i hi⟩⟩,Zip2.nil.app h⟩
theorem Rx.two {w:World} {g:Nat} {x y:Rm} {f h:Fx} (X:Bl w 37 g [.bool x.b,.slice x.A x.l x.k,.slice x.B x.m x.d,.bool y.b,.slice y.A y.l y.k,.slice y.B y.m y.d]) (hx:Fv w x.num f) (hy:Fv w y.num h):Rx w (.slice (some ⟨g,0,none⟩) 2 2) [f,h]:=
 ⟨[x,y],⟨some ⟨g,0,none⟩,2,rfl,Nat.le_refl _,by unfold maxLen;decide,by simp,.inr ⟨g,0,rfl,X.lt,fun i u hi=>by rw [Nat.zero_add];exact X.ld i hi⟩⟩,((Zip2.nil (P:=fun (x:Rm) f=>Fv w x.num f)).app (x:=x) hx).app (x:=y) hy⟩
theorem Wr.lit {W:World} {nm:ByteArray} {p q:Bool} {x y z:Rm} {f g h:Fx} {c:Int} (hx:Fv W x.num f) (hy:Fv W y.num g) (hz:Fv W z.num h):
 Wr ((W.alloc (.cells #[.int .i64 c,.bool z.b,.slice z.A z.l z.k,.slice z.B z.m z.d] 85)).alloc (.cells #[.string nm,.bool p,.bool q,.bool x.b,.slice x.A x.l x.k,.slice x.B x.m x.d,.bool y.b,.slice y.A y.l y.k,.slice y.B y.m y.d,.slice (some ⟨W.heap.size,0,none⟩) 1 1] 105)) (.slice (some ⟨W.heap.size+1,0,none⟩) 1 1) [⟨p,q,f,g,[(c,h)]⟩]:=by
 have hb:=Yb (Ya W (.cells #[.int .i64 c,.bool z.b,.slice z.A z.l z.k,.slice z.B z.m z.d] 85)) (Ya _ (.cells #[.string nm,.bool p,.bool q,.bool x.b,.slice x.A x.l x.k,.slice x.B x.m x.d,.bool y.b,.slice y.A y.l y.k,.slice y.B y.m y.d,.slice (some ⟨W.heap.size,0,none⟩) 1 1] 105))
 refine Wr.one (x:=⟨nm,p,q,x,y,⟨some ⟨W.heap.size,0,none⟩,1,1⟩⟩) (Bl.new1 W _ 105 [.string nm,.bool p,.bool q,.bool x.b,.slice x.A x.l x.k,.slice x.B x.m x.d,.bool y.b,.slice y.A y.l y.k,.slice y.B y.m y.d,.slice (some ⟨W.heap.size,0,none⟩) 1 1]) ⟨rfl,rfl,hx.keep hb,hy.keep hb,?_⟩
 exact Tx.one ((Bl.new W 85 [.int .i64 c,.bool z.b,.slice z.A z.l z.k,.slice z.B z.m z.d]).alloc _) (hz.keep hb)
theorem Vr'.lit {W:World} {nm:ByteArray} {wh p q:Bool} {x y z:Rm} {f g h:Fx} (hx:Fv W x.num f) (hy:Fv W y.num g) (hz:Fv W z.num h):
 Vr' (W.alloc (.cells #[.string nm,.bool wh,.bool p,.bool q,.bool x.b,.slice x.A x.l x.k,.slice x.B x.m x.d,.bool y.b,.slice y.A y.l y.k,.slice y.B y.m y.d,.bool z.b,.slice z.A z.l z.k,.slice z.B z.m z.d] 108)) (.slice (some ⟨W.heap.size,0,none⟩) 1 1) [⟨p,q,f,g,h⟩]:=
 Vr'.one (x:=⟨nm,wh,p,q,x,y,z⟩) (Bl.new W 108 [.string nm,.bool wh,.bool p,.bool q,.bool x.b,.slice x.A x.l x.k,.slice x.B x.m x.d,.bool y.b,.slice y.A y.l y.k,.slice y.B y.m y.d,.bool z.b,.slice z.A z.l z.k,.slice z.B z.m z.d]) ⟨rfl,rfl,hx.keep (Ya _ _),hy.keep (Ya _ _),hz.keep (Ya _ _)⟩
theorem tellS:tellX (boundX lS 1 true)=(⟨1,[((0:Int),zq 2)],zq 3⟩,0):=by rw [boundS];rfl
namespace I
theorem speaks_l {w:World}:Calls Tryz.prog 9 #[] w fun e w'=>e=.returned (.bool true)/\Below w.heap.size w w':=by
 have S0:=Lib.hid (Below.refl w.heap.size w)
 go_enter Tryz.func9,Tryz.ntmps9
 go_wp2_with fail
 refine (whole_l (z:=0) Yd).mono ?_;rintro e w1 ⟨v,rfl,h⟩
 obtain ⟨b8,A8,l8,k8,B8,m8,d8,rfl⟩:=h.parts
 have S1:=Yh2 ((show Fv _ _ (zq (0)) from h.fw.fv)) (Yb S0.out h.below)
 clear h  S0
 go_wp2_with fail
 refine (whole_l (z:=3) Yd).mono ?_;rintro e w2 ⟨v,rfl,h⟩
 obtain ⟨b9,A9,l9,k9,B9,m9,d9,rfl⟩:=h.parts
 have S2:=Yh3 (S1.p0.keep h.below) ((show Fv _ _ (zq (3)) from h.fw.fv)) (Yb S1.q1 h.below)
 clear h  S1
 go_wp2_with fail
 refine (whole_l (z:=2) Yd).mono ?_;rintro e w3 ⟨v,rfl,h⟩
 obtain ⟨b10,A10,l10,k10,B10,m10,d10,rfl⟩:=h.parts
 have S3:=Yh4 (S2.p0.keep h.below) (S2.p1.keep h.below) ((show Fv _ _ (zq (2)) from h.fw.fv)) (Yb S2.q2 h.below)
 clear h  S2
 go_wp2_with fail
 refine (whole_l (z:=0) Yd).mono ?_;rintro e w4 ⟨v,rfl,h⟩
 obtain ⟨b15,A15,l15,k15,B15,m15,d15,rfl⟩:=h.parts
 have S4:=Yh3 ((show Fv _ _ (zq (0)) from h.fw.fv)) (((Wr.lit (nm:=ByteArray.empty) (p:=false) (q:=true) (c:=0) (x:=(⟨b8,A8,l8,k8,B8,m8,d8⟩:Rm)) (y:=(⟨b9,A9,l9,k9,B9,m9,d9⟩:Rm)) (z:=(⟨b10,A10,l10,k10,B10,m10,d10⟩:Rm)) S3.p0 S3.p1 S3.p2).keep h.below)) (Yb S3.q3 (Yb (Yb (Ya _ _) (Ya _ _)) h.below))
 clear h  S3
 go_wp2_with fail
 refine (whole_l (z:=4) Yd).mono ?_;rintro e w5 ⟨v,rfl,h⟩
 obtain ⟨b16,A16,l16,k16,B16,m16,d16,rfl⟩:=h.parts
 have S5:=Yh4 (S4.p0.keep h.below) (S4.p1.keep h.below) ((show Fv _ _ (zq (4)) from h.fw.fv)) (Yb S4.q2 h.below)
 clear h  S4
 go_wp2_with fail
 refine (whole_l (z:=-1) Yd).mono ?_;rintro e w6 ⟨v,rfl,h⟩
 obtain ⟨b17,A17,l17,k17,B17,m17,d17,rfl⟩:=h.parts
 have S6:=Yh5 (S5.p0.keep h.below) (S5.p1.keep h.below) (S5.p2.keep h.below) ((show Fv _ _ (zq (-1)) from h.fw.fv)) (Yb S5.q3 h.below)
 clear h  S5
 go_wp2_with fail
 refine (make_p (p:=pS) ⟨_,_,_,_,_,_,_,_,rfl,(S6.p1).keep (Ya _ _),Vr'.lit (nm:=ByteArray.empty) (wh:=false) (p:=true) (q:=true) (x:=(⟨b15,A15,l15,k15,B15,m15,d15⟩:Rm)) (y:=(⟨b16,A16,l16,k16,B16,m16,d16⟩:Rm)) (z:=(⟨b17,A17,l17,k17,B17,m17,d17⟩:Rm)) S6.p0 S6.p2 S6.p3⟩ fitPS).mono ?_;rintro e w7 ⟨u,rfl,h,hb⟩
 rw [makeS] at h
 obtain ⟨aA,an,ac,bA,bn,bc,cA,cn,cc,dA,dn,dc,eA,en,ec,fA,fn,fc,rfl,-⟩:=h.open
 have S7:=Yh2 h (Yb S6.q4 (Yb (Ya _ _) hb))
 clear h hb  S6
 go_upto_region 2 with (fail)
 have S8:=Yh3 (S7.p0.keep (Ya w7 (.cells #[.int .i64 lS.n,.slice aA an ac,.slice bA bn bc,.slice cA cn cc,.slice dA dn dc,.slice eA en ec,.slice fA fn fc] 26))) (Bl.new w7 26 [.int .i64 lS.n,.slice aA an ac,.slice bA bn bc,.slice cA cn cc,.slice dA dn dc,.slice eA en ec,.slice fA fn fc]) (Yb S7.q1 (Ya w7 (.cells #[.int .i64 lS.n,.slice aA an ac,.slice bA bn bc,.slice cA cn cc,.slice dA dn dc,.slice eA en ec,.slice fA fn fc] 26)))
 clear S7
 obtain ⟨g1,hg1⟩:∃ g,g=w7.heap.size:=⟨_,rfl⟩
 rw [<- hg1] at S8 ⊢
 clear hg1
 generalize w7.alloc _=V1 at S8 ⊢
 go_wp2_with fail
 refine (small_e (z:=-1) (sm64 Yd)).mono ?_;rintro e w9 ⟨v,rfl,h,hb⟩
 obtain ⟨b21,A21,l21,k21,B21,m21,d21,rfl⟩:=h.parts
 have S9:=Yh4 (S8.p0.keep hb) (S8.p1.keep hb) h (Yb S8.q2 hb)
 clear h hb  S8
 go_wp2_with fail
 refine (small_e (z:=2) (sm64 Yd)).mono ?_;rintro e w10 ⟨v,rfl,h,hb⟩
 obtain ⟨b22,A22,l22,k22,B22,m22,d22,rfl⟩:=h.parts
 have S10:=Yh5 (S9.p0.keep hb) (S9.p1.keep hb) (S9.p2.keep hb) h (Yb S9.q3 hb)
 clear h hb  S9
 go_wp2_with fail
 refine (div_e S10.p2 S10.p3 (by decide+kernel) Yd Yd Yd Yd).mono ?_;rintro e w11 ⟨v,rfl,h,hb⟩
 obtain ⟨b23,A23,l23,k23,B23,m23,d23,rfl⟩:=h.parts
 have S11:=Yh4 (S10.p0.keep hb) (S10.p1.keep hb) ((show Qe _ (7+7) _ qh from h)) (Yb S10.q4 hb)
 clear h hb  S10
 go_wp2_with fail
 refine (to_r (K:=6) S11.p2 Yd qh_sz Yd).mono ?_;rintro e w12 ⟨v,rfl,h⟩
 obtain ⟨bm,Am,lm,km,Bm,mm,dm,rfl⟩:=h.parts
 have S12:=Yh4 (S11.p0.keep h.below) (S11.p1.keep h.below) h.fw.fv (Yb S11.q3 h.below)
 clear h  S11
 go_upto_region 3 with (fail)
 have S13:=Yh5 (S12.p0.keep (Ya w12 (.cells #[.bool bm,.slice Am lm km,.slice Bm mm dm] 37))) (S12.p1.keep (Ya w12 (.cells #[.bool bm,.slice Am lm km,.slice Bm mm dm] 37))) (S12.p2.keep (Ya w12 (.cells #[.bool bm,.slice Am lm km,.slice Bm mm dm] 37))) (Bl.new w12 37 [.bool bm,.slice Am lm km,.slice Bm mm dm]) (Yb S12.q3 (Ya w12 (.cells #[.bool bm,.slice Am lm km,.slice Bm mm dm] 37)))
 clear S12
 obtain ⟨g2,hg2⟩:∃ g,g=w12.heap.size:=⟨_,rfl⟩
 rw [<- hg2] at S13 ⊢
 clear hg2
 generalize w12.alloc _=V2 at S13 ⊢
 have HC:Hid (∀ W,Yg V2 W->Yc7 W g1 (.int .i64 lS.n) (.slice aA an ac) (.slice bA bn bc) (.slice cA cn cc) (.slice dA dn dc) (.slice eA en ec) (.slice fA fn fc) (Ye3 W g2 (.bool bm) (.slice Am lm km) (.slice Bm mm dm))):=fun W hb=>⟨Bl.ld (S13.p1.keep hb) 0 rfl,Bl.ld (S13.p1.keep hb) 1 rfl,Bl.ld (S13.p1.keep hb) 2 rfl,Bl.ld (S13.p1.keep hb) 3 rfl,Bl.ld (S13.p1.keep hb) 4 rfl,Bl.ld (S13.p1.keep hb) 5 rfl,Bl.ld (S13.p1.keep hb) 6 rfl,Bl.ld (S13.p3.keep hb) 0 rfl,Bl.ld (S13.p3.keep hb) 1 rfl,Bl.ld (S13.p3.keep hb) 2 rfl⟩
 refine wp_region_held_drew (S:=fun W=>Yc7 W g1 (.int .i64 lS.n) (.slice aA an ac) (.slice bA bn bc) (.slice cA cn cc) (.slice dA dn dc) (.slice eA en ec) (.slice fA fn fc) (Ye3 W g2 (.bool bm) (.slice Am lm km) (.slice Bm mm dm))) (by kernel_rfl) (HC.out _ (below_d _)) (fun Hh=>?_)
 have B1:=Lib.hid (below_d V2)
 generalize V2.drew=Wd at B1 Hh ⊢
 refine rgFree [0,2] (Yl 6 0) (fun HFR=>?_)
 refine rgU 0 26 HFR Hh ?_
 refine rgU 2 28 HFR Hh ?_
 refine rgO 1 fun K hK=>?_
 go_simp
 go_at_call 54;refine (whole_l (z:=0) Yd).mono ?_;rintro e wA ⟨v,rfl,h⟩
 obtain ⟨b27,A27,l27,k27,B27,m27,d27,rfl⟩:=h.parts
 have H27:=Lib.hid (show Fv _ _ (zq 0) from h.fw.fv)
 have B2:=Lib.hid (Yb B1.out h.below)
 clear h B1 Hh
 go_wp2_with fail
 refine rgK hK (HC.out _ B2.out) fun Hh=>?_;clear hK K
 refine rgO 3 fun K hK=>?_
 go_simp
 have hal:=Ya wA (.cells #[.bool b27,.slice A27 l27 k27,.slice B27 m27 d27,.bool bm,.slice Am lm km,.slice Bm mm dm] 37)
 have HRX:=Lib.hid (Rx.two (x:=(⟨b27,A27,l27,k27,B27,m27,d27⟩:Rm)) (y:=(⟨bm,Am,lm,km,Bm,mm,dm⟩:Rm)) (Bl.new wA 37 [.bool b27,.slice A27 l27 k27,.slice B27 m27 d27,.bool bm,.slice Am lm km,.slice Bm mm dm]) (H27.out.keep hal) (S13.p2.keep (Yb B2.out hal)))
 have B3:=Lib.hid (Yb B2.out hal)
 refine rgK hK (HC.out _ B3.out) fun Hh=>?_;clear hK K
 clear hal H27 B2
 generalize wA.alloc _=WB at HRX B3 Hh ⊢
 refine rgO 4 fun K hK=>?_
 go_simp
 go_at_call 56;refine (best_c (S13.p0.keep B3.out) HRX.out rfl Yd (fun f hf=>by simp only [List.mem_cons,List.not_mem_nil,or_false] at hf;rcases hf with rfl | rfl;exact zq_len Yd;exact fqh_len)).mono ?_;rintro e wC ⟨r,rfl,h⟩
 have hb:Yg WB wC:=by obtain ⟨xs,-,-,hb⟩:=h;exact hb
 have HU:Hid (Uv wC r [⟨1,true,fq qh⟩]):=by have h2:=h.uv;rw [show [zq 0,fq qh].length=2 from rfl,bestS] at h2;exact h2
 obtain ⟨Au,cu,rfl⟩:∃ A c,r=.slice A 1 c:=by obtain ⟨A,c,e,-⟩:=HU.out.shape;exact ⟨A,c,e⟩
 have B4:=Lib.hid (Yb B3.out hb)
 clear h hb HRX B3 Hh
 go_wp2_with fail
 refine rgK hK (HC.out _ B4.out) fun Hh=>?_;clear hK K
 refine rgT 5 Hh ?_
 refine Yw ?_
 clear Hh
 have S14:=Yh4 (S13.p0.keep B4.out) (S13.p1.keep B4.out) HU.out (Yb S13.q4 B4.out)
 clear S13 HC HU B4
 have y0:=Bl.ld S14.p1 0 rfl
 have y1:=Bl.ld S14.p1 1 rfl
 have y2:=Bl.ld S14.p1 2 rfl
 have y3:=Bl.ld S14.p1 3 rfl
 have y4:=Bl.ld S14.p1 4 rfl
 have y5:=Bl.ld S14.p1 5 rfl
 have y6:=Bl.ld S14.p1 6 rfl
 go_wp2_with fail
 refine (_root_.Go.Proofs.YtclaiidoomdklaaGreat.sum_c (sense:=2) S14.p0 fitS S14.p2 Yd (fun x hx=>by rw [List.mem_singleton.1 hx];exact fqh_len)).mono ?_;rintro e wD ⟨r,p,rfl,hc,hs⟩
 obtain rfl:=sumS hs
 have hb:=hc.below
 obtain ⟨⟨s4,E4,n4,c4,b4,A4,l4,k4,B4,m4,d4⟩,rfl,hs4,ht4,-⟩:=hc
 dsimp only [Cm.agg]
 obtain rfl:s4=2:=hs4
 have ht4:Tw _ _ (.slice E4 n4 c4) [((0:Int),zq (-1))]:=ht4
 obtain rfl:n4=1:=by obtain ⟨_,_,e⟩:=ht4.shape;injection e
 have S15:=Yh5 (S14.p0.keep hb) (S14.p1.keep hb) (S14.p2.keep hb) ht4.tx (Yb S14.q3 hb)
 clear S14 hb ht4 hs y0 y1 y2 y3 y4 y5 y6
 go_upto_region 5 with (fail)
 have S16:=Yh6 (S15.p0.keep (Ya wD (.cells #[.int .i64 2,.slice E4 1 c4,.bool b4,.slice A4 l4 k4,.slice B4 m4 d4] 39))) (S15.p1.keep (Ya wD (.cells #[.int .i64 2,.slice E4 1 c4,.bool b4,.slice A4 l4 k4,.slice B4 m4 d4] 39))) (S15.p2.keep (Ya wD (.cells #[.int .i64 2,.slice E4 1 c4,.bool b4,.slice A4 l4 k4,.slice B4 m4 d4] 39))) (S15.p3.keep (Ya wD (.cells #[.int .i64 2,.slice E4 1 c4,.bool b4,.slice A4 l4 k4,.slice B4 m4 d4] 39))) (Bl.new wD 39 [.int .i64 2,.slice E4 1 c4,.bool b4,.slice A4 l4 k4,.slice B4 m4 d4]) (Yb S15.q4 (Ya wD (.cells #[.int .i64 2,.slice E4 1 c4,.bool b4,.slice A4 l4 k4,.slice B4 m4 d4] 39)))
 clear S15
 obtain ⟨g4,hg4⟩:∃ g,g=wD.heap.size:=⟨_,rfl⟩
 rw [<- hg4] at S16 ⊢
 clear hg4
 generalize wD.alloc _=V4 at S16 ⊢
 have y0:=Bl.ld S16.p1 0 rfl
 have y1:=Bl.ld S16.p1 1 rfl
 have y2:=Bl.ld S16.p1 2 rfl
 have y3:=Bl.ld S16.p1 3 rfl
 have y4:=Bl.ld S16.p1 4 rfl
 have y5:=Bl.ld S16.p1 5 rfl
 have y6:=Bl.ld S16.p1 6 rfl
 go_wp2_with fail
 refine (bound_c (col:=1) (up:=true) S16.p0 fitS).mono ?_;rintro e wE ⟨r,rfl,hc⟩
 rw [tellS] at hc ⊢
 have hb:=hc.below
 obtain ⟨⟨s5,E5,n5,c5,b5,A5,l5,k5,B5,m5,d5⟩,rfl,-,-,hf5⟩:=hc
 dsimp only [Cm.agg]
 have S17:=Yh6 (S16.p1.keep hb) (S16.p2.keep hb) (S16.p3.keep hb) (S16.p4.keep hb) ((show Fv _ (.agg #[.bool b5,.slice A5 l5 k5,.slice B5 m5 d5]) (zq 3) from hf5.fv)) (Yb S16.q5 hb)
 clear S16 hb hf5 y0 y1 y2 y3 y4 y5 y6
 go_upto_region 6 with (fail)
 have S18:=Yh6 (S17.p1.keep (Ya wE (.cells #[.int .i64 s5,.slice E5 n5 c5,.bool b5,.slice A5 l5 k5,.slice B5 m5 d5] 39))) (S17.p2.keep (Ya wE (.cells #[.int .i64 s5,.slice E5 n5 c5,.bool b5,.slice A5 l5 k5,.slice B5 m5 d5] 39))) (S17.p3.keep (Ya wE (.cells #[.int .i64 s5,.slice E5 n5 c5,.bool b5,.slice A5 l5 k5,.slice B5 m5 d5] 39))) (S17.p4.keep (Ya wE (.cells #[.int .i64 s5,.slice E5 n5 c5,.bool b5,.slice A5 l5 k5,.slice B5 m5 d5] 39))) (Bl.new wE 39 [.int .i64 s5,.slice E5 n5 c5,.bool b5,.slice A5 l5 k5,.slice B5 m5 d5]) (Yb S17.q5 (Ya wE (.cells #[.int .i64 s5,.slice E5 n5 c5,.bool b5,.slice A5 l5 k5,.slice B5 m5 d5] 39)))
 clear S17
 obtain ⟨g5,hg5⟩:∃ g,g=wE.heap.size:=⟨_,rfl⟩
 rw [<- hg5] at S18 ⊢
 clear hg5
 generalize wE.alloc _=V5 at S18 ⊢
 obtain ⟨gu,ou,_,xu,e,hgu,-,u0,u1,-⟩:=S18.p0.at_ (i:=0) rfl
 injection e with e1 e2 e3
 subst e1
 clear e2 e3
 obtain ⟨gt,ot,_,xt,e,hgt,hxt,-,hft,z0,z1,z2,z3⟩:=S18.p1.at_ (i:=0) rfl
 injection e with e1 e2 e3
 subst e1
 clear e2 e3
 rw [Nat.zero_mul,Nat.add_zero] at u0 u1 z0 z1 z2 z3
 have HC:Hid (∀ W,Yg V5 W->Yc5 W g4 (.int .i64 2) (.slice (some ⟨gt,ot,none⟩) 1 c4) (.bool b4) (.slice A4 l4 k4) (.slice B4 m4 d4) (Yc5 W g5 (.int .i64 s5) (.slice E5 n5 c5) (.bool b5) (.slice A5 l5 k5) (.slice B5 m5 d5) (W.cell? ⟨gu,ou,none⟩=some (.int .i64 1)/\W.cell? ⟨gu,ou+1,none⟩=some (.bool true)/\W.cell? ⟨gt,ot+1,none⟩=some (.bool xt.b)/\W.cell? ⟨gt,ot+2,none⟩=some (.slice xt.A xt.l xt.k)/\W.cell? ⟨gt,ot+3,none⟩=some (.slice xt.B xt.m xt.d)))):=fun W hb=>⟨Bl.ld (S18.p2.keep hb) 0 rfl,Bl.ld (S18.p2.keep hb) 1 rfl,Bl.ld (S18.p2.keep hb) 2 rfl,Bl.ld (S18.p2.keep hb) 3 rfl,Bl.ld (S18.p2.keep hb) 4 rfl,Bl.ld (S18.p4.keep hb) 0 rfl,Bl.ld (S18.p4.keep hb) 1 rfl,Bl.ld (S18.p4.keep hb) 2 rfl,Bl.ld (S18.p4.keep hb) 3 rfl,Bl.ld (S18.p4.keep hb) 4 rfl,(hb.cell (p:=⟨gu,_,none⟩) hgu).trans u0,(hb.cell (p:=⟨gu,_,none⟩) hgu).trans u1,(hb.cell (p:=⟨gt,_,none⟩) hgt).trans z1,(hb.cell (p:=⟨gt,_,none⟩) hgt).trans z2,(hb.cell (p:=⟨gt,_,none⟩) hgt).trans z3⟩
 have HF:=Yh2 (show Fv V5 (.agg #[.bool xt.b,.slice xt.A xt.l xt.k,.slice xt.B xt.m xt.d]) (zq (-1)) from hft) S18.p3
 clear hxt hft z0 z1 z2 z3 u0 u1 hgu hgt
 refine wp_region_held_drew (S:=fun W=>Yc5 W g4 (.int .i64 2) (.slice (some ⟨gt,ot,none⟩) 1 c4) (.bool b4) (.slice A4 l4 k4) (.slice B4 m4 d4) (Yc5 W g5 (.int .i64 s5) (.slice E5 n5 c5) (.bool b5) (.slice A5 l5 k5) (.slice B5 m5 d5) (W.cell? ⟨gu,ou,none⟩=some (.int .i64 1)/\W.cell? ⟨gu,ou+1,none⟩=some (.bool true)/\W.cell? ⟨gt,ot+1,none⟩=some (.bool xt.b)/\W.cell? ⟨gt,ot+2,none⟩=some (.slice xt.A xt.l xt.k)/\W.cell? ⟨gt,ot+3,none⟩=some (.slice xt.B xt.m xt.d)))) (by kernel_rfl) (HC.out _ (below_d _)) (fun Hh=>?_)
 have B1:=Lib.hid (below_d V5)
 generalize V5.drew=Wd at B1 Hh ⊢
 refine rgFree [0,1,2,3,4,5,6,7,8,9,10,11,12,13,14,15,16,17,18,19,20,21,22,23,24,25,26,27,28,29,30,31,32,33,34,35,36,37,38,39,40,41,42,43,44] (Yl 46 0) (fun HFR=>?_)
 refine rgRun 32 [0,1,2,3,4,5,6,7,8,9,10,11,12,13,14,15,16,17,18,19,20,21,22,23,24,25,26,27,28,29,30,31] Hh fun K hK=>?_
 repeat refine rgA ?_
 refine hK _ _ ?_;clear hK K
 refine rgO 32 fun K hK=>?_
 go_simp
 go_at_call 54;refine (whole_l (z:=-1) Yd).mono ?_;rintro e wF74 ⟨v,rfl,h⟩
 obtain ⟨b74,A74,l74,k74,B74,m74,d74,rfl⟩:=h.parts
 have H74:=Lib.hid (show Fv _ _ (zq (-1)) from h.fw.fv)
 have B2:=Lib.hid (Yb B1.out h.below)
 clear h B1 Hh
 go_wp2_with fail
 refine rgK hK (HC.out _ B2.out) fun Hh=>?_;clear hK K
 refine rgO 33 fun K hK=>?_
 go_simp
 go_at_call 57;refine (_root_.Go.Proofs.YtclaiidoomdklaaGreat.same_f (HF.p0.keep B2.out) H74.out).mono ?_;rintro e wG75 ⟨rfl,hb⟩
 rw [show decide (zq (-1)=zq (-1))=true from decide_eq_true rfl]
 have B3:=Lib.hid (Yb B2.out hb)
 clear hb B2 H74 Hh
 go_wp2_with fail
 refine rgK hK (HC.out _ B3.out) fun Hh=>?_;clear hK K
 refine rgRun 8 [34,35,36,37,38,39,40,41] Hh fun K hK=>?_
 repeat refine rgA ?_
 refine hK _ _ ?_;clear hK K
 refine rgO 42 fun K hK=>?_
 go_simp
 go_at_call 54;refine (whole_l (z:=3) Yd).mono ?_;rintro e wF84 ⟨v,rfl,h⟩
 obtain ⟨b84,A84,l84,k84,B84,m84,d84,rfl⟩:=h.parts
 have H84:=Lib.hid (show Fv _ _ (zq (3)) from h.fw.fv)
 have B4:=Lib.hid (Yb B3.out h.below)
 clear h B3 Hh
 go_wp2_with fail
 refine rgK hK (HC.out _ B4.out) fun Hh=>?_;clear hK K
 refine rgO 43 fun K hK=>?_
 go_simp
 go_at_call 57;refine (_root_.Go.Proofs.YtclaiidoomdklaaGreat.same_f (HF.q1.keep B4.out) H84.out).mono ?_;rintro e wG85 ⟨rfl,hb⟩
 rw [show decide (zq (3)=zq (3))=true from decide_eq_true rfl]
 have B5:=Lib.hid (Yb B4.out hb)
 clear hb B4 H84 Hh
 go_wp2_with fail
 refine rgK hK (HC.out _ B5.out) fun Hh=>?_;clear hK K
 refine rgU 44 86 HFR Hh ?_
 refine rgT 45 Hh ?_
 refine Yw ?_
 clear Hh
 go_wp2_with fail
 go_ret
 exact ⟨rfl,Yb S18.q5 B5.out⟩
end I
end
end
end Go.Proofs.YtclaiidoomdklaaGreat
