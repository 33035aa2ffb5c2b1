import Derived.Test.YtaajajngnmaggaaGreatENA23
set_option maxRecDepth 100000
set_option maxHeartbeats 8000000
set_option linter.unusedVariables false
set_option linter.unusedSimpArgs false
namespace Go.Proofs.YtaajajngnmaggaaGreat
section
section
open Go Go.RowKit Go.Proofs Pl
def zq (z:Int):Fx:=fq (z:Rat)
theorem zq_q (z:Int):(zq z).q=(z:Rat):=fq_q _
theorem zq_len {z:Int} (h:z.natAbs<=1000000):(zq z).xs.length<=6/\(zq z).ds.length<=6:=⟨Nat.le_trans (fq_len (sz_int h)).1 (show 1<=6 by decide),Nat.le_trans (fq_len (sz_int h)).2 (show 1<=6 by decide)⟩
def pS:Px:=⟨[⟨false,true,zq 0,zq 3,[((0:Int),zq 2)]⟩],[⟨true,true,zq 0,zq 4,zq (-1)⟩]⟩
def lS:LPx:=⟨1,[[((0:Int),zq 2)],[((0:Int),fq (-1))]],[true,false],[true,true],[zq 0,zq 0],[zq 4,zq 3],[zq (-1),fq 0]⟩
theorem mk_two:mkV [((0:Int),((2:Int):Rat))]=[((0:Int),((2:Int):Rat))]:=by decide+kernel
theorem get_two:getV (qT [((0:Int),zq 2)]) 0=((2:Int):Rat):=by
 unfold getV qT
 rw [if_pos (Int.le_refl 0)]
 simp only [List.map_cons,List.map_nil,sumAt,zq_q,if_true]
 exact Rat.add_zero _
theorem makeS:makeX pS=lS:=by
 have hc:colM pS 0 1=[((0:Int),((2:Int):Rat))]:=by
  have e:colM pS 0 1=[((0:Int),getV (qT [((0:Int),zq 2)]) 0)]:=rfl
  rw [e,get_two]
 have h1:colsV pS 1=[fqT (mkV (colM pS 0 1))]:=rfl
 rw [hc,mk_two] at h1
 have h2:makeX pS=⟨1,colsV pS 1++[[((0:Int),fq (-1))]],[true,false],[true,true],[zq 0,zq 0],[zq 4,zq 3],[zq (-1),fq 0]⟩:=rfl
 rw [h2,h1]
 rfl
theorem one_len:(fq (-1)).xs.length<=6/\(fq (-1)).ds.length<=6:=zq_len (z:=-1) Yd
theorem fitPS:FitP pS:=by
 refine ⟨Yd,Yd,fun r hr=>?_⟩
 rw [List.mem_singleton.1 hr]
 exact ⟨Yd,fun t ht=>by rw [List.mem_singleton.1 ht];exact zq_len Yd⟩
theorem fitS:Fit lS:=by
 refine ⟨Yd,fun c hc=>?_,fun f hf=>?_⟩
 · simp only [lS,List.mem_cons,List.not_mem_nil,or_false] at hc
   rcases hc with rfl | rfl
   · exact ⟨Yd,fun t ht=>by rw [List.mem_singleton.1 ht];exact zq_len Yd⟩
   · exact ⟨Yd,fun t ht=>by rw [List.mem_singleton.1 ht];exact one_len⟩
 · simp only [lS,List.mem_cons,List.not_mem_nil,or_false] at hf
   rcases hf with (rfl | rfl) | (rfl | rfl) | (rfl | rfl)
   · exact zq_len Yd
   · exact zq_len Yd
   · exact zq_len Yd
   · exact zq_len Yd
   · exact zq_len Yd
   · exact zq_len (z:=0) Yd
end
end
section
section
open Go Go.RowKit Go.Proofs Pl
theorem Wr.one {w:World} {g:Nat} {x:Wm} {r:Wx} (X:Bl w 142 g x.cs) (h:Wv w x r):Wr w (.slice (some ⟨g,0,none⟩) 1 1) [r]:=
 ⟨[x],⟨some ⟨g,0,none⟩,1,rfl,Nat.le_refl _,by unfold maxLen;decide,by simp,.inr ⟨g,0,rfl,X.lt,fun i u hi=>by rw [Nat.zero_add];rw [flat_one_] at hi;exact X.ld i hi⟩⟩,Zip2.nil.app h⟩
theorem Vr'.one {w:World} {g:Nat} {x:Vm} {r:Vx} (X:Bl w 145 g x.cs) (h:Vv w x r):Vr' w (.slice (some ⟨g,0,none⟩) 1 1) [r]:=
 ⟨[x],⟨some ⟨g,0,none⟩,1,rfl,Nat.le_refl _,by unfold maxLen;decide,by simp,.inr ⟨g,0,rfl,X.lt,fun i u hi=>by rw [Nat.zero_add];rw [flat_one_] at hi;exact X.ld i hi⟩⟩,Zip2.nil.app h⟩
theorem Rx.two {w:World} {g:Nat} {x y:Rm} {f h:Fx} (X:Bl w 36 g [.bool x.b,.slice x.A x.l x.k,.slice x.B x.m x.d,.bool y.b,.slice y.A y.l y.k,.slice y.B y.m y.d]) (hx:Fv w x.num f) (hy:Fv w y.num h):Rx w (.slice (some ⟨g,0,none⟩) 2 2) [f,h]:=
 ⟨[x,y],⟨some ⟨g,0,none⟩,2,rfl,Nat.le_refl _,by unfold maxLen;decide,by simp,.inr ⟨g,0,rfl,X.lt,fun i u hi=>by rw [Nat.zero_add];exact X.ld i hi⟩⟩,((Zip2.nil (P:=fun (x:Rm) f=>Fv w x.num f)).app (x:=x) hx).app (x:=y) hy⟩
theorem Wr.lit {W:World} {nm:ByteArray} {p q:Bool} {x y z:Rm} {f g h:Fx} {c:Int} (hx:Fv W x.num f) (hy:Fv W y.num g) (hz:Fv W z.num h):
 Wr ((W.alloc (.cells #[.int .i64 c,.bool z.b,.slice z.A z.l z.k,.slice z.B z.m z.d] 63)).alloc (.cells #[.string nm,.bool p,.bool q,.bool x.b,.slice x.A x.l x.k,.slice x.B x.m x.d,.bool y.b,.slice y.A y.l y.k,.slice y.B y.m y.d,.slice (some ⟨W.heap.size,0,none⟩) 1 1] 142)) (.slice (some ⟨W.heap.size+1,0,none⟩) 1 1) [⟨p,q,f,g,[(c,h)]⟩]:=by
 have hb:=Yb (Ya W (.cells #[.int .i64 c,.bool z.b,.slice z.A z.l z.k,.slice z.B z.m z.d] 63)) (Ya _ (.cells #[.string nm,.bool p,.bool q,.bool x.b,.slice x.A x.l x.k,.slice x.B x.m x.d,.bool y.b,.slice y.A y.l y.k,.slice y.B y.m y.d,.slice (some ⟨W.heap.size,0,none⟩) 1 1] 142))
 refine Wr.one (x:=⟨nm,p,q,x,y,⟨some ⟨W.heap.size,0,none⟩,1,1⟩⟩) (Bl.new1 W _ 142 [.string nm,.bool p,.bool q,.bool x.b,.slice x.A x.l x.k,.slice x.B x.m x.d,.bool y.b,.slice y.A y.l y.k,.slice y.B y.m y.d,.slice (some ⟨W.heap.size,0,none⟩) 1 1]) ⟨rfl,rfl,hx.keep hb,hy.keep hb,?_⟩
 exact Tx.one ((Bl.new W 63 [.int .i64 c,.bool z.b,.slice z.A z.l z.k,.slice z.B z.m z.d]).alloc _) (hz.keep hb)
theorem Vr'.lit {W:World} {nm:ByteArray} {wh p q:Bool} {x y z:Rm} {f g h:Fx} (hx:Fv W x.num f) (hy:Fv W y.num g) (hz:Fv W z.num h):
 Vr' (W.alloc (.cells #[.string nm,.bool wh,.bool p,.bool q,.bool x.b,.slice x.A x.l x.k,.slice x.B x.m x.d,.bool y.b,.slice y.A y.l y.k,.slice y.B y.m y.d,.bool z.b,.slice z.A z.l z.k,.slice z.B z.m z.d] 145)) (.slice (some ⟨W.heap.size,0,none⟩) 1 1) [⟨p,q,f,g,h⟩]:=
 Vr'.one (x:=⟨nm,wh,p,q,x,y,z⟩) (Bl.new W 145 [.string nm,.bool wh,.bool p,.bool q,.bool x.b,.slice x.A x.l x.k,.slice x.B x.m x.d,.bool y.b,.slice y.A y.l y.k,.slice y.B y.m y.d,.bool z.b,.slice z.A z.l z.k,.slice z.B z.m z.d]) ⟨rfl,rfl,hx.keep (Ya _ _),hy.keep (Ya _ _),hz.keep (Ya _ _)⟩
end
end
section
section
open Go Go.RowKit Go.Proofs Pl
namespace I
theorem whole13 {w:World} {z:Int} (h:z.natAbs<=1000000):
 Calls Tryz.prog 86 #[.int .i64 z] w fun e w'=>∃ v,e=.returned v/\Qr w w' v (z:Rat):=by
 have HL:=Yh2 (sm64 h) (sz_int h)
 clear h
 go_enter Tryz.func86,Tryz.ntmps86
 go_upto_region 1 with (fail)
 have S1:=Yh2 (Bl.new w 36 [.bool false,.slice none 0 0,.slice none 0 0]) (Ya w (.cells #[.bool false,.slice none 0 0,.slice none 0 0] 36))
 generalize w.alloc _=W0 at S1 ⊢
 go_wp2_with fail
 refine (small_e HL.p0).mono ?_;rintro e w2 ⟨v,rfl,h,hb⟩
 have S2:=Yh3 (S1.p0.keep hb) h (Yb S1.q1 hb)
 clear h hb S1
 go_wp2_with fail
 refine (to_r S2.p1 Yd HL.q1 Yd).mono ?_;rintro e w3 ⟨v,rfl,h⟩
 obtain ⟨pq,Aq,lq,cq,Av,lv,cv,rfl⟩:=h.parts
 have S3:=Yh3 (S2.p0.keep h.below) (h.from S2.q2) (Yb S2.q2 h.below)
 clear h S2
 have f0:=Bl.fr S3.p0 0
 have f1:=Bl.fr S3.p0 1
 have f2:=Bl.fr S3.p0 2
 have r0:=Bl.ld S3.p0 0 rfl
 have r1:=Bl.ld S3.p0 1 rfl
 have r2:=Bl.ld S3.p0 2 rfl
 go_wp2_with fail
 clear f0 f1 f2 r0 r1 r2
 refine ret_bl (S3.p0.set3 rfl _ _ _) (fun W hW=>by have d0:=hW 0 _ rfl;have d1:=hW 1 _ rfl;have d2:=hW 2 _ rfl;simp [results,Tryz.results86,go_sem,d0,d1,d2];try rfl) rfl ?_
 exact ⟨_,rfl,S3.p1.keepT (S3.p0.keep3 Yd _ _ _) (below3 S3.q2 (Nat.le_refl _) _ _ _)⟩
end I
theorem fit30S:Fit30 lS:=⟨fitS,Yd,Yd,Yd⟩
theorem leaveS:leaveX lS [1] [zq 4,zq 8] false=(0,false,true):=by
 have e:sL lS [zq 4,zq 8] ((1:Nat):Int)=lackQ false true ((0:Int):Rat) ((3:Int):Rat) ((8:Int):Rat):=(sL_in (c:=1) rfl rfl rfl rfl rfl).trans (by rw [zq_q,zq_q,zq_q])
 have e2:lackQ false true ((0:Int):Rat) ((3:Int):Rat) ((8:Int):Rat)=(5,false):=by decide+kernel
 have e3:sLs lS [zq 4,zq 8] [1] 0=5:=by show (sL lS [zq 4,zq 8] ((1:Nat):Int)).1=5;rw [e,e2]
 have e4:lvK lS [zq 4,zq 8] [1] false 1=some 0:=leaveK_1 (by rw [e3];decide+kernel) rfl
 unfold leaveX
 rw [show ([1]:List Int).length=1 from rfl,e4]
 show ((0:Int),(sL lS [zq 4,zq 8] ((1:Nat):Int)).2,true)=_
 rw [e,e2]
theorem candS:∃ r,candX lS [2,3] [zq (-1),zq 0] [zq (-2),zq 1] false 2=[((0:Int),r)]:=by
 have f0:fixN lS 0=false:=by
  show fixedQ true true (zq 0).q (zq 4).q=false
  rw [zq_q,zq_q];decide+kernel
 have m0:mayN lS [2,3] [zq (-2),zq 1] false 0=true:=by
  show mayQ 2 (sgnQ (zq (-2)).q) false (fixN lS 0)=true
  rw [f0,zq_q];decide+kernel
 have m1:mayN lS [2,3] [zq (-2),zq 1] false 1=false:=rfl
 exact ⟨_,(candK_no m1).trans (candK_yes m0)⟩
theorem feasS:feasK (okN lS [2,3] [zq (-1),zq 0]) 2=true:=by
 have m0:okN lS [2,3] [zq (-1),zq 0] 0=true:=by
  show okF 2 (sgnQ (zq (-1)).q) _=true
  rw [zq_q]
  generalize fixN lS 0=x
  cases x<;>decide+kernel
 have m1:okN lS [2,3] [zq (-1),zq 0] 1=true:=by
  show okF 3 (sgnQ (zq 0).q) _=true
  rw [zq_q]
  generalize fixN lS 1=x
  cases x<;>decide+kernel
 exact feasK_yes m1 (feasK_yes m0 rfl)
theorem lens2 {a b:Int} (ha:a.natAbs<=1000000) (hb:b.natAbs<=1000000):∀ f∈[zq a,zq b],f.xs.length<=6/\f.ds.length<=6:=fun f hf=>by
 simp only [List.mem_cons,List.not_mem_nil,or_false] at hf
 rcases hf with rfl | rfl
 · exact zq_len ha
 · exact zq_len hb
theorem sortS {w W:World} {V:Value} {xs:List Tm} (h:CandR w W V xs) (he:xs.map Tm.t=candX lS [2,3] [zq (-1),zq 0] [zq (-2),zq 1] false 2):
 Calls Tryz.prog 94 #[V,.func (.func 95) #[] #[]] W fun e W'=>e=.returned (.tuple #[])/\SortsC w V xs W'/\∀ T,156≠T->KeepT T W W':=by
 obtain ⟨r,hr⟩:=candS
 rw [hr] at he
 have hl:xs.length=1:=by have:=congrArg List.length he;rw [List.length_map] at this;exact this
 obtain ⟨A,c,hv,-⟩:=h.1.shape
 rw [hl] at hv
 subst hv
 refine (sort01 (Nat.le_refl 1)).mono ?_
 rintro e w' ⟨rfl,rfl⟩
 exact ⟨rfl,⟨xs,h,List.Perm.refl _,by rw [he];exact List.pairwise_singleton _ _⟩,fun T _=>KeepT.below (Below.refl _ _)⟩
theorem Iv.lit1 {w:World} {g:Nat} {a:Int} (X:Bl w 3 g [.int .i64 a]):Iv w (.slice (some ⟨g,0,none⟩) 1 1) [a]:=Bl.iv (ks:=[a]) X rfl Yd
theorem Iv.lit2 {w:World} {g:Nat} {a b:Int} (X:Bl w 3 g [.int .i64 a,.int .i64 b]):Iv w (.slice (some ⟨g,0,none⟩) 2 2) [a,b]:=Bl.iv (ks:=[a,b]) X rfl Yd
namespace I
theorem speaks13 {w:World}:Calls Tryz.prog 29 #[] w fun e w'=>e=.returned (.bool true)/\Below w.heap.size w w':=by
 have S0:=Lib.hid (Below.refl w.heap.size w)
 go_enter Tryz.func29,Tryz.ntmps29
 go_wp2_with fail
 refine (whole13 (z:=0) Yd).mono ?_;rintro e w1 ⟨v,rfl,h⟩
 obtain ⟨b8,A8,l8,k8,B8,m8,d8,rfl⟩:=h.parts
 have S1:=Yh2 ((show Fv _ _ (zq (0)) from h.fw.fv)) (Yb S0.out h.below)
 clear h  S0
 go_wp2_with fail
 refine (whole13 (z:=3) Yd).mono ?_;rintro e w2 ⟨v,rfl,h⟩
 obtain ⟨b9,A9,l9,k9,B9,m9,d9,rfl⟩:=h.parts
 have S2:=Yh3 (S1.p0.keep h.below) ((show Fv _ _ (zq (3)) from h.fw.fv)) (Yb S1.q1 h.below)
 clear h  S1
 go_wp2_with fail
 refine (whole13 (z:=2) Yd).mono ?_;rintro e w3 ⟨v,rfl,h⟩
 obtain ⟨b10,A10,l10,k10,B10,m10,d10,rfl⟩:=h.parts
 have S3:=Yh4 (S2.p0.keep h.below) (S2.p1.keep h.below) ((show Fv _ _ (zq (2)) from h.fw.fv)) (Yb S2.q2 h.below)
 clear h  S2
 go_wp2_with fail
 refine (whole13 (z:=0) Yd).mono ?_;rintro e w4 ⟨v,rfl,h⟩
 obtain ⟨b15,A15,l15,k15,B15,m15,d15,rfl⟩:=h.parts
 have S4:=Yh3 ((show Fv _ _ (zq (0)) from h.fw.fv)) (((Wr.lit (nm:=ByteArray.empty) (p:=false) (q:=true) (c:=0) (x:=(⟨b8,A8,l8,k8,B8,m8,d8⟩:Rm)) (y:=(⟨b9,A9,l9,k9,B9,m9,d9⟩:Rm)) (z:=(⟨b10,A10,l10,k10,B10,m10,d10⟩:Rm)) S3.p0 S3.p1 S3.p2).keep h.below)) (Yb S3.q3 (Yb (Yb (Ya _ _) (Ya _ _)) h.below))
 clear h  S3
 go_wp2_with fail
 refine (whole13 (z:=4) Yd).mono ?_;rintro e w5 ⟨v,rfl,h⟩
 obtain ⟨b16,A16,l16,k16,B16,m16,d16,rfl⟩:=h.parts
 have S5:=Yh4 (S4.p0.keep h.below) (S4.p1.keep h.below) ((show Fv _ _ (zq (4)) from h.fw.fv)) (Yb S4.q2 h.below)
 clear h  S4
 go_wp2_with fail
 refine (whole13 (z:=-1) Yd).mono ?_;rintro e w6 ⟨v,rfl,h⟩
 obtain ⟨b17,A17,l17,k17,B17,m17,d17,rfl⟩:=h.parts
 have S6:=Yh5 (S5.p0.keep h.below) (S5.p1.keep h.below) (S5.p2.keep h.below) ((show Fv _ _ (zq (-1)) from h.fw.fv)) (Yb S5.q3 h.below)
 clear h  S5
 go_wp2_with fail
 refine (make_p (p:=pS) ⟨_,_,_,_,_,_,_,_,rfl,(S6.p1).keep (Ya _ _),Vr'.lit (nm:=ByteArray.empty) (wh:=false) (p:=true) (q:=true) (x:=(⟨b15,A15,l15,k15,B15,m15,d15⟩:Rm)) (y:=(⟨b16,A16,l16,k16,B16,m16,d16⟩:Rm)) (z:=(⟨b17,A17,l17,k17,B17,m17,d17⟩:Rm)) S6.p0 S6.p2 S6.p3⟩ fitPS).mono ?_;rintro e w7 ⟨u,rfl,h,hb⟩
 rw [makeS] at h
 obtain ⟨aA,an,ac,bA,bn,bc,cA,cn,cc,dA,dn,dc,eA,en,ec,fA,fn,fc,rfl,-⟩:=h.open
 have S7:=Yh2 h (Yb S6.q4 (Yb (Ya _ _) hb))
 clear h hb  S6
 go_upto_region 2 with (fail)
 have S8:=Yh3 (S7.p0.keep (Ya w7 (.cells #[.int .i64 lS.n,.slice aA an ac,.slice bA bn bc,.slice cA cn cc,.slice dA dn dc,.slice eA en ec,.slice fA fn fc] 26))) (Bl.new w7 26 [.int .i64 lS.n,.slice aA an ac,.slice bA bn bc,.slice cA cn cc,.slice dA dn dc,.slice eA en ec,.slice fA fn fc]) (Yb S7.q1 (Ya w7 (.cells #[.int .i64 lS.n,.slice aA an ac,.slice bA bn bc,.slice cA cn cc,.slice dA dn dc,.slice eA en ec,.slice fA fn fc] 26)))
 clear S7
 obtain ⟨gLP,hgLP⟩:∃ g,g=w7.heap.size:=⟨_,rfl⟩
 rw [<- hgLP] at S8 ⊢
 clear hgLP
 generalize w7.alloc _=V1 at S8 ⊢
 refine flow (fun W=>Yg V1 W/\W.cell? ⟨gLP,0,none⟩=some (.int .i64 lS.n)/\W.cell? ⟨gLP,1,none⟩=some (.slice aA an ac)/\W.cell? ⟨gLP,2,none⟩=some (.slice bA bn bc)/\W.cell? ⟨gLP,3,none⟩=some (.slice cA cn cc)/\W.cell? ⟨gLP,4,none⟩=some (.slice dA dn dc)/\W.cell? ⟨gLP,5,none⟩=some (.slice eA en ec)/\W.cell? ⟨gLP,6,none⟩=some (.slice fA fn fc)) (fun _ _=>True) (fun _ _=>False) 0 [⟨[],[(0,23)],[],[(1,24,fun v W=>∃ g,v=.slice (some ⟨g,0,none⟩) 1 1/\Iv W (.slice (some ⟨g,0,none⟩) 1 1) [1]),(2,25,fun v W=>∃ p A l_ c B k_ d,v=.agg #[.bool p,.slice A l_ c,.slice B k_ d]/\Fv W (.agg #[.bool p,.slice A l_ c,.slice B k_ d]) (zq (4))),(3,26,fun v W=>∃ p A l_ c B k_ d,v=.agg #[.bool p,.slice A l_ c,.slice B k_ d]/\Fv W (.agg #[.bool p,.slice A l_ c,.slice B k_ d]) (zq (8)))]⟩,⟨[(5,28)],[(6,22),(7,29),(8,30),(9,31),(10,2),(11,3),(12,4)],[],[]⟩,⟨[(1,24),(4,27)],[(0,23)],[],[(5,28,fun v W=>v=.tuple #[.int .i64 0,.bool false,.bool true])]⟩,⟨[(2,25),(3,26)],[],[],[(4,27,fun v W=>∃ g,v=.slice (some ⟨g,0,none⟩) 2 2/\Rx W (.slice (some ⟨g,0,none⟩) 2 2) [zq (4),zq (8)])]⟩] [] [] ⟨[(1,24),(2,25),(3,26),(4,27),(5,28)],[(0,23),(6,22),(7,29),(8,30),(9,31),(10,2),(11,3),(12,4)],[],[]⟩ ⟨below_nil,Bl.ld (S8.p1.keep below_nil) 0 rfl,Bl.ld (S8.p1.keep below_nil) 1 rfl,Bl.ld (S8.p1.keep below_nil) 2 rfl,Bl.ld (S8.p1.keep below_nil) 3 rfl,Bl.ld (S8.p1.keep below_nil) 4 rfl,Bl.ld (S8.p1.keep below_nil) 5 rfl,Bl.ld (S8.p1.keep below_nil) 6 rfl⟩ (trivial) (fun _ _ h b=>⟨(Yb h.1 b),Bl.ld (S8.p1.keep (Yb h.1 b)) 0 rfl,Bl.ld (S8.p1.keep (Yb h.1 b)) 1 rfl,Bl.ld (S8.p1.keep (Yb h.1 b)) 2 rfl,Bl.ld (S8.p1.keep (Yb h.1 b)) 3 rfl,Bl.ld (S8.p1.keep (Yb h.1 b)) 4 rfl,Bl.ld (S8.p1.keep (Yb h.1 b)) 5 rfl,Bl.ld (S8.p1.keep (Yb h.1 b)) 6 rfl⟩) (fun _ _ _ h _=>h) ⟨fun _ _ _ ⟨g,e,h⟩ b=>⟨g,e,h.keep b⟩,fun _ _ _ _ h=>h.elim,⟨fun _ _ _ ⟨p,A,l,c,B,k,d,e,h⟩ b=>⟨p,A,l,c,B,k,d,e,h.keep b⟩,fun _ _ _ _ h=>h.elim,⟨fun _ _ _ ⟨p,A,l,c,B,k,d,e,h⟩ b=>⟨p,A,l,c,B,k,d,e,h.keep b⟩,fun _ _ _ _ h=>h.elim,⟨fun _ _ _ h _=>h,fun _ _ _ _ h=>h.elim,⟨fun _ _ _ ⟨g,e,h⟩ b=>⟨g,e,h.keep b⟩,fun _ _ _ _ h=>h.elim,trivial⟩⟩⟩⟩⟩ ⟨?_,?_,?_,?_,trivial⟩ trivial trivial ?_
 · rintro W hS
   refine gvN ?_;(repeat refine flA ?_);refine flN (flN ?_)
   refine flK (fun K hK=>?_) (flK (fun K hK=>?_) (flK (fun K hK=>?_) flL))
   · have hal:=Ya W (.cells #[.int .i64 1] 3)
     go_simp
     exact hK.out _ _ ⟨⟨_,rfl,Iv.lit1 (Bl.new W 3 [.int .i64 1])⟩,hal⟩
   · go_simp
     go_at_call 86;refine (whole13 (z:=4) Yd).mono ?_;rintro e W2 ⟨v,rfl,h⟩;obtain ⟨p,A,l_,c,B,k_,d,rfl⟩:=h.parts
     go_wp2_with fail
     exact hK.out _ _ ⟨⟨_,_,_,_,_,_,_,rfl,h.fw.fv⟩,h.below⟩
   · go_simp
     go_at_call 86;refine (whole13 (z:=8) Yd).mono ?_;rintro e W2 ⟨v,rfl,h⟩;obtain ⟨p,A,l_,c,B,k_,d,rfl⟩:=h.parts
     go_wp2_with fail
     exact hK.out _ _ ⟨⟨_,_,_,_,_,_,_,rfl,h.fw.fv⟩,h.below⟩
 · rintro W hS v5 rfl
   refine gvN ?_;(repeat refine flA ?_);refine flN (flN ?_)
   exact flL
 · rintro W hS v1 ⟨g1,rfl,h1⟩ v4 ⟨g4,rfl,h4⟩
   refine gvN ?_;(repeat refine flA ?_);refine flN (flN ?_)
   refine flK (fun K hK=>?_) flL
   go_simp
   go_at_call 30;refine (leave_v (S8.p0.keep hS.1) h1 h4 fit30S (lens2 Yd Yd) Yd).mono ?_;rintro e W2 ⟨p,up,ok,rfl,hb,h⟩
   have h:=h Yd
   rw [leaveS] at h
   injection h with h1_ h2_;injection h2_ with h2_ h3_;subst h1_;subst h2_;subst h3_
   go_wp2_with fail
   exact hK.out _ _ ⟨rfl,hb⟩
 · rintro W hS v2 ⟨p2,A2,l2,c2,B2,k2,d2,rfl,h2⟩ v3 ⟨p3,A3,l3,c3,B3,k3,d3,rfl,h3⟩
   refine gvN ?_;refine flN (flN ?_)
   refine flK (fun K hK=>?_) flL
   have hal:=Ya W (.cells #[.bool p2,.slice A2 l2 c2,.slice B2 k2 d2,.bool p3,.slice A3 l3 c3,.slice B3 k3 d3] 36)
   go_simp
   exact hK.out _ _ ⟨⟨_,rfl,Rx.two (x:=(⟨p2,A2,l2,c2,B2,k2,d2⟩:Rm)) (y:=(⟨p3,A3,l3,c3,B3,k3,d3⟩:Rm)) (Bl.new W 36 [.bool p2,.slice A2 l2 c2,.slice B2 k2 d2,.bool p3,.slice A3 l3 c3,.slice B3 k3 d3]) (h2.keep hal) (h3.keep hal)⟩,hal⟩
 rintro W hS - v1 ⟨g1,rfl,h1⟩ v2 ⟨p2,A2,l2,c2,B2,k2,d2,rfl,h2⟩ v3 ⟨p3,A3,l3,c3,B3,k3,d3,rfl,h3⟩ v4 ⟨g4,rfl,h4⟩ v5 rfl
 have hS:=hS flY
 refine gvN ?_;(repeat refine flA ?_);refine flN (flN ?_)
 obtain ⟨V2,hWW⟩:∃ X,X=W:=⟨_,rfl⟩
 subst hWW
 have S9:=Yh3 (S8.p0.keep hS.1) (S8.p1.keep hS.1) (Yb S8.q2 hS.1)
 clear hS S8
 go_upto_region 3 with (fail)
 refine flow (fun W=>Yg V2 W/\W.cell? ⟨gLP,0,none⟩=some (.int .i64 lS.n)/\W.cell? ⟨gLP,1,none⟩=some (.slice aA an ac)/\W.cell? ⟨gLP,2,none⟩=some (.slice bA bn bc)/\W.cell? ⟨gLP,3,none⟩=some (.slice cA cn cc)/\W.cell? ⟨gLP,4,none⟩=some (.slice dA dn dc)/\W.cell? ⟨gLP,5,none⟩=some (.slice eA en ec)/\W.cell? ⟨gLP,6,none⟩=some (.slice fA fn fc)) (fun _ _=>True) (fun _ _=>False) 0 [⟨[],[(0,33)],[],[(1,34,fun v W=>∃ g,v=.slice (some ⟨g,0,none⟩) 2 2/\Iv W (.slice (some ⟨g,0,none⟩) 2 2) [2,3]),(2,35,fun v W=>∃ p A l_ c B k_ d,v=.agg #[.bool p,.slice A l_ c,.slice B k_ d]/\Fv W (.agg #[.bool p,.slice A l_ c,.slice B k_ d]) (zq (-1))),(3,36,fun v W=>∃ p A l_ c B k_ d,v=.agg #[.bool p,.slice A l_ c,.slice B k_ d]/\Fv W (.agg #[.bool p,.slice A l_ c,.slice B k_ d]) (zq (0))),(5,38,fun v W=>∃ p A l_ c B k_ d,v=.agg #[.bool p,.slice A l_ c,.slice B k_ d]/\Fv W (.agg #[.bool p,.slice A l_ c,.slice B k_ d]) (zq (-2))),(6,39,fun v W=>∃ p A l_ c B k_ d,v=.agg #[.bool p,.slice A l_ c,.slice B k_ d]/\Fv W (.agg #[.bool p,.slice A l_ c,.slice B k_ d]) (zq (1))),(8,41,fun v W=>∃ p A l_ c B k_ d,v=.agg #[.bool p,.slice A l_ c,.slice B k_ d]/\Fv W (.agg #[.bool p,.slice A l_ c,.slice B k_ d]) (zq (5)))]⟩,⟨[(8,41)],[(9,42)],[],[]⟩,⟨[(10,43)],[(11,32),(12,44),(13,45),(14,46),(15,5),(16,6),(17,7)],[],[]⟩,⟨[(2,35),(3,36)],[],[],[(4,37,fun v W=>∃ g,v=.slice (some ⟨g,0,none⟩) 2 2/\Rx W (.slice (some ⟨g,0,none⟩) 2 2) [zq (-1),zq (0)])]⟩,⟨[(5,38),(6,39)],[],[],[(7,40,fun v W=>∃ g,v=.slice (some ⟨g,0,none⟩) 2 2/\Rx W (.slice (some ⟨g,0,none⟩) 2 2) [zq (-2),zq (1)])]⟩,⟨[(1,34),(4,37),(7,40),(8,41)],[(0,33),(9,42)],[],[(10,43,fun v W=>∃ A c,v=.tuple #[.int .i64 0,.slice A 0 c,.bool true])]⟩] [] [] ⟨[(1,34),(2,35),(3,36),(4,37),(5,38),(6,39),(7,40),(8,41),(10,43)],[(0,33),(9,42),(11,32),(12,44),(13,45),(14,46),(15,5),(16,6),(17,7)],[],[]⟩ ⟨below_nil,Bl.ld (S9.p1.keep below_nil) 0 rfl,Bl.ld (S9.p1.keep below_nil) 1 rfl,Bl.ld (S9.p1.keep below_nil) 2 rfl,Bl.ld (S9.p1.keep below_nil) 3 rfl,Bl.ld (S9.p1.keep below_nil) 4 rfl,Bl.ld (S9.p1.keep below_nil) 5 rfl,Bl.ld (S9.p1.keep below_nil) 6 rfl⟩ (trivial) (fun _ _ h b=>⟨(Yb h.1 b),Bl.ld (S9.p1.keep (Yb h.1 b)) 0 rfl,Bl.ld (S9.p1.keep (Yb h.1 b)) 1 rfl,Bl.ld (S9.p1.keep (Yb h.1 b)) 2 rfl,Bl.ld (S9.p1.keep (Yb h.1 b)) 3 rfl,Bl.ld (S9.p1.keep (Yb h.1 b)) 4 rfl,Bl.ld (S9.p1.keep (Yb h.1 b)) 5 rfl,Bl.ld (S9.p1.keep (Yb h.1 b)) 6 rfl⟩) (fun _ _ _ h _=>h) ⟨fun _ _ _ ⟨g,e,h⟩ b=>⟨g,e,h.keep b⟩,fun _ _ _ _ h=>h.elim,⟨fun _ _ _ ⟨p,A,l,c,B,k,d,e,h⟩ b=>⟨p,A,l,c,B,k,d,e,h.keep b⟩,fun _ _ _ _ h=>h.elim,⟨fun _ _ _ ⟨p,A,l,c,B,k,d,e,h⟩ b=>⟨p,A,l,c,B,k,d,e,h.keep b⟩,fun _ _ _ _ h=>h.elim,⟨fun _ _ _ ⟨p,A,l,c,B,k,d,e,h⟩ b=>⟨p,A,l,c,B,k,d,e,h.keep b⟩,fun _ _ _ _ h=>h.elim,⟨fun _ _ _ ⟨p,A,l,c,B,k,d,e,h⟩ b=>⟨p,A,l,c,B,k,d,e,h.keep b⟩,fun _ _ _ _ h=>h.elim,⟨fun _ _ _ ⟨p,A,l,c,B,k,d,e,h⟩ b=>⟨p,A,l,c,B,k,d,e,h.keep b⟩,fun _ _ _ _ h=>h.elim,⟨fun _ _ _ ⟨g,e,h⟩ b=>⟨g,e,h.keep b⟩,fun _ _ _ _ h=>h.elim,⟨fun _ _ _ ⟨g,e,h⟩ b=>⟨g,e,h.keep b⟩,fun _ _ _ _ h=>h.elim,⟨fun _ _ _ ⟨A,c,h⟩ _=>⟨A,c,h⟩,fun _ _ _ _ h=>h.elim,trivial⟩⟩⟩⟩⟩⟩⟩⟩⟩ ⟨?_,?_,?_,?_,?_,?_,trivial⟩ trivial trivial ?_
 · rintro W hS
   refine gvN ?_;(repeat refine flA ?_);refine flN (flN ?_)
   refine flK (fun K hK=>?_) (flK (fun K hK=>?_) (flK (fun K hK=>?_) (flK (fun K hK=>?_) (flK (fun K hK=>?_) (flK (fun K hK=>?_) flL)))))
   · have hal:=Ya W (.cells #[.int .i64 2,.int .i64 3] 3)
     go_simp
     exact hK.out _ _ ⟨⟨_,rfl,Iv.lit2 (Bl.new W 3 [.int .i64 2,.int .i64 3])⟩,hal⟩
   · go_simp
     go_at_call 86;refine (whole13 (z:=-1) Yd).mono ?_;rintro e W2 ⟨v,rfl,h⟩;obtain ⟨p,A,l_,c,B,k_,d,rfl⟩:=h.parts
     go_wp2_with fail
     exact hK.out _ _ ⟨⟨_,_,_,_,_,_,_,rfl,h.fw.fv⟩,h.below⟩
   · go_simp
     go_at_call 86;refine (whole13 (z:=0) Yd).mono ?_;rintro e W2 ⟨v,rfl,h⟩;obtain ⟨p,A,l_,c,B,k_,d,rfl⟩:=h.parts
     go_wp2_with fail
     exact hK.out _ _ ⟨⟨_,_,_,_,_,_,_,rfl,h.fw.fv⟩,h.below⟩
   · go_simp
     go_at_call 86;refine (whole13 (z:=-2) Yd).mono ?_;rintro e W2 ⟨v,rfl,h⟩;obtain ⟨p,A,l_,c,B,k_,d,rfl⟩:=h.parts
     go_wp2_with fail
     exact hK.out _ _ ⟨⟨_,_,_,_,_,_,_,rfl,h.fw.fv⟩,h.below⟩
   · go_simp
     go_at_call 86;refine (whole13 (z:=1) Yd).mono ?_;rintro e W2 ⟨v,rfl,h⟩;obtain ⟨p,A,l_,c,B,k_,d,rfl⟩:=h.parts
     go_wp2_with fail
     exact hK.out _ _ ⟨⟨_,_,_,_,_,_,_,rfl,h.fw.fv⟩,h.below⟩
   · go_simp
     go_at_call 86;refine (whole13 (z:=5) Yd).mono ?_;rintro e W2 ⟨v,rfl,h⟩;obtain ⟨p,A,l_,c,B,k_,d,rfl⟩:=h.parts
     go_wp2_with fail
     exact hK.out _ _ ⟨⟨_,_,_,_,_,_,_,rfl,h.fw.fv⟩,h.below⟩
 · rintro W hS v8 ⟨p8,A8,l8,c8,B8,k8,d8,rfl,h8⟩
   refine gvN ?_;(repeat refine flA ?_);refine flN (flN ?_)
   exact flL
 · rintro W hS v10 ⟨A10,c10,rfl⟩
   refine gvN ?_;(repeat refine flA ?_);refine flN (flN ?_)
   exact flL
 · rintro W hS v2 ⟨p2,A2,l2,c2,B2,k2,d2,rfl,h2⟩ v3 ⟨p3,A3,l3,c3,B3,k3,d3,rfl,h3⟩
   refine gvN ?_;refine flN (flN ?_)
   refine flK (fun K hK=>?_) flL
   have hal:=Ya W (.cells #[.bool p2,.slice A2 l2 c2,.slice B2 k2 d2,.bool p3,.slice A3 l3 c3,.slice B3 k3 d3] 36)
   go_simp
   exact hK.out _ _ ⟨⟨_,rfl,Rx.two (x:=(⟨p2,A2,l2,c2,B2,k2,d2⟩:Rm)) (y:=(⟨p3,A3,l3,c3,B3,k3,d3⟩:Rm)) (Bl.new W 36 [.bool p2,.slice A2 l2 c2,.slice B2 k2 d2,.bool p3,.slice A3 l3 c3,.slice B3 k3 d3]) (h2.keep hal) (h3.keep hal)⟩,hal⟩
 · rintro W hS v5 ⟨p5,A5,l5,c5,B5,k5,d5,rfl,h5⟩ v6 ⟨p6,A6,l6,c6,B6,k6,d6,rfl,h6⟩
   refine gvN ?_;refine flN (flN ?_)
   refine flK (fun K hK=>?_) flL
   have hal:=Ya W (.cells #[.bool p5,.slice A5 l5 c5,.slice B5 k5 d5,.bool p6,.slice A6 l6 c6,.slice B6 k6 d6] 36)
   go_simp
   exact hK.out _ _ ⟨⟨_,rfl,Rx.two (x:=(⟨p5,A5,l5,c5,B5,k5,d5⟩:Rm)) (y:=(⟨p6,A6,l6,c6,B6,k6,d6⟩:Rm)) (Bl.new W 36 [.bool p5,.slice A5 l5 c5,.slice B5 k5 d5,.bool p6,.slice A6 l6 c6,.slice B6 k6 d6]) (h5.keep hal) (h6.keep hal)⟩,hal⟩
 · rintro W hS v1 ⟨g1,rfl,h1⟩ v4 ⟨g4,rfl,h4⟩ v7 ⟨g7,rfl,h7⟩ v8 ⟨p8,A8,l8,c8,B8,k8,d8,rfl,h8⟩
   refine gvN ?_;(repeat refine flA ?_);refine flN (flN ?_)
   refine flK (fun K hK=>?_) flL
   go_simp
   go_at_call 35;refine (enter_v (up:=false) (flip:=false) (sh:=zq 5) (S9.p0.keep hS.1) h1 h4 h7 h8 fit30S (lens2 Yd Yd) (lens2 Yd Yd) ⟨h8.qv (L:=6) (zq_len (z:=5) Yd).1 (zq_len (z:=5) Yd).2,by rw [zq_q];exact (sz_int (z:=5) Yd).mono Yd⟩ (fun W V xs ha he _=>sortS ha he)).mono ?_;rintro e W2 ⟨cz,fl,ok,fv,rfl,hfv,hb,h⟩
   obtain ⟨Lc,hp,-,hg⟩:=h Yd
   obtain ⟨rr,hr⟩:=candS
   rw [show ([2,3]:List Int).length=2 from rfl,hr] at hp
   rw [List.perm_singleton.1 hp] at hg
   have hg:((0:Int),([]:List Int),true)=(cz,fl,ok):=hg
   injection hg with h1_ h2_;injection h2_ with h2_ h3_;subst h1_;subst h2_;subst h3_
   obtain ⟨A,c,hv,-⟩:=hfv.shape
   subst hv
   go_wp2_with fail
   exact hK.out _ _ ⟨⟨_,_,rfl⟩,hb⟩
 rintro W hS - v1 ⟨g1,rfl,h1⟩ v2 ⟨p2,A2,l2,c2,B2,k2,d2,rfl,h2⟩ v3 ⟨p3,A3,l3,c3,B3,k3,d3,rfl,h3⟩ v4 ⟨g4,rfl,h4⟩ v5 ⟨p5,A5,l5,c5,B5,k5,d5,rfl,h5⟩ v6 ⟨p6,A6,l6,c6,B6,k6,d6,rfl,h6⟩ v7 ⟨g7,rfl,h7⟩ v8 ⟨p8,A8,l8,c8,B8,k8,d8,rfl,h8⟩ v10 ⟨A10,c10,rfl⟩
 have hS:=hS flY
 refine gvN ?_;(repeat refine flA ?_);refine flN (flN ?_)
 obtain ⟨V3,hWW⟩:∃ X,X=W:=⟨_,rfl⟩
 subst hWW
 have S10:=Yh3 (S9.p0.keep hS.1) (S9.p1.keep hS.1) (Yb S9.q2 hS.1)
 clear hS S9
 go_upto_region 4 with (fail)
 refine flow (fun W=>Yg V3 W/\W.cell? ⟨gLP,0,none⟩=some (.int .i64 lS.n)/\W.cell? ⟨gLP,1,none⟩=some (.slice aA an ac)/\W.cell? ⟨gLP,2,none⟩=some (.slice bA bn bc)/\W.cell? ⟨gLP,3,none⟩=some (.slice cA cn cc)/\W.cell? ⟨gLP,4,none⟩=some (.slice dA dn dc)/\W.cell? ⟨gLP,5,none⟩=some (.slice eA en ec)/\W.cell? ⟨gLP,6,none⟩=some (.slice fA fn fc)) (fun _ _=>True) (fun _ _=>False) 0 [⟨[],[(0,47),(1,48),(2,49),(3,50),(4,51),(5,52),(6,53),(7,54),(8,55),(9,56),(10,57),(11,58),(12,59),(13,60),(14,61),(15,62),(16,63),(17,64),(18,65),(19,66),(20,67),(21,68),(22,69)],[],[(23,70,fun v W=>∃ g,v=.slice (some ⟨g,0,none⟩) 2 2/\Iv W (.slice (some ⟨g,0,none⟩) 2 2) [2,3]),(24,71,fun v W=>∃ p A l_ c B k_ d,v=.agg #[.bool p,.slice A l_ c,.slice B k_ d]/\Fv W (.agg #[.bool p,.slice A l_ c,.slice B k_ d]) (zq (-1))),(25,72,fun v W=>∃ p A l_ c B k_ d,v=.agg #[.bool p,.slice A l_ c,.slice B k_ d]/\Fv W (.agg #[.bool p,.slice A l_ c,.slice B k_ d]) (zq (0)))]⟩,⟨[(27,74)],[(0,47),(1,48),(2,49),(3,50),(4,51),(5,52),(6,53),(7,54),(8,55),(9,56),(10,57),(11,58),(12,59),(13,60),(14,61),(15,62),(16,63),(17,64),(18,65),(19,66),(20,67),(21,68),(28,75),(29,0)],[],[]⟩,⟨[(23,70),(26,73)],[(0,47),(1,48),(2,49),(3,50),(4,51),(5,52),(6,53),(7,54),(8,55),(9,56),(10,57),(11,58),(12,59),(13,60),(14,61),(15,62),(16,63),(17,64),(18,65),(19,66),(20,67),(21,68),(22,69)],[],[(27,74,fun v W=>v=.bool true)]⟩,⟨[(24,71),(25,72)],[(0,47),(1,48),(2,49),(3,50),(4,51),(5,52),(6,53),(7,54),(8,55),(9,56),(10,57),(11,58),(12,59),(13,60),(14,61),(15,62),(16,63),(17,64),(18,65),(19,66),(20,67),(21,68)],[],[(26,73,fun v W=>∃ g,v=.slice (some ⟨g,0,none⟩) 2 2/\Rx W (.slice (some ⟨g,0,none⟩) 2 2) [zq (-1),zq (0)])]⟩] [] [] ⟨[(23,70),(24,71),(25,72),(26,73),(27,74)],[(0,47),(1,48),(2,49),(3,50),(4,51),(5,52),(6,53),(7,54),(8,55),(9,56),(10,57),(11,58),(12,59),(13,60),(14,61),(15,62),(16,63),(17,64),(18,65),(19,66),(20,67),(21,68),(22,69),(28,75),(29,0)],[],[]⟩ ⟨below_nil,Bl.ld (S10.p1.keep below_nil) 0 rfl,Bl.ld (S10.p1.keep below_nil) 1 rfl,Bl.ld (S10.p1.keep below_nil) 2 rfl,Bl.ld (S10.p1.keep below_nil) 3 rfl,Bl.ld (S10.p1.keep below_nil) 4 rfl,Bl.ld (S10.p1.keep below_nil) 5 rfl,Bl.ld (S10.p1.keep below_nil) 6 rfl⟩ (trivial) (fun _ _ h b=>⟨(Yb h.1 b),Bl.ld (S10.p1.keep (Yb h.1 b)) 0 rfl,Bl.ld (S10.p1.keep (Yb h.1 b)) 1 rfl,Bl.ld (S10.p1.keep (Yb h.1 b)) 2 rfl,Bl.ld (S10.p1.keep (Yb h.1 b)) 3 rfl,Bl.ld (S10.p1.keep (Yb h.1 b)) 4 rfl,Bl.ld (S10.p1.keep (Yb h.1 b)) 5 rfl,Bl.ld (S10.p1.keep (Yb h.1 b)) 6 rfl⟩) (fun _ _ _ h _=>h) ⟨fun _ _ _ ⟨g,e,h⟩ b=>⟨g,e,h.keep b⟩,fun _ _ _ _ h=>h.elim,⟨fun _ _ _ ⟨p,A,l,c,B,k,d,e,h⟩ b=>⟨p,A,l,c,B,k,d,e,h.keep b⟩,fun _ _ _ _ h=>h.elim,⟨fun _ _ _ ⟨p,A,l,c,B,k,d,e,h⟩ b=>⟨p,A,l,c,B,k,d,e,h.keep b⟩,fun _ _ _ _ h=>h.elim,⟨fun _ _ _ h _=>h,fun _ _ _ _ h=>h.elim,⟨fun _ _ _ ⟨g,e,h⟩ b=>⟨g,e,h.keep b⟩,fun _ _ _ _ h=>h.elim,trivial⟩⟩⟩⟩⟩ ⟨?_,?_,?_,?_,trivial⟩ trivial trivial ?_
 · rintro W hS
   refine gvN ?_;(repeat first|refine flA ?_|refine flB ?_);refine flN (flN ?_)
   refine flK (fun K hK=>?_) (flK (fun K hK=>?_) (flK (fun K hK=>?_) flL))
   · have hal:=Ya W (.cells #[.int .i64 2,.int .i64 3] 3)
     go_simp
     exact hK.out _ _ ⟨⟨_,rfl,Iv.lit2 (Bl.new W 3 [.int .i64 2,.int .i64 3])⟩,hal⟩
   · go_simp
     go_at_call 86;refine (whole13 (z:=-1) Yd).mono ?_;rintro e W2 ⟨v,rfl,h⟩;obtain ⟨p,A,l_,c,B,k_,d,rfl⟩:=h.parts
     go_wp2_with fail
     exact hK.out _ _ ⟨⟨_,_,_,_,_,_,_,rfl,h.fw.fv⟩,h.below⟩
   · go_simp
     go_at_call 86;refine (whole13 (z:=0) Yd).mono ?_;rintro e W2 ⟨v,rfl,h⟩;obtain ⟨p,A,l_,c,B,k_,d,rfl⟩:=h.parts
     go_wp2_with fail
     exact hK.out _ _ ⟨⟨_,_,_,_,_,_,_,rfl,h.fw.fv⟩,h.below⟩
 · rintro W hS v27 rfl
   refine gvN ?_;(repeat first|refine flA ?_|refine flB ?_);refine flN (flN ?_)
   exact flL
 · rintro W hS v23 ⟨g23,rfl,h23⟩ v26 ⟨g26,rfl,h26⟩
   refine gvN ?_;(repeat first|refine flA ?_|refine flB ?_);refine flN (flN ?_)
   refine flK (fun K hK=>?_) flL
   go_simp
   go_at_call 36;refine (feas_v (S10.p0.keep hS.1) h23 h26 fit30S (lens2 Yd Yd)).mono ?_;rintro e W2 ⟨⟨r,rfl,h⟩,hb⟩
   obtain rfl:r=true:=(h Yd).trans feasS
   go_wp2_with fail
   exact hK.out _ _ ⟨rfl,hb⟩
 · rintro W hS v24 ⟨p24,A24,l24,c24,B24,k24,d24,rfl,h24⟩ v25 ⟨p25,A25,l25,c25,B25,k25,d25,rfl,h25⟩
   refine gvN ?_;(repeat first|refine flA ?_|refine flB ?_);refine flN (flN ?_)
   refine flK (fun K hK=>?_) flL
   have hal:=Ya W (.cells #[.bool p24,.slice A24 l24 c24,.slice B24 k24 d24,.bool p25,.slice A25 l25 c25,.slice B25 k25 d25] 36)
   go_simp
   exact hK.out _ _ ⟨⟨_,rfl,Rx.two (x:=(⟨p24,A24,l24,c24,B24,k24,d24⟩:Rm)) (y:=(⟨p25,A25,l25,c25,B25,k25,d25⟩:Rm)) (Bl.new W 36 [.bool p24,.slice A24 l24 c24,.slice B24 k24 d24,.bool p25,.slice A25 l25 c25,.slice B25 k25 d25]) (h24.keep hal) (h25.keep hal)⟩,hal⟩
 rintro W hS - v23 ⟨g23,rfl,h23⟩ v24 ⟨p24,A24,l24,c24,B24,k24,d24,rfl,h24⟩ v25 ⟨p25,A25,l25,c25,B25,k25,d25,rfl,h25⟩ v26 ⟨g26,rfl,h26⟩ v27 rfl
 have hS:=hS flY
 refine gvN ?_;(repeat first|refine flA ?_|refine flB ?_);refine flN (flN ?_)
 go_wp2_with fail
 go_ret
 exact ⟨rfl,Yb S10.q2 hS.1⟩
end I
end
end
section
section
open Go Go.RowKit Go.Proofs Pl
def StandsP (l:LPx) (bs st:List Int):Prop:=st.length=l.cols.length/\(∀ (i:Nat) b,bs[i]?=some b->0<=b/\b<(st.length:Int))/\
 ∀ (i:Nat) s,st[i]?=some s->1<=s/\s<=4/\(s=1->l.hasLo[i]?=some true)/\(s=2->l.hasHi[i]?=some true)/\(s=4->l.hasLo[i]?=some false/\l.hasHi[i]?=some false)
def StB (bs:List Int) (m:Nat) (k:Nat):Prop:=∀ (i:Nat) b,i<k->bs[i]?=some b->0<=b/\b<(m:Int)
def StS (l:LPx) (st:List Int) (k:Nat):Prop:=∀ (i:Nat) s,i<k->st[i]?=some s->1<=s/\s<=4/\(s=1->l.hasLo[i]?=some true)/\(s=2->l.hasHi[i]?=some true)/\(s=4->l.hasLo[i]?=some false/\l.hasHi[i]?=some false)
theorem StB.step {bs:List Int} {m k:Nat} {b:Int} (h:StB bs m k) (hb:bs[k]?=some b) (h1:0<=b/\b<(m:Int)):StB bs m (k+1):=fun i c hi hc=>by
 rcases Nat.lt_or_ge i k with h2 | h2
 · exact h i c h2 hc
 · obtain rfl:i=k:=by omega
   rw [hb] at hc;injection hc with hc;subst hc;exact h1
theorem StS.step {l:LPx} {st:List Int} {k:Nat} {s:Int} (h:StS l st k) (hs:st[k]?=some s) (h1:1<=s/\s<=4/\(s=1->l.hasLo[k]?=some true)/\(s=2->l.hasHi[k]?=some true)/\(s=4->l.hasLo[k]?=some false/\l.hasHi[k]?=some false)):StS l st (k+1):=fun i c hi hc=>by
 rcases Nat.lt_or_ge i k with h2 | h2
 · exact h i c h2 hc
 · obtain rfl:i=k:=by omega
   rw [hs] at hc;injection hc with hc;subst hc;exact h1
theorem stands_of {l:LPx} {bs st:List Int} (h:st.length=l.cols.length) (h1:StB bs st.length bs.length) (h2:StS l st st.length):StandsP l bs st:=
 ⟨h,fun i b hb=>h1 i b (List.getElem?_eq_some_iff.1 hb).1 hb,fun i s hs=>h2 i s (List.getElem?_eq_some_iff.1 hs).1 hs⟩
theorem has_d {w:World} {v:Value} {ks:List Int} {x:Int} (h:Iv w v ks) (h40:ks.length<=1000):
 Calls Tryz.prog 149 #[v,.int .i64 x] w fun e w'=>∃ c:Nat,e=.returned (.int .i64 (c:Int))/\Yg w w':=by
 obtain ⟨A,cap,rfl,-,-⟩:=h.shape
 obtain ⟨n,hn⟩:∃ n,ks.length=n:=⟨_,rfl⟩
 rw [hn] at h40 ⊢
 have HSV:=Lib.hid h
 rw [hn] at HSV
 have HN:=Lib.hid hn
 have H40:=Lib.hid h40
 clear h hn h40
 go_enter Tryz.func149,Tryz.ntmps149
 go_wp2_with fail
 go_loopw [5,6] (fun z y wr=>∃ i c:Nat,z=.int .i64 (c:Int)/\y=.int .i64 (i:Int)/\i<=n/\c<=i/\Hid (Yg w wr)) (fun _ y _=>n - (intOf y).toNat)
 case atStart=>exact ⟨0,0,rfl,rfl,Nat.zero_le _,Nat.zero_le _,Below.refl _ _⟩
 case round=>
  obtain ⟨i,c,rfl,rfl,hi,hc,H⟩:=hrel
  by_cases hlt:i<n
  · skip
    have hix:i<ks.length:=by rw [HN.out];exact hlt
    obtain ⟨z,hz⟩:∃ x,ks[i]?=some x:=⟨_,List.getElem?_eq_getElem hix⟩
    obtain ⟨g,off,_,e,hgl,c0⟩:=(HSV.out.keep H.out).at_ hz
    injection e with e1 e2 e3
    subst e1
    clear e2 e3 hgl hix hz
    have h40:=H40.out
    by_cases hzx:z=x
    · skip
      subst hzx
      go_wp2_with fail
      case roundEnd=>exact ⟨⟨i+1,c+1,by go_num,by go_num,Yo,Yo,H.out⟩,by simp [intOf];omega⟩
    have hzx2:(z==x)=false:=by simp [hzx]
    go_wp2_with fail
    case roundEnd=>exact ⟨⟨i+1,c,rfl,by go_num,Yo,Yo,H.out⟩,by simp [intOf];omega⟩
  obtain rfl:i=n:=by omega
  go_wp2_with fail
  go_ret
  exact ⟨_,rfl,H.out⟩
theorem stands_d {w:World} {v u y:Value} {l:LPx} {bs st:List Int} (h:LPv w v l) (hb:Iv w u bs) (hs:Iv w y st) (hbl:bs.length<=20) (hsl:st.length<=20) (hr1:l.hasLo.length=l.cols.length) (hr2:l.hasHi.length=l.cols.length) (hn0:0<=l.n) (hr3:l.cols.length<=14) (hr4:l.n<=l.cols.length):
 Calls Tryz.prog 91 #[v,u,y] w fun e w'=>Saysb (fun r=>r=true->StandsP l bs st) e/\Yg w w':=by
 obtain ⟨aA,an,ac,bA,bn,bc,cA,cn,cc,dA,dn,dc,eA,en,ec,fA,fn,fc,rfl,hP,hla,hlb,hlc,hld,hle,hlf,hma,hmb,hmc,hmd,hme,hmf⟩:=h.open
 obtain ⟨Au,cu,rfl,-,-⟩:=hb.shape
 obtain ⟨Av,cv,rfl,-,-⟩:=hs.shape
 obtain ⟨n,hn⟩:∃ n,bs.length=n:=⟨_,rfl⟩
 obtain ⟨m,hm⟩:∃ m,st.length=m:=⟨_,rfl⟩
 rw [hn] at hb hbl ⊢
 rw [hm] at hs hsl ⊢
 have HS:=Yh4 hb hs hP.2.1 hP.2.2.1
 have HN:=Yh2 hn hm
 have HL:=Yh5 hla hlb hlc hr1 hr2
 have HR:=Yh2 hn0 (show l.n<=(an:Int) by rw [<- hla];exact hr4)
 have HB20:=Yh2 hbl hsl
 have HAN:Hid (an<=14):=by rw [<- hla];exact hr3
 clear hP hb hs hn hm hla hlb hlc hld hle hlf hma hmb hmc hmd hme hmf h hr1 hr2 hn0 hbl hsl hr3 hr4
 change Calls Tryz.prog 91 #[.agg #[.int .i64 l.n,.slice aA an ac,.slice bA bn bc,.slice cA cn cc,.slice dA dn dc,.slice eA en ec,.slice fA fn fc],.slice Au n cu,.slice Av m cv] w _
 go_enter Tryz.func91,Tryz.ntmps91
 go_upto_region 1 with (fail)
 obtain ⟨hX,hB⟩:=box1 w 26 [.int .i64 l.n,.slice aA an ac,.slice bA bn bc,.slice cA cn cc,.slice dA dn dc,.slice eA en ec,.slice fA fn fc]
 have HX:=Yh2 hX hB
 clear hX hB
 generalize w.alloc _=W0 at HX ⊢
 have l0:=Bl.ld HX.p0 0 rfl
 have l1:=Bl.ld HX.p0 1 rfl
 have l2:=Bl.ld HX.p0 2 rfl
 have l3:=Bl.ld HX.p0 3 rfl
 have l4:=Bl.ld HX.p0 4 rfl
 have l5:=Bl.ld HX.p0 5 rfl
 have l6:=Bl.ld HX.p0 6 rfl
 by_cases h1:m=an
 · skip
   obtain ⟨d,hd⟩:∃ d:Int,(an:Int) - l.n=d:=⟨_,rfl⟩
   have hnw:IntKind.i64.wrap ((an:Int) - l.n)=d:=by rw [hd];exact IntWalk.i64_in _ (by have:=HAN.out;have:=HR.out;omega)
   clear hd
   by_cases h2:(n:Int)=d
   · skip
     subst h1
     have h2b:((n:Int) !=d)=false:=by simp [h2]
     clear h2
     go_wp2_with fail
     go_loopw [7] (fun z wr=>∃ k:Nat,z=.int .i64 (k:Int)/\k<=n/\Hid (StB bs m k/\Yg W0 wr)) (fun z _=>n - (intOf z).toNat)
     case atStart=>exact ⟨0,rfl,Nat.zero_le _,fun i b hi=>by omega,Below.refl _ _⟩
     case round=>
      obtain ⟨k,rfl,hk,H⟩:=hrel
      have hb20:=HB20.out
      by_cases hlt:k<n
      · skip
        have hkb:k<bs.length:=by rw [HN.p0];exact hlt
        obtain ⟨c1,hc1⟩:∃ x,bs[k]?=some x:=⟨_,List.getElem?_eq_getElem hkb⟩
        have HIB:=Lib.hid ((HS.p0.keep HX.q1).keep H.q1)
        obtain ⟨gu,ou,_,e,hgu,cu0⟩:=HIB.out.at_ hc1
        injection e with e1 e2 e3
        subst e1
        clear e2 e3
        have HC1:=Lib.hid hc1
        clear hc1 hkb hgu
        by_cases hn0:c1<0
        · skip
          go_wp2_with fail
          go_ret
          exact ⟨⟨_,rfl,fun h=>by cases h⟩,Yb HX.q1 H.q1⟩
        by_cases hn1:(m:Int)<=c1
        · skip
          go_wp2_with fail
          go_ret
          exact ⟨⟨_,rfl,fun h=>by cases h⟩,Yb HX.q1 H.q1⟩
        go_wp2_with fail
        refine (has_d HIB.out (by have:=HN.p0;have:=HB20.p0;omega)).mono ?_;rintro e w2 ⟨cq,rfl,hb⟩
        have H2:=Lib.hid (Yb H.q1 hb)
        clear hb cu0
        by_cases hcc:1<(cq:Int)
        · skip
          go_wp2_with fail
          go_ret
          exact ⟨⟨_,rfl,fun h=>by cases h⟩,Yb HX.q1 H2.out⟩
        go_wp2_with fail
        case roundEnd=>exact ⟨⟨k+1,by go_num,Yo,H.p0.step HC1.out ⟨Yo,Yo⟩,H2.out⟩,by simp [intOf];omega⟩
      obtain rfl:k=n:=by omega
      have HSB:=Lib.hid H.p0
      have B1:=Lib.hid H.q1
      clear H l0 l1 l2 l3 l4 l5 l6
      go_wp2_with fail
      go_loopw [8] (fun z w2=>∃ k:Nat,z=.int .i64 (k:Int)/\k<=m/\Hid (StS l st k/\Yg W0 w2)) (fun z _=>m - (intOf z).toNat)
      case atStart=>exact ⟨0,rfl,Nat.zero_le _,fun i b hi=>by omega,B1.out⟩
      case round=>
       obtain ⟨k2,rfl,hk2,H⟩:=hrel
       have hb20:=HB20.out
       by_cases hlt2:k2<m
       · skip
         have HST:=Lib.hid H.p0
         have HIB:=Lib.hid ((HS.p0.keep HX.q1).keep H.q1)
         go_wp2_with fail
         refine (has_d HIB.out (by have:=HN.p0;have:=HB20.p0;omega)).mono ?_;rintro e w3 ⟨cq,rfl,hb⟩
         have H2:=Lib.hid (Yb H.q1 hb)
         clear hb
         have hkb:k2<st.length:=by rw [HN.q1];exact hlt2
         obtain ⟨c1,hc1⟩:∃ x,st[k2]?=some x:=⟨_,List.getElem?_eq_getElem hkb⟩
         obtain ⟨gu,ou,_,e,hgu,cu0⟩:=((HS.p1.keep HX.q1).keep H2.out).at_ hc1
         injection e with e1 e2 e3
         subst e1
         clear e2 e3
         have HC1:=Lib.hid hc1
         have ixb:k2<bn:=by have:=HL.out;omega
         obtain ⟨tb,htb⟩:∃ t,l.hasLo[k2]?=some t:=⟨_,List.getElem?_eq_getElem (by have:=HL.out;omega)⟩
         obtain ⟨gb,ob,_,e,hgb,zb0⟩:=((HS.p2.keep HX.q1).keep H2.out).at_ htb
         rw [HL.p1] at e
         injection e with e1 e2 e3
         subst e1
         clear e2 e3
         have iyb:(k2:Int)<(bn:Int):=Yo
         have ixc:k2<cn:=by have:=HL.out;omega
         obtain ⟨tc,htc⟩:∃ t,l.hasHi[k2]?=some t:=⟨_,List.getElem?_eq_getElem (by have:=HL.out;omega)⟩
         obtain ⟨gc,oc,_,e,hgc,zc0⟩:=((HS.q3.keep HX.q1).keep H2.out).at_ htc
         rw [HL.p2] at e
         injection e with e1 e2 e3
         subst e1
         clear e2 e3
         have iyc:(k2:Int)<(cn:Int):=Yo
         have HT:=Yh2 htb htc
         clear hc1 hkb hgu htb htc hgb hgc H
         have HX2:Bl w3 26 w.heap.size [.int .i64 l.n,.slice aA m ac,.slice (some ⟨gb,ob,none⟩) bn bc,.slice (some ⟨gc,oc,none⟩) cn cc,.slice dA dn dc,.slice eA en ec,.slice fA fn fc]:=HX.p0.keep H2.out
         have l0:=Bl.ld HX2 0 rfl
         have l1:=Bl.ld HX2 1 rfl
         have l2:=Bl.ld HX2 2 rfl
         have l3:=Bl.ld HX2 3 rfl
         have l4:=Bl.ld HX2 4 rfl
         have l5:=Bl.ld HX2 5 rfl
         have l6:=Bl.ld HX2 6 rfl
         clear HX2
         obtain ⟨bi,hbi⟩:∃ b,((cq:Int)==1)=b:=⟨_,rfl⟩
         by_cases hd1:c1<1
         · skip
           have hd3:(c1==3)=false:=by simp;omega
           cases bi with
           | true=>
            go_wp2_with fail
            go_ret
            exact ⟨⟨_,rfl,fun h=>by cases h⟩,Yb HX.q1 H2.out⟩
           | false=>
            go_wp2_with fail
            go_ret
            exact ⟨⟨_,rfl,fun h=>by cases h⟩,Yb HX.q1 H2.out⟩
         by_cases hd4:4<c1
         · skip
           have hd3:(c1==3)=false:=by simp;omega
           cases bi with
           | true=>
            go_wp2_with fail
            go_ret
            exact ⟨⟨_,rfl,fun h=>by cases h⟩,Yb HX.q1 H2.out⟩
           | false=>
            go_wp2_with fail
            go_ret
            exact ⟨⟨_,rfl,fun h=>by cases h⟩,Yb HX.q1 H2.out⟩
         obtain rfl | rfl | rfl | rfl:c1=1∨c1=2∨c1=3∨c1=4:=by omega
         · skip
           cases bi with
           | true=>
            go_wp2_with fail
            go_ret
            exact ⟨⟨_,rfl,fun h=>by cases h⟩,Yb HX.q1 H2.out⟩
           | false=>
            cases tb with
            | true=>
             go_wp2_with fail
             case roundEnd=>exact ⟨⟨k2+1,by go_num,Yo,HST.out.step HC1.out ⟨Yd,Yd,fun _=>HT.p0,(fun h=>by cases h),(fun h=>by cases h)⟩,H2.out⟩,by simp [intOf];omega⟩
            | false=>
             go_wp2_with fail
             go_ret
             exact ⟨⟨_,rfl,fun h=>by cases h⟩,Yb HX.q1 H2.out⟩
         · skip
           cases bi with
           | true=>
            go_wp2_with fail
            go_ret
            exact ⟨⟨_,rfl,fun h=>by cases h⟩,Yb HX.q1 H2.out⟩
           | false=>
            cases tc with
            | true=>
             go_wp2_with fail
             case roundEnd=>exact ⟨⟨k2+1,by go_num,Yo,HST.out.step HC1.out ⟨Yd,Yd,(fun h=>by cases h),fun _=>HT.q1,(fun h=>by cases h)⟩,H2.out⟩,by simp [intOf];omega⟩
            | false=>
             go_wp2_with fail
             go_ret
             exact ⟨⟨_,rfl,fun h=>by cases h⟩,Yb HX.q1 H2.out⟩
         · skip
           cases bi with
           | true=>
            go_wp2_with fail
            case roundEnd=>exact ⟨⟨k2+1,by go_num,Yo,HST.out.step HC1.out ⟨Yd,Yd,(fun h=>by cases h),(fun h=>by cases h),(fun h=>by cases h)⟩,H2.out⟩,by simp [intOf];omega⟩
           | false=>
            go_wp2_with fail
            go_ret
            exact ⟨⟨_,rfl,fun h=>by cases h⟩,Yb HX.q1 H2.out⟩
         cases bi with
         | true=>
          go_wp2_with fail
          go_ret
          exact ⟨⟨_,rfl,fun h=>by cases h⟩,Yb HX.q1 H2.out⟩
         | false=>
          cases tb with
          | true=>
           go_wp2_with fail
           go_ret
           exact ⟨⟨_,rfl,fun h=>by cases h⟩,Yb HX.q1 H2.out⟩
          | false=>
           cases tc with
           | true=>
            go_wp2_with fail
            go_ret
            exact ⟨⟨_,rfl,fun h=>by cases h⟩,Yb HX.q1 H2.out⟩
           | false=>
            go_wp2_with fail
            case roundEnd=>exact ⟨⟨k2+1,by go_num,Yo,HST.out.step HC1.out ⟨Yd,Yd,(fun h=>by cases h),(fun h=>by cases h),fun _=>⟨HT.p0,HT.q1⟩⟩,H2.out⟩,by simp [intOf];omega⟩
       obtain rfl:k2=m:=by omega
       go_wp2_with fail
       go_ret
       exact ⟨⟨_,rfl,fun _=>stands_of (by rw [HN.q1,HL.p0]) (by rw [HN.p0,HN.q1];exact HSB.out) (by rw [HN.q1];exact H.p0)⟩,Yb HX.q1 H.q1⟩
   have h2b:((n:Int) !=d)=true:=by simp [h2]
   subst h1
   go_wp2_with fail
   go_ret
   exact ⟨⟨_,rfl,fun h=>by cases h⟩,Yb HX.q1 (Below.refl _ _)⟩
 have h1b:((m:Int) !=(an:Int))=true:=by simp;omega
 go_wp2_with fail
 go_ret
 exact ⟨⟨_,rfl,fun h=>by cases h⟩,Yb HX.q1 (Below.refl _ _)⟩
end
end
end Go.Proofs.YtaajajngnmaggaaGreat
