import Derived.Test.YtaajajngnmaggaaGreatENA29
import Derived.ProofKit
import Derived.HandedShaped
import Derived.WideKeyArgs
import Derived.ChangeSame
set_option maxRecDepth 100000
set_option maxHeartbeats 8000000
set_option linter.unusedVariables false
set_option linter.unusedSimpArgs false
namespace Go.Proofs.YtaajajngnmaggaaGreat
section
open Go Go.ChangeShapes Go.WideShapes Go.ChangeAt Go.RowKit Pl
section
variable {H:Type} {enc:TypeId × Value->H} {W W':World} {base:Nat} {v:Value} {d:DataW H} {p:List MemPlace}
theorem struct7 {P:Program} {w:World} {b:Nat} {sp:Nat->Bool} {hd:Bool} {t:TypeId} {f0 f1 f2 f3 f4 f5 f6:Field} {fuel:Nat} {cs:List Value} {x:DataW H × List MemPlace} (ht:P.underlying t=some (.struct #[f0,f1,f2,f3,f4,f5,f6])) (h:DataW.trod enc P w b sp hd fuel t cs=some x):
 ∃ y0 y1 y2 y3 y4 y5 y6 n,x.1=.agg [y0.1,y1.1,y2.1,y3.1,y4.1,y5.1,y6.1]/\cs.length=P.cellsOf t/\DataW.trod enc P w b sp hd n f0.type ((cs.drop f0.offset).take (P.cellsOf f0.type))=some y0/\DataW.trod enc P w b sp hd n f1.type ((cs.drop f1.offset).take (P.cellsOf f1.type))=some y1/\DataW.trod enc P w b sp hd n f2.type ((cs.drop f2.offset).take (P.cellsOf f2.type))=some y2/\DataW.trod enc P w b sp hd n f3.type ((cs.drop f3.offset).take (P.cellsOf f3.type))=some y3/\DataW.trod enc P w b sp hd n f4.type ((cs.drop f4.offset).take (P.cellsOf f4.type))=some y4/\DataW.trod enc P w b sp hd n f5.type ((cs.drop f5.offset).take (P.cellsOf f5.type))=some y5/\DataW.trod enc P w b sp hd n f6.type ((cs.drop f6.offset).take (P.cellsOf f6.type))=some y6:=by
 obtain ⟨xs,n,_,rfl,hl,hlen,hf⟩:=DataW.trod_struct ht h
 match xs,hlen with
 | [y0,y1,y2,y3,y4,y5,y6],_=>exact ⟨y0,y1,y2,y3,y4,y5,y6,n,by simp,hl,by simpa using hf 0 f0 rfl,by simpa using hf 1 f1 rfl,by simpa using hf 2 f2 rfl,by simpa using hf 3 f3 rfl,by simpa using hf 4 f4 rfl,by simpa using hf 5 f5 rfl,by simpa using hf 6 f6 rfl⟩
theorem list3 {α:Type} {l:List α} (h:l.length=3):∃ a b c,l=[a,b,c]:=by
 match l,h with
 | [a,b,c],_=>exact ⟨a,b,c,rfl⟩
theorem list4 {α:Type} {l:List α} (h:l.length=4):∃ a b c d,l=[a,b,c,d]:=by
 match l,h with
 | [a,b,c,d],_=>exact ⟨a,b,c,d,rfl⟩
theorem list7 {α:Type} {l:List α} (h:l.length=7):∃ a b c d e f g,l=[a,b,c,d,e,f,g]:=by
 match l,h with
 | [a,b,c,d,e,f,g],_=>exact ⟨a,b,c,d,e,f,g,rfl⟩
theorem zip_of {α β:Type} {P:α->β->Prop}:∀ {xs:List α},(∀ x∈xs,∃ y,P x y)->∃ ys,Zip2 P xs ys
 | [],_=>⟨[],Zip2.nil⟩
 | x::xs,h=>by
  obtain ⟨y,hy⟩:=h x (List.mem_cons_self ..)
  obtain ⟨ys,hl,hz⟩:=zip_of fun z hz=>h z (List.mem_cons_of_mem _ hz)
  refine ⟨y::ys,by simp [hl],fun i a b ha hb=>?_⟩
  cases i with
  | zero=>rw [List.getElem?_cons_zero] at ha hb;cases ha;cases hb;exact hy
  | succ i=>rw [List.getElem?_cons_succ] at ha hb;exact hz i a b ha hb
theorem zip_mem {α β:Type} {P:α->β->Prop} {xs:List α} {ys:List β} (h:Zip2 P xs ys) {y:β} (hy:y∈ys):∃ x∈xs,P x y:=by
 obtain ⟨i,hi⟩:=List.getElem?_of_mem hy
 obtain ⟨x,hx,hp⟩:=h.left hi
 exact ⟨x,List.mem_of_getElem? hx,hp⟩
def wcs (n:Nat):List Value:=[.int .u64 (n:Int)]
theorem word_reach {n:Nat} (h:n*Tryz.prog.bytesOf 125<=reachBytes):n<=17592186044416:=by
 rw [show Tryz.prog.bytesOf 125=8 by kernel_rfl] at h
 unfold reachBytes at h;omega
set_option maxRecDepth 1000000 in
theorem words_w {fuel:Nat} {y:DataW H × List MemPlace} (h:DataW.trod enc Tryz.prog W 0 (fun _=>true) true fuel 32 [v]=some y):∃ xs,Nl W v xs/\(Wg 32 y.1->xs.length<=17592186044416):=by
 obtain ⟨xs,⟨A,cap,e1,h2,h3,h4,h5⟩,h6,h7⟩:=row_of (α:=Nat) (s:=1) wcs (fun x _=>x<WB) Tryz.underlying32 (by kernel_rfl) (fun _=>rfl) Yd (fun n cs z hl hz=>by
  obtain ⟨k,hk,-,hw⟩:=DataW.trod_int Tryz.underlying125 hz
  have hb:=bounds_u64 hw
  refine ⟨k.toNat,?_,by rw [WB_eq];omega⟩
  rw [hk]
  show [Value.int .u64 ((k.toNat:Nat):Int)]=_
  rw [Int.toNat_of_nonneg hb.1]) h
 refine ⟨xs,⟨A,cap,e1,⟨fun x hx=>?_,?_⟩,h2,h3,h4⟩,fun hw=>word_reach (h6 hw).1⟩
 · obtain ⟨_,hd⟩:=h7 x hx;exact hd
 · rcases h5 with h5 | ⟨g,o,e,hg,hc⟩
   · left
     have:=congrArg List.length h5
     rw [flat_len (s:=1) (fun _=>rfl)] at this
     exact List.eq_nil_of_length_eq_zero (by simpa using this)
   · exact .inr ⟨g,o,e,fun j x hj=>by
      have:=flat_at (f:=wcs) (s:=1) (fun _=>rfl) hj (j:=0) (u:=.int .u64 (x:Int)) rfl
      rw [Nat.mul_one,Nat.add_zero] at this
      exact hc j _ this⟩
def Cnt (f:Fx):Prop:=f.xs.length<=17592186044416/\f.ds.length<=17592186044416
set_option maxRecDepth 1000000 in
theorem rat_cells {n:Nat} {cs:List Value} {z:DataW H × List MemPlace} (h:DataW.trod enc Tryz.prog W 0 (fun _=>true) true n 36 cs=some z):∃ x:Rm,x.cs=cs/\∃ f,Fv W x.num f/\(Wg 36 z.1->Cnt f):=by
 obtain ⟨y0,y1,m,rfl,hl,h0,h1⟩:=trod_struct2 Tryz.underlying36 h
 obtain ⟨c0,c1,c2,rfl⟩:=list3 (hl.trans (show Tryz.prog.cellsOf 36=3 by kernel_rfl))
 have e0:Tryz.prog.cellsOf 34=2:=by kernel_rfl
 have e1:Tryz.prog.cellsOf 32=1:=by kernel_rfl
 simp only [e0,e1] at h0 h1
 obtain ⟨z0,z1,k,rfl,-,g0,g1⟩:=trod_struct2 Tryz.underlying34 h0
 have e2:Tryz.prog.cellsOf 4=1:=by kernel_rfl
 simp only [e1,e2] at g0 g1
 obtain ⟨b,e3,-⟩:=DataW.trod_bool Tryz.underlying4 g0
 obtain rfl:c0=.bool b:=by simpa using e3
 obtain ⟨xs,hxs,b1⟩:=words_w (v:=c1) (by simpa using g1)
 obtain ⟨ds,hds,b2⟩:=words_w (v:=c2) (by simpa using h1)
 obtain ⟨A,c,rfl,-⟩:=hxs.shape
 obtain ⟨B,k',rfl,-⟩:=hds.shape
 refine ⟨⟨b,A,xs.length,c,B,ds.length,k'⟩,rfl,⟨b,xs,ds⟩,⟨_,_,rfl,hxs,hds⟩,fun hw=>?_⟩
 have w0:=Wg.agg Tryz.underlying36 hw
 obtain ⟨w1,w2⟩:=each_cons w0
 obtain ⟨w3,-⟩:=each_cons w2
 have w4:=Wg.agg Tryz.underlying34 w1
 obtain ⟨-,w5⟩:=each_cons w4
 obtain ⟨w6,-⟩:=each_cons w5
 exact ⟨b1 w6,b2 w3⟩
instance:Inhabited Rm:=⟨⟨false,none,0,0,none,0,0⟩⟩
instance:Inhabited Tm:=⟨⟨0,false,none,0,0,none,0,0,0⟩⟩
instance:Inhabited Sl:=⟨⟨none,0,0⟩⟩
instance:Inhabited Um:=⟨⟨0,false,false,none,0,0,none,0,0⟩⟩
theorem cells_int:Tryz.prog.cellsOf 3=1:=by kernel_rfl
theorem cells_rat:Tryz.prog.cellsOf 36=3:=by kernel_rfl
set_option maxRecDepth 1000000 in
theorem rats_w {fuel:Nat} {y:DataW H × List MemPlace} (h:DataW.trod enc Tryz.prog W 0 (fun _=>true) true fuel 24 [v]=some y):∃ fs,Rx W v fs/\(Wg 24 y.1->∀ f∈fs,Cnt f):=by
 obtain ⟨xs,h1,h2,h3⟩:=row_of (α:=Rm) (s:=3) Rm.cs (fun x d=>∃ f,Fv W x.num f/\(Wg 36 d->Cnt f)) Tryz.underlying24 cells_rat Rm.len Yd (fun n cs z hl hz=>rat_cells hz) h
 by_cases hw:Wg 24 y.1
 · obtain ⟨fs,hz⟩:=zip_of (P:=fun (x:Rm) f=>Fv W x.num f/\Cnt f) (fun x hx=>by
    obtain ⟨d,⟨f,hf1,hf2⟩,hd⟩:=(h2 hw).2 x hx
    exact ⟨f,hf1,hf2 hd⟩)
   exact ⟨fs,⟨xs,h1,hz.imp fun x f hf=>hf.1⟩,fun _ f hf=>by obtain ⟨x,-,hx⟩:=zip_mem hz hf;exact hx.2⟩
 · obtain ⟨fs,hz⟩:=zip_of (P:=fun (x:Rm) f=>Fv W x.num f) (fun x hx=>by
    obtain ⟨d,f,hf1,-⟩:=h3 x hx
    exact ⟨f,hf1⟩)
   exact ⟨fs,⟨xs,h1,hz⟩,fun hw'=>absurd hw' hw⟩
set_option maxRecDepth 1000000 in
theorem term_cells {n:Nat} {cs:List Value} {z:DataW H × List MemPlace} (h:DataW.trod enc Tryz.prog W 0 (fun _=>true) true n 63 cs=some z):∃ x:Tm,x.cs=cs/\∃ t:Int × Fx,(x.c=t.1/\x.q=t.2.q/\Fv W x.num t.2)/\(Wg 63 z.1->Cnt t.2):=by
 obtain ⟨y0,y1,m,rfl,hl,h0,h1⟩:=trod_struct2 Tryz.underlying63 h
 obtain ⟨c0,c1,c2,c3,rfl⟩:=list4 (hl.trans (show Tryz.prog.cellsOf 63=4 by kernel_rfl))
 simp only [cells_int,cells_rat] at h0 h1
 obtain ⟨k,e0,-,-⟩:=DataW.trod_int Tryz.underlying3 h0
 obtain rfl:c0=.int .i64 k:=by simpa using e0
 obtain ⟨x,hx,f,hf,hc⟩:=rat_cells h1
 have hx0:x.cs=[c1,c2,c3]:=by simpa using hx
 have hx:[.bool x.b,.slice x.A x.l x.k,.slice x.B x.m x.d]=[c1,c2,c3]:=hx0
 injection hx with e1 hx
 injection hx with e2 hx
 injection hx with e3 hx
 subst e1;subst e2;subst e3
 refine ⟨⟨k,x.b,x.A,x.l,x.k,x.B,x.m,x.d,f.q⟩,rfl,(k,f),⟨rfl,rfl,hf⟩,fun hw=>?_⟩
 have w0:=Wg.agg Tryz.underlying63 hw
 obtain ⟨-,w2⟩:=each_cons w0
 obtain ⟨w3,-⟩:=each_cons w2
 exact hc w3
set_option maxRecDepth 1000000 in
theorem terms_w {fuel:Nat} {y:DataW H × List MemPlace} (h:DataW.trod enc Tryz.prog W 0 (fun _=>true) true fuel 54 [v]=some y):∃ ts,Tx W v ts/\(Wg 54 y.1->∀ t∈ts,Cnt t.2):=by
 obtain ⟨xs,h1,h2,h3⟩:=row_of (α:=Tm) (s:=4) Tm.cs (fun x d=>∃ t:Int × Fx,(x.c=t.1/\x.q=t.2.q/\Fv W x.num t.2)/\(Wg 63 d->Cnt t.2)) Tryz.underlying54 (by kernel_rfl) Tm.len Yd (fun n cs z hl hz=>term_cells hz) h
 by_cases hw:Wg 54 y.1
 · obtain ⟨fs,hz⟩:=zip_of (P:=fun (x:Tm) (t:Int × Fx)=>(x.c=t.1/\x.q=t.2.q/\Fv W x.num t.2)/\Cnt t.2) (fun x hx=>by
    obtain ⟨d,⟨f,hf1,hf2⟩,hd⟩:=(h2 hw).2 x hx
    exact ⟨f,hf1,hf2 hd⟩)
   exact ⟨fs,⟨xs,h1,hz.imp fun x f hf=>hf.1⟩,fun _ f hf=>by obtain ⟨x,-,hx⟩:=zip_mem hz hf;exact hx.2⟩
 · obtain ⟨fs,hz⟩:=zip_of (P:=fun (x:Tm) (t:Int × Fx)=>(x.c=t.1/\x.q=t.2.q/\Fv W x.num t.2)) (fun x hx=>by
    obtain ⟨d,f,hf1,-⟩:=h3 x hx
    exact ⟨f,hf1⟩)
   exact ⟨fs,⟨xs,h1,hz⟩,fun hw'=>absurd hw' hw⟩
set_option maxRecDepth 1000000 in
theorem cols_w {fuel:Nat} {y:DataW H × List MemPlace} (h:DataW.trod enc Tryz.prog W 0 (fun _=>true) true fuel 22 [v]=some y):∃ cs,Gx W v cs/\(Wg 22 y.1->∀ c∈cs,∀ t∈c,Cnt t.2):=by
 obtain ⟨xs,h1,h2,h3⟩:=row_of (α:=Sl) (s:=1) Sl.cs (fun x d=>∃ ts,Tx W x.v ts/\(Wg 54 d->∀ t∈ts,Cnt t.2)) Tryz.underlying22 (by kernel_rfl) Sl.len Yd (fun n cs z hl hz=>by
  match cs,hl with
  | [c],_=>
   obtain ⟨ts,ht,hw⟩:=terms_w hz
   obtain ⟨A,cap,rfl,-⟩:=ht.shape
   exact ⟨⟨A,ts.length,cap⟩,rfl,ts,ht,hw⟩) h
 by_cases hw:Wg 22 y.1
 · obtain ⟨fs,hz⟩:=zip_of (P:=fun (x:Sl) (ts:List (Int × Fx))=>Tx W x.v ts/\∀ t∈ts,Cnt t.2) (fun x hx=>by
    obtain ⟨d,⟨f,hf1,hf2⟩,hd⟩:=(h2 hw).2 x hx
    exact ⟨f,hf1,hf2 hd⟩)
   exact ⟨fs,⟨xs,h1,hz.imp fun x f hf=>hf.1⟩,fun _ f hf=>by obtain ⟨x,-,hx⟩:=zip_mem hz hf;exact hx.2⟩
 · obtain ⟨fs,hz⟩:=zip_of (P:=fun (x:Sl) (ts:List (Int × Fx))=>Tx W x.v ts) (fun x hx=>by
    obtain ⟨d,f,hf1,-⟩:=h3 x hx
    exact ⟨f,hf1⟩)
   exact ⟨fs,⟨xs,h1,hz⟩,fun hw'=>absurd hw' hw⟩
set_option maxRecDepth 1000000 in
theorem bools_w {fuel:Nat} {y:DataW H × List MemPlace} (h:DataW.trod enc Tryz.prog W 0 (fun _=>true) true fuel 23 [v]=some y):∃ bs,Ex W v bs/\(Wg 23 y.1->bs.length<=140737488355328):=by
 obtain ⟨xs,h1,h2,-⟩:=row_of (α:=Bool) (s:=1) bcs (fun _ _=>True) Tryz.underlying23 (by kernel_rfl) bcs_len Yd (fun n cs z hl hz=>by
  obtain ⟨b,e,-⟩:=DataW.trod_bool Tryz.underlying4 hz
  exact ⟨b,e.symm,trivial⟩) h
 exact ⟨xs,h1,fun hw=>by
  have:=(h2 hw).1
  rw [show Tryz.prog.bytesOf 4=1 by kernel_rfl] at this
  unfold reachBytes at this;omega⟩
theorem cells_sl1:Tryz.prog.cellsOf 22=1:=by kernel_rfl
theorem cells_sl2:Tryz.prog.cellsOf 23=1:=by kernel_rfl
theorem cells_sl3:Tryz.prog.cellsOf 24=1:=by kernel_rfl
set_option maxRecDepth 1000000 in
theorem lp_arg (hval:Value.okWide Tryz.prog W .any base 26 v) (h:DataW.Trod enc Tryz.prog W 0 (fun _=>true) true 26 v d p):∃ l,LPv W v l/\(Wg 26 d->Sane l/\l.hasLo.length<=140737488355328/\l.hasHi.length<=140737488355328):=by
 obtain ⟨cs,rfl,hsz⟩:=okWide_struct Tryz.underlying26 hval
 obtain ⟨fuel,hf⟩:=h
 obtain ⟨y0,y1,y2,y3,y4,y5,y6,n,hx,hl,h0,h1,h2,h3,h4,h5,h6⟩:=struct7 Tryz.underlying26 hf
 obtain ⟨l⟩:=cs
 have hl:l.length=7:=hsz.trans (show Tryz.prog.cellsOf 26=7 by kernel_rfl)
 obtain ⟨c0,c1,c2,c3,c4,c5,c6,rfl⟩:=list7 hl
 simp only [cells_int,cells_sl1,cells_sl2,cells_sl3] at h0 h1 h2 h3 h4 h5 h6
 obtain ⟨k,e0,-,-⟩:=DataW.trod_int Tryz.underlying3 h0
 obtain rfl:c0=.int .i64 k:=by simpa [Value.cells] using e0
 obtain ⟨cols,g1,w1⟩:=cols_w (v:=c1) (by simpa [Value.cells] using h1)
 obtain ⟨bl,g2,w2⟩:=bools_w (v:=c2) (by simpa [Value.cells] using h2)
 obtain ⟨bh,g3,w3⟩:=bools_w (v:=c3) (by simpa [Value.cells] using h3)
 obtain ⟨lo,g4,w4⟩:=rats_w (v:=c4) (by simpa [Value.cells] using h4)
 obtain ⟨hi,g5,w5⟩:=rats_w (v:=c5) (by simpa [Value.cells] using h5)
 obtain ⟨co,g6,w6⟩:=rats_w (v:=c6) (by simpa [Value.cells] using h6)
 obtain ⟨A1,k1,rfl,-⟩:=g1.shape
 obtain ⟨A2,k2,rfl,-⟩:=g2.shape
 obtain ⟨A3,k3,rfl,-⟩:=g3.shape
 obtain ⟨A4,k4,rfl,-⟩:=g4.shape
 obtain ⟨A5,k5,rfl,-⟩:=g5.shape
 obtain ⟨A6,k6,rfl,-⟩:=g6.shape
 refine ⟨⟨k,cols,bl,bh,lo,hi,co⟩,⟨⟨k,⟨A1,_,k1⟩,⟨A2,_,k2⟩,⟨A3,_,k3⟩,⟨A4,_,k4⟩,⟨A5,_,k5⟩,⟨A6,_,k6⟩⟩,rfl,rfl,g1,g2,g3,g4,g5,g6⟩,fun hw=>?_⟩
 have hd:d=.agg [y0.1,y1.1,y2.1,y3.1,y4.1,y5.1,y6.1]:=hx
 rw [hd] at hw
 have u0:=Wg.agg Tryz.underlying26 hw
 obtain ⟨-,u1⟩:=each_cons u0
 obtain ⟨v1,u2⟩:=each_cons u1
 obtain ⟨v2,u3⟩:=each_cons u2
 obtain ⟨v3,u4⟩:=each_cons u3
 obtain ⟨v4,u5⟩:=each_cons u4
 obtain ⟨v5,u6⟩:=each_cons u5
 obtain ⟨v6,-⟩:=each_cons u6
 refine ⟨⟨fun c hc t ht=>?_,fun f hf=>?_⟩,w2 v2,w3 v3⟩
 · have:=w1 v1 c hc t ht
   exact ⟨Nat.le_trans this.1 Yd,Nat.le_trans this.2 Yd⟩
 · have:Cnt f:=by
    rcases hf with hf | hf | hf
    · exact w4 v4 f hf
    · exact w5 v5 f hf
    · exact w6 v6 f hf
   exact ⟨Nat.le_trans this.1 Yd,Nat.le_trans this.2 Yd⟩
end
end
section
open Go Go.ChangeShapes Go.WideShapes Go.ChangeAt Go.RowKit Pl
theorem own:ownKnob Tryz.prog.godebug=none:=by kernel_rfl
theorem laidOut:laidOutB Tryz.prog=true:=by kernel_rfl
section
variable {H:Type} {enc:TypeId × Value->H} {W W':World} {base:Nat} {v:Value} {d:DataW H} {p:List MemPlace}
theorem stays {t:TypeId} (hr:Tryz.prog.readableRec t=true) (hrow:t<Tryz.prog.types.size) (h:DataW.Trod enc Tryz.prog W 0 (fun _=>true) true t v d p) (hb:Below W.heap.size W W') (hlt:∀ x∈p,x.block<W.heap.size) {sp:Nat->Bool} (hsp:∀ x∈p,sp x.block=true):
 DataW.Trod enc Tryz.prog W' 0 sp true t v d p:=
 WideElems.Trod_stays laidOut hr hrow h (fun x hx=>hb.same (hlt x hx)) hsp
theorem cnt_of {f:Fx} (h:Cnt f):f.xs.length<=2305843009213693951/\f.ds.length<=2305843009213693951:=⟨Nat.le_trans h.1 Yd,Nat.le_trans h.2 Yd⟩
end
end
section
open Go Go.ChangeShapes Go.WideShapes Go.ChangeAt Go.RowKit Pl
section
variable {H:Type} {enc:TypeId × Value->H} {W W':World} {base:Nat} {v:Value} {d:DataW H} {p:List MemPlace}
theorem struct2 {P:Program} {w:World} {b:Nat} {sp:Nat->Bool} {hd:Bool} {t:TypeId} {f0 f1:Field} {fuel:Nat} {cs:List Value} {x:DataW H × List MemPlace} (ht:P.underlying t=some (.struct #[f0,f1])) (h:DataW.trod enc P w b sp hd fuel t cs=some x):
 ∃ y0 y1 n,x.1=.agg [y0.1,y1.1]/\cs.length=P.cellsOf t/\DataW.trod enc P w b sp hd n f0.type ((cs.drop f0.offset).take (P.cellsOf f0.type))=some y0/\DataW.trod enc P w b sp hd n f1.type ((cs.drop f1.offset).take (P.cellsOf f1.type))=some y1:=by
 obtain ⟨xs,n,_,rfl,hl,hlen,hf⟩:=DataW.trod_struct ht h
 match xs,hlen with
 | [y0,y1],_=>exact ⟨y0,y1,n,by simp,hl,by simpa using hf 0 f0 rfl,by simpa using hf 1 f1 rfl⟩
theorem ints_w {fuel:Nat} {y:DataW H × List MemPlace} (h:DataW.trod enc Tryz.prog W 0 (fun _=>true) true fuel 73 [v]=some y):∃ ks,Iv W v ks/\(Wg 73 y.1->ks.length<=17592186044416):=by
 obtain ⟨xs,h1,h2,-⟩:=row_of (α:=Int) (s:=1) ics (fun _ _=>True) Tryz.underlying73 (by kernel_rfl) ics_len Yd (fun n cs z hl hz=>by
  obtain ⟨b,e,-⟩:=DataW.trod_int Tryz.underlying3 hz
  exact ⟨b,e.symm,trivial⟩) h
 exact ⟨xs,h1,fun hw=>by
  have:=(h2 hw).1
  rw [show Tryz.prog.bytesOf 3=8 by kernel_rfl] at this
  unfold reachBytes at this;omega⟩
theorem cells_ints:Tryz.prog.cellsOf 73=1:=by kernel_rfl
set_option maxRecDepth 1000000 in
theorem basis_arg (hval:Value.okWide Tryz.prog W .any base 75 v) (h:DataW.Trod enc Tryz.prog W 0 (fun _=>true) true 75 v d p):∃ x y bs st,v=.agg #[x,y]/\Iv W x bs/\Iv W y st/\(Wg 75 d->bs.length<=17592186044416/\st.length<=17592186044416):=by
 obtain ⟨cs,rfl,hsz⟩:=okWide_struct Tryz.underlying75 hval
 obtain ⟨fuel,hf⟩:=h
 obtain ⟨y0,y1,n,hx,hl,h0,h1⟩:=struct2 Tryz.underlying75 hf
 obtain ⟨l⟩:=cs
 have hl:l.length=2:=hsz.trans (show Tryz.prog.cellsOf 75=2 by kernel_rfl)
 obtain ⟨c0,c1,rfl⟩:∃ a b,l=[a,b]:=by
  match l,hl with
  | [a,b],_=>exact ⟨a,b,rfl⟩
 simp only [cells_ints] at h0 h1
 obtain ⟨bs,g0,w0⟩:=ints_w (v:=c0) (by simpa [Value.cells] using h0)
 obtain ⟨st,g1,w1⟩:=ints_w (v:=c1) (by simpa [Value.cells] using h1)
 refine ⟨c0,c1,bs,st,rfl,g0,g1,fun hw=>?_⟩
 have hd:d=.agg [y0.1,y1.1]:=hx
 rw [hd] at hw
 have u0:=Wg.agg Tryz.underlying75 hw
 obtain ⟨v0,u1⟩:=each_cons u0
 obtain ⟨v1,-⟩:=each_cons u1
 exact ⟨w0 v0,w1 v1⟩
end
end
section
open Go Go.ChangeShapes Go.WideShapes Go.ChangeAt Go.RowKit Pl
section
variable {H:Type} {enc:TypeId × Value->H} {W W':World} {base:Nat} {v:Value} {d:DataW H} {p:List MemPlace}
theorem struct5 {P:Program} {w:World} {b:Nat} {sp:Nat->Bool} {hd:Bool} {t:TypeId} {f0 f1 f2 f3 f4:Field} {fuel:Nat} {cs:List Value} {x:DataW H × List MemPlace} (ht:P.underlying t=some (.struct #[f0,f1,f2,f3,f4])) (h:DataW.trod enc P w b sp hd fuel t cs=some x):
 ∃ y0 y1 y2 y3 y4 n,x.1=.agg [y0.1,y1.1,y2.1,y3.1,y4.1]/\cs.length=P.cellsOf t/\DataW.trod enc P w b sp hd n f0.type ((cs.drop f0.offset).take (P.cellsOf f0.type))=some y0/\DataW.trod enc P w b sp hd n f1.type ((cs.drop f1.offset).take (P.cellsOf f1.type))=some y1/\DataW.trod enc P w b sp hd n f2.type ((cs.drop f2.offset).take (P.cellsOf f2.type))=some y2/\DataW.trod enc P w b sp hd n f3.type ((cs.drop f3.offset).take (P.cellsOf f3.type))=some y3/\DataW.trod enc P w b sp hd n f4.type ((cs.drop f4.offset).take (P.cellsOf f4.type))=some y4:=by
 obtain ⟨xs,n,_,rfl,hl,hlen,hf⟩:=DataW.trod_struct ht h
 match xs,hlen with
 | [y0,y1,y2,y3,y4],_=>exact ⟨y0,y1,y2,y3,y4,n,by simp,hl,by simpa using hf 0 f0 rfl,by simpa using hf 1 f1 rfl,by simpa using hf 2 f2 rfl,by simpa using hf 3 f3 rfl,by simpa using hf 4 f4 rfl⟩
theorem cellsn_rats:Tryz.prog.cellsOf 24=1:=by kernel_rfl
theorem cellsn_rat:Tryz.prog.cellsOf 36=3:=by kernel_rfl
theorem cellsn_bool:Tryz.prog.cellsOf 4=1:=by kernel_rfl
set_option maxRecDepth 1000000 in
theorem numbers_arg (hval:Value.okWide Tryz.prog W .any base 82 v) (h:DataW.Trod enc Tryz.prog W 0 (fun _=>true) true 82 v d p):∃ x y up sb As ls cs Bs ms ds_ flip ds rs sh,v=.agg #[x,y,.bool up,.bool sb,.slice As ls cs,.slice Bs ms ds_,.bool flip]/\Rx W x ds/\Rx W y rs/\Fv W (.agg #[.bool sb,.slice As ls cs,.slice Bs ms ds_]) sh/\(Wg 82 d->(∀ f∈ds,Cnt f)/\(∀ f∈rs,Cnt f)/\Cnt sh):=by
 obtain ⟨cs,rfl,hsz⟩:=okWide_struct Tryz.underlying82 hval
 obtain ⟨fuel,hf⟩:=h
 obtain ⟨y0,y1,y2,y3,y4,n,hx,hl,h0,h1,h2,h3,h4⟩:=struct5 Tryz.underlying82 hf
 obtain ⟨l⟩:=cs
 have hl:l.length=7:=hsz.trans (show Tryz.prog.cellsOf 82=7 by kernel_rfl)
 obtain ⟨c0,c1,c2,c3,c4,c5,c6,rfl⟩:=list7 hl
 simp only [cellsn_rats,cellsn_rat,cellsn_bool] at h0 h1 h2 h3 h4
 obtain ⟨ds,g0,w0⟩:=rats_w (v:=c0) (by simpa [Value.cells] using h0)
 obtain ⟨rs,g1,w1⟩:=rats_w (v:=c1) (by simpa [Value.cells] using h1)
 obtain ⟨up,e2,-⟩:=DataW.trod_bool Tryz.underlying4 h2
 obtain rfl:c2=.bool up:=by simpa [Value.cells] using e2
 obtain ⟨x,e3,sh,g3,w3⟩:=rat_cells h3
 obtain ⟨flip,e4,-⟩:=DataW.trod_bool Tryz.underlying4 h4
 obtain rfl:c6=.bool flip:=by simpa [Value.cells] using e4
 obtain ⟨b,A,l,k,B,m,dd⟩:=x
 have e3:[Value.bool b,.slice A l k,.slice B m dd]=[c3,c4,c5]:=by simpa [Value.cells,Rm.cs] using e3
 injection e3 with e5 e3;injection e3 with e6 e3;injection e3 with e7 e3
 subst e5 e6 e7
 refine ⟨c0,c1,up,b,A,l,k,B,m,dd,flip,ds,rs,sh,rfl,g0,g1,g3,fun hw=>?_⟩
 have hd:d=.agg [y0.1,y1.1,y2.1,y3.1,y4.1]:=hx
 rw [hd] at hw
 have u0:=Wg.agg Tryz.underlying82 hw
 obtain ⟨v0,u1⟩:=each_cons u0
 obtain ⟨v1,u2⟩:=each_cons u1
 obtain ⟨-,u3⟩:=each_cons u2
 obtain ⟨v3,-⟩:=each_cons u3
 exact ⟨w0 v0,w1 v1,w3 v3⟩
end
end
section
open Go Go.RowKit Go.WideShapes Go.ChangeShapes
section
variable {H:Type} {enc:TypeId × Value->H} {P:Program}
theorem post_below {f:Func} {s:ChangeSpec} {apart fresh handsOn again:Bool} {W W':World} {args:Array Value} {v:Value} {ds gs:List (DataW H)} {pl pa pv:List MemPlace}
 (hW:DataW.Whole enc P f.params.toList s.vars apart W args.toList ds gs pl)
 (hres:∀ (b:Nat) (sp:Nat->Bool) (hd:Bool),DataW.TrodAll enc P W' b sp hd f.resultTypes.toList (v.resultList f.resultTypes.size) (s.fn H (ds++gs)).results [])
 (hargs:∀ sp:Nat->Bool,(∀ p∈pl,sp p.block=true)->DataW.TrodAll enc P W' 0 sp true f.params.toList args.toList (s.fn H (ds++gs)).args pa)
 (hvars:∀ sp:Nat->Bool,(∀ p∈pl,sp p.block=true)->DataW.TrodVars enc P W' sp s.vars (s.fn H (ds++gs)).vars pv)
 (hps:pl=pa++pv) (hb:Yg W W')
 (hok:∀ (j:Nat) (t:TypeId) (r:Value),f.resultTypes[j]?=some t->(v.resultList f.resultTypes.size)[j]?=some r->Value.okWide P W' .any 0 t r):
 s.post enc P f apart fresh handsOn again W args v W':=by
 have hlt:=fun p hp=>hW.lt p hp
 have hsp:∀ p∈pl,(fun b=>decide (b<W.heap.size)) p.block=true:=fun p hp=>decide_eq_true (hlt p hp)
 refine ⟨ds,gs,pl,[],pa,pv,hW,hres _ _ _,hargs _ hsp,hvars _ hsp,World.keptBut_mono (fun p hp=>⟨hp,?_⟩) (hb.frame (·∈pl)),fun _=>⟨hok,_,_,([]++pa)++pv,⟨[]++pa,pv,trodAll_append (hargs _ (fun _ _=>rfl)) (hres _ _ _),hvars _ (fun _ _=>rfl),rfl,?_,?_⟩,?_⟩⟩
 · rw [hps] at hp
   exact .inr (List.mem_append.1 hp)
 · obtain ⟨_,_,_,_,_,hz,_⟩:=hW
   intro b off hp
   have hin:MemPlace.cell b off∈pl:=by rw [hps];simpa using hp
   rw [hb.frozen (hlt _ hin)]
   exact hz b off hin
 · obtain ⟨_,_,_,_,_,_,hn⟩:=hW
   intro ha
   have:=hn ha
   rw [hps] at this
   simpa using this
 · intro p hp _
   rw [hps]
   simpa using hp
end
end
end Go.Proofs.YtaajajngnmaggaaGreat
