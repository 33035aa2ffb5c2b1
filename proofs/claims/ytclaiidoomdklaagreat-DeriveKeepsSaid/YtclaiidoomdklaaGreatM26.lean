import Derived.Test.YtclaiidoomdklaaGreatM21
import Derived.Test.YtclaiidoomdklaaGreatRows
import Derived.Deep.Slices
import Derived.Deep.Strs
import Derived.OpenShut
import Derived.ChangeArms
import Derived.ShutString
import Derived.ProofKit
import Derived.HandedShaped
import Derived.WideKeyArgs
import Derived.Below
import Derived.ChangeSame
set_option maxRecDepth 100000
set_option maxHeartbeats 8000000
set_option linter.unusedVariables false
set_option linter.unusedSimpArgs false
namespace Go.Proofs.YtclaiidoomdklaaGreat
section
open Go Go.ChangeShapes Go.WideShapes Go.ChangeAt Go.RowKit Pl
section
variable {H:Type} {enc:TypeId × Value->H} {W W':World} {base:Nat} {v:Value} {d:DataW H} {p:List MemPlace}
def Wg (t:TypeId) (d:DataW H):Prop:=∀ x∈d.weights Tryz.prog t,x<=reachBytes
theorem wAll_mem {e:TypeId} {ds:List (DataW H)} {d:DataW H} (hd:d∈ds) {x:Nat} (hx:x∈d.weights Tryz.prog e):x∈DataW.weightsAll Tryz.prog e ds:=by
 induction ds with
 | nil=>cases hd
 | cons y r ih=>
  simp only [DataW.weightsAll,List.mem_append]
  rcases List.mem_cons.1 hd with rfl | h
  · exact .inl hx
  · exact .inr (ih h)
theorem Wg.slice {t e:TypeId} {es sp:List (DataW H)} (ht:Tryz.prog.underlying t=some (.slice e)) (h:Wg t (.slice es sp)):(es.length+sp.length)*Tryz.prog.bytesOf e<=reachBytes/\∀ d∈es,Wg e d:=by
 have e1:(DataW.slice es sp).weights Tryz.prog t=(es.length+sp.length)*Tryz.prog.bytesOf e::(DataW.weightsAll Tryz.prog e es++DataW.weightsAll Tryz.prog e sp):=by
  simp only [DataW.weights,ht]
 unfold Wg at h
 rw [e1] at h
 refine ⟨h _ (List.mem_cons_self ..),fun d hd x hx=>h x (List.mem_cons_of_mem _ (List.mem_append_left _ (wAll_mem hd hx)))⟩
theorem Wg.agg {t:TypeId} {fs:Array Field} {ps:List (DataW H)} (ht:Tryz.prog.underlying t=some (.struct fs)) (h:Wg t (.agg ps)):∀ x∈DataW.weightsEach Tryz.prog (fs.toList.map (·.type)) ps,x<=reachBytes:=by
 have e1:(DataW.agg ps).weights Tryz.prog t=DataW.weightsEach Tryz.prog (fs.toList.map (·.type)) ps:=by
  simp only [DataW.weights,ht]
 unfold Wg at h
 rw [e1] at h
 exact h
theorem each_cons {t:TypeId} {ts:List TypeId} {d:DataW H} {r:List (DataW H)} (h:∀ x∈DataW.weightsEach Tryz.prog (t::ts) (d::r),x<=reachBytes):Wg t d/\∀ x∈DataW.weightsEach Tryz.prog ts r,x<=reachBytes:=by
 simp only [DataW.weightsEach,List.mem_append] at h
 exact ⟨fun x hx=>h x (.inl hx),fun x hx=>h x (.inr hx)⟩
theorem row_of {α:Type} [Inhabited α] {t e:TypeId} {s:Nat} {fuel:Nat} {y:DataW H × List MemPlace} (f:α->List Value) (Px:α->DataW H->Prop) (ht:Tryz.prog.underlying t=some (.slice e)) (hs:Tryz.prog.cellsOf e=s) (hf:∀ x,(f x).length=s) (h0:0<s)
 (hel:∀ n cs z,cs.length=s->DataW.trod enc Tryz.prog W 0 (fun _=>true) true n e cs=some z->∃ x,f x=cs/\Px x z.1)
 (h:DataW.trod enc Tryz.prog W 0 (fun _=>true) true fuel t [v]=some y):
 ∃ xs:List α,Rv W f v xs/\(Wg t y.1->xs.length*Tryz.prog.bytesOf e<=reachBytes/\∀ x∈xs,∃ d,Px x d/\Wg e d)/\∀ x∈xs,∃ d,Px x d:=by
 rcases Go.Deep.open_slice ht h with ⟨hcs,hx⟩ | ⟨a,len,cap,m,n,D,Pl,hcs,-,hl,hm,hmm,hx,hi⟩
 · obtain rfl:v=.slice none 0 0:=by simpa using hcs
   exact ⟨[],⟨none,0,rfl,Nat.le_refl _,Nat.zero_le _,fun _=>rfl,.inl rfl⟩,fun _=>⟨by simp,by simp⟩,by simp⟩
 · obtain rfl:v=.slice (some a) len cap:=by simpa using hcs
   have hlm:len<=m:=by simp only [if_true] at hmm;omega
   obtain ⟨X,hX⟩:=Go.Deep.choose_lt (α:=α) (n:=len) (p:=fun i x=>(∀ j u,(f x)[j]?=some u->W.cell? ((a.add (i*s)).add j)=some u)/\Px x (D i)) (fun i hil=>by
    obtain ⟨cs',h1,h2⟩:=hi i (by omega)
    rw [hs] at h1
    obtain ⟨-,h3,h4⟩:=World.cells?_some h1
    obtain ⟨x,hx1,hx2⟩:=hel _ _ _ h3 h2
    refine ⟨x,fun j u hj=>?_,hx2⟩
    rw [hx1] at hj
    have hjs:j<s:=by rw [<- h3];exact (List.getElem?_eq_some_iff.1 hj).1
    rw [h4 j hjs];exact hj)
   refine ⟨(List.range len).map X,⟨some a,cap,by simp,by simpa using hl,hm,by simp,?_⟩,fun hw=>⟨?_,fun x hx'=>?_⟩,fun x hx'=>?_⟩
   · rcases Nat.eq_zero_or_pos len with hz | hp
     · left;subst hz;rfl
     · have c0:=(hX 0 hp).1 0
       have hfx:∃ u,(f (X 0))[0]?=some u:=⟨_,List.getElem?_eq_getElem (by rw [hf];exact h0)⟩
       obtain ⟨u0,hu0⟩:=hfx
       have c0:=c0 u0 hu0
       obtain ⟨b,off,spot⟩:=a
       have hspot:spot=none:=by simpa [Addr.add] using World.cell?_spot c0
       subst hspot
       refine .inr ⟨b,off,rfl,?_,fun i u hu=>?_⟩
       · have:=World.block_lt_of_cell? W _ c0
         simpa [Addr.add] using this
       · have hlen:i<len*s:=by
          have:=(List.getElem?_eq_some_iff.1 hu).1
          rw [flat_len hf,List.length_map,List.length_range] at this
          exact this
         have hi1:i / s<len:=(Nat.div_lt_iff_lt_mul h0).2 hlen
         have hi2:i % s<s:=Nat.mod_lt _ h0
         have hxi:((List.range len).map X)[i / s]?=some (X (i / s)):=by rw [List.getElem?_map,List.getElem?_range hi1];rfl
         obtain ⟨u',hu'⟩:∃ u',(f (X (i / s)))[i % s]?=some u':=⟨_,List.getElem?_eq_getElem (by rw [hf];exact hi2)⟩
         have e2:=flat_at hf hxi hu'
         have e3:i / s*s+i % s=i:=by rw [Nat.mul_comm];exact Nat.div_add_mod i s
         rw [e3] at e2
         rw [e2] at hu
         have hc:=(hX (i / s) hi1).1 (i % s) u' hu'
         rw [Go.Deep.add_add,e3,Go.WideShapes.add_plain] at hc
         rw [<- Option.some.inj hu];exact hc
   · rw [hx] at hw
     have:=(Wg.slice ht hw).1
     simp only [List.length_map,List.length_range] at this ⊢
     exact Nat.le_trans (Nat.mul_le_mul_right _ (Nat.le_add_right ..)) this
   · rw [hx] at hw
     obtain ⟨i,hi',rfl⟩:=List.mem_map.1 hx'
     have hil:=List.mem_range.1 hi'
     exact ⟨D i,(hX i hil).2,(Wg.slice ht hw).2 _ (List.mem_map.2 ⟨i,hi',rfl⟩)⟩
   · obtain ⟨i,hi',rfl⟩:=List.mem_map.1 hx'
     exact ⟨D i,(hX i (List.mem_range.1 hi')).2⟩
end
end
section
open Go Go.ChangeShapes Go.WideShapes Go.ChangeAt Go.RowKit Pl
section
variable {H:Type} {enc:TypeId × Value->H} {W W':World} {base:Nat} {v:Value} {d:DataW H} {p:List MemPlace}
theorem struct7 {P:Program} {w:World} {b:Nat} {sp:Nat->Bool} {hd:Bool} {t:TypeId} {f0 f1 f2 f3 f4 f5 f6:Field} {fuel:Nat} {cs:List Value} {x:DataW H × List MemPlace} (ht:P.underlying t=some (.struct #[f0,f1,f2,f3,f4,f5,f6])) (h:DataW.trod enc P w b sp hd fuel t cs=some x):
 ∃ y0 y1 y2 y3 y4 y5 y6 n,x.1=.agg [y0.1,y1.1,y2.1,y3.1,y4.1,y5.1,y6.1]/\cs.length=P.cellsOf t/\DataW.trod enc P w b sp hd n f0.type ((cs.drop f0.offset).take (P.cellsOf f0.type))=some y0/\DataW.trod enc P w b sp hd n f1.type ((cs.drop f1.offset).take (P.cellsOf f1.type))=some y1/\DataW.trod enc P w b sp hd n f2.type ((cs.drop f2.offset).take (P.cellsOf f2.type))=some y2/\DataW.trod enc P w b sp hd n f3.type ((cs.drop f3.offset).take (P.cellsOf f3.type))=some y3/\DataW.trod enc P w b sp hd n f4.type ((cs.drop f4.offset).take (P.cellsOf f4.type))=some y4/\DataW.trod enc P w b sp hd n f5.type ((cs.drop f5.offset).take (P.cellsOf f5.type))=some y5/\DataW.trod enc P w b sp hd n f6.type ((cs.drop f6.offset).take (P.cellsOf f6.type))=some y6:=by
 obtain ⟨xs,n,_,rfl,hl,hlen,hf⟩:=DataW.trod_struct ht h
 match xs,hlen with
 | [y0,y1,y2,y3,y4,y5,y6],_=>exact ⟨y0,y1,y2,y3,y4,y5,y6,n,by simp,hl,by simpa using hf 0 f0 rfl,by simpa using hf 1 f1 rfl,by simpa using hf 2 f2 rfl,by simpa using hf 3 f3 rfl,by simpa using hf 4 f4 rfl,by simpa using hf 5 f5 rfl,by simpa using hf 6 f6 rfl⟩
theorem list3 {α:Type} {l:List α} (h:l.length=3):∃ a b c,l=[a,b,c]:=by
 match l,h with
 | [a,b,c],_=>exact ⟨a,b,c,rfl⟩
theorem list4 {α:Type} {l:List α} (h:l.length=4):∃ a b c d,l=[a,b,c,d]:=by
 match l,h with
 | [a,b,c,d],_=>exact ⟨a,b,c,d,rfl⟩
theorem list7 {α:Type} {l:List α} (h:l.length=7):∃ a b c d e f g,l=[a,b,c,d,e,f,g]:=by
 match l,h with
 | [a,b,c,d,e,f,g],_=>exact ⟨a,b,c,d,e,f,g,rfl⟩
theorem zip_of {α β:Type} {P:α->β->Prop}:∀ {xs:List α},(∀ x∈xs,∃ y,P x y)->∃ ys,Zip2 P xs ys
 | [],_=>⟨[],Zip2.nil⟩
 | x::xs,h=>by
  obtain ⟨y,hy⟩:=h x (List.mem_cons_self ..)
  obtain ⟨ys,hl,hz⟩:=zip_of fun z hz=>h z (List.mem_cons_of_mem _ hz)
  refine ⟨y::ys,by simp [hl],fun i a b ha hb=>?_⟩
  cases i with
  | zero=>rw [List.getElem?_cons_zero] at ha hb;cases ha;cases hb;exact hy
  | succ i=>rw [List.getElem?_cons_succ] at ha hb;exact hz i a b ha hb
theorem zip_mem {α β:Type} {P:α->β->Prop} {xs:List α} {ys:List β} (h:Zip2 P xs ys) {y:β} (hy:y∈ys):∃ x∈xs,P x y:=by
 obtain ⟨i,hi⟩:=List.getElem?_of_mem hy
 obtain ⟨x,hx,hp⟩:=h.left hi
 exact ⟨x,List.mem_of_getElem? hx,hp⟩
def wcs (n:Nat):List Value:=[.int .u64 (n:Int)]
theorem word_reach {n:Nat} (h:n*Tryz.prog.bytesOf 155<=reachBytes):n<=17592186044416:=by
 rw [show Tryz.prog.bytesOf 155=8 by kernel_rfl] at h
 unfold reachBytes at h;omega
set_option maxRecDepth 1000000 in
theorem words_w {fuel:Nat} {y:DataW H × List MemPlace} (h:DataW.trod enc Tryz.prog W 0 (fun _=>true) true fuel 33 [v]=some y):∃ xs,Nl W v xs/\(Wg 33 y.1->xs.length<=17592186044416):=by
 obtain ⟨xs,⟨A,cap,e1,h2,h3,h4,h5⟩,h6,h7⟩:=row_of (α:=Nat) (s:=1) wcs (fun x _=>x<WB) Tryz.underlying33 (by kernel_rfl) (fun _=>rfl) (by decide) (fun n cs z hl hz=>by
  obtain ⟨k,hk,-,hw⟩:=DataW.trod_int Tryz.underlying155 hz
  have hb:=bounds_u64 hw
  refine ⟨k.toNat,?_,by rw [WB_eq];omega⟩
  rw [hk]
  show [Value.int .u64 ((k.toNat:Nat):Int)]=_
  rw [Int.toNat_of_nonneg hb.1]) h
 refine ⟨xs,⟨A,cap,e1,⟨fun x hx=>?_,?_⟩,h2,h3,h4⟩,fun hw=>word_reach (h6 hw).1⟩
 · obtain ⟨_,hd⟩:=h7 x hx;exact hd
 · rcases h5 with h5 | ⟨g,o,e,hg,hc⟩
   · left
     have:=congrArg List.length h5
     rw [flat_len (s:=1) (fun _=>rfl)] at this
     exact List.eq_nil_of_length_eq_zero (by simpa using this)
   · exact .inr ⟨g,o,e,fun j x hj=>by
      have:=flat_at (f:=wcs) (s:=1) (fun _=>rfl) hj (j:=0) (u:=.int .u64 (x:Int)) rfl
      rw [Nat.mul_one,Nat.add_zero] at this
      exact hc j _ this⟩
def Cnt (f:Fx):Prop:=f.xs.length<=17592186044416/\f.ds.length<=17592186044416
set_option maxRecDepth 1000000 in
theorem rat_cells {n:Nat} {cs:List Value} {z:DataW H × List MemPlace} (h:DataW.trod enc Tryz.prog W 0 (fun _=>true) true n 37 cs=some z):∃ x:Rm,x.cs=cs/\∃ f,Fv W x.num f/\(Wg 37 z.1->Cnt f):=by
 obtain ⟨y0,y1,m,rfl,hl,h0,h1⟩:=trod_struct2 Tryz.underlying37 h
 obtain ⟨c0,c1,c2,rfl⟩:=list3 (hl.trans (show Tryz.prog.cellsOf 37=3 by kernel_rfl))
 have e0:Tryz.prog.cellsOf 35=2:=by kernel_rfl
 have e1:Tryz.prog.cellsOf 33=1:=by kernel_rfl
 simp only [e0,e1] at h0 h1
 obtain ⟨z0,z1,k,rfl,-,g0,g1⟩:=trod_struct2 Tryz.underlying35 h0
 have e2:Tryz.prog.cellsOf 4=1:=by kernel_rfl
 simp only [e1,e2] at g0 g1
 obtain ⟨b,e3,-⟩:=DataW.trod_bool Tryz.underlying4 g0
 obtain rfl:c0=.bool b:=by simpa using e3
 obtain ⟨xs,hxs,b1⟩:=words_w (v:=c1) (by simpa using g1)
 obtain ⟨ds,hds,b2⟩:=words_w (v:=c2) (by simpa using h1)
 obtain ⟨A,c,rfl,-⟩:=hxs.shape
 obtain ⟨B,k',rfl,-⟩:=hds.shape
 refine ⟨⟨b,A,xs.length,c,B,ds.length,k'⟩,rfl,⟨b,xs,ds⟩,⟨_,_,rfl,hxs,hds⟩,fun hw=>?_⟩
 have w0:=Wg.agg Tryz.underlying37 hw
 obtain ⟨w1,w2⟩:=each_cons w0
 obtain ⟨w3,-⟩:=each_cons w2
 have w4:=Wg.agg Tryz.underlying35 w1
 obtain ⟨-,w5⟩:=each_cons w4
 obtain ⟨w6,-⟩:=each_cons w5
 exact ⟨b1 w6,b2 w3⟩
instance:Inhabited Rm:=⟨⟨false,none,0,0,none,0,0⟩⟩
instance:Inhabited Tm:=⟨⟨0,false,none,0,0,none,0,0,0⟩⟩
instance:Inhabited Sl:=⟨⟨none,0,0⟩⟩
instance:Inhabited Um:=⟨⟨0,false,false,none,0,0,none,0,0⟩⟩
theorem cells_int:Tryz.prog.cellsOf 3=1:=by kernel_rfl
theorem cells_rat:Tryz.prog.cellsOf 37=3:=by kernel_rfl
set_option maxRecDepth 1000000 in
theorem rats_w {fuel:Nat} {y:DataW H × List MemPlace} (h:DataW.trod enc Tryz.prog W 0 (fun _=>true) true fuel 24 [v]=some y):∃ fs,Rx W v fs/\(Wg 24 y.1->∀ f∈fs,Cnt f):=by
 obtain ⟨xs,h1,h2,h3⟩:=row_of (α:=Rm) (s:=3) Rm.cs (fun x d=>∃ f,Fv W x.num f/\(Wg 37 d->Cnt f)) Tryz.underlying24 cells_rat Rm.len (by decide) (fun n cs z hl hz=>rat_cells hz) h
 by_cases hw:Wg 24 y.1
 · obtain ⟨fs,hz⟩:=zip_of (P:=fun (x:Rm) f=>Fv W x.num f/\Cnt f) (fun x hx=>by
    obtain ⟨d,⟨f,hf1,hf2⟩,hd⟩:=(h2 hw).2 x hx
    exact ⟨f,hf1,hf2 hd⟩)
   exact ⟨fs,⟨xs,h1,hz.imp fun x f hf=>hf.1⟩,fun _ f hf=>by obtain ⟨x,-,hx⟩:=zip_mem hz hf;exact hx.2⟩
 · obtain ⟨fs,hz⟩:=zip_of (P:=fun (x:Rm) f=>Fv W x.num f) (fun x hx=>by
    obtain ⟨d,f,hf1,-⟩:=h3 x hx
    exact ⟨f,hf1⟩)
   exact ⟨fs,⟨xs,h1,hz⟩,fun hw'=>absurd hw' hw⟩
set_option maxRecDepth 1000000 in
theorem term_cells {n:Nat} {cs:List Value} {z:DataW H × List MemPlace} (h:DataW.trod enc Tryz.prog W 0 (fun _=>true) true n 85 cs=some z):∃ x:Tm,x.cs=cs/\∃ t:Int × Fx,(x.c=t.1/\x.q=t.2.q/\Fv W x.num t.2)/\(Wg 85 z.1->Cnt t.2):=by
 obtain ⟨y0,y1,m,rfl,hl,h0,h1⟩:=trod_struct2 Tryz.underlying85 h
 obtain ⟨c0,c1,c2,c3,rfl⟩:=list4 (hl.trans (show Tryz.prog.cellsOf 85=4 by kernel_rfl))
 simp only [cells_int,cells_rat] at h0 h1
 obtain ⟨k,e0,-,-⟩:=DataW.trod_int Tryz.underlying3 h0
 obtain rfl:c0=.int .i64 k:=by simpa using e0
 obtain ⟨x,hx,f,hf,hc⟩:=rat_cells h1
 have hx0:x.cs=[c1,c2,c3]:=by simpa using hx
 have hx:[.bool x.b,.slice x.A x.l x.k,.slice x.B x.m x.d]=[c1,c2,c3]:=hx0
 injection hx with e1 hx
 injection hx with e2 hx
 injection hx with e3 hx
 subst e1;subst e2;subst e3
 refine ⟨⟨k,x.b,x.A,x.l,x.k,x.B,x.m,x.d,f.q⟩,rfl,(k,f),⟨rfl,rfl,hf⟩,fun hw=>?_⟩
 have w0:=Wg.agg Tryz.underlying85 hw
 obtain ⟨-,w2⟩:=each_cons w0
 obtain ⟨w3,-⟩:=each_cons w2
 exact hc w3
set_option maxRecDepth 1000000 in
theorem terms_w {fuel:Nat} {y:DataW H × List MemPlace} (h:DataW.trod enc Tryz.prog W 0 (fun _=>true) true fuel 32 [v]=some y):∃ ts,Tx W v ts/\(Wg 32 y.1->∀ t∈ts,Cnt t.2):=by
 obtain ⟨xs,h1,h2,h3⟩:=row_of (α:=Tm) (s:=4) Tm.cs (fun x d=>∃ t:Int × Fx,(x.c=t.1/\x.q=t.2.q/\Fv W x.num t.2)/\(Wg 85 d->Cnt t.2)) Tryz.underlying32 (by kernel_rfl) Tm.len (by decide) (fun n cs z hl hz=>term_cells hz) h
 by_cases hw:Wg 32 y.1
 · obtain ⟨fs,hz⟩:=zip_of (P:=fun (x:Tm) (t:Int × Fx)=>(x.c=t.1/\x.q=t.2.q/\Fv W x.num t.2)/\Cnt t.2) (fun x hx=>by
    obtain ⟨d,⟨f,hf1,hf2⟩,hd⟩:=(h2 hw).2 x hx
    exact ⟨f,hf1,hf2 hd⟩)
   exact ⟨fs,⟨xs,h1,hz.imp fun x f hf=>hf.1⟩,fun _ f hf=>by obtain ⟨x,-,hx⟩:=zip_mem hz hf;exact hx.2⟩
 · obtain ⟨fs,hz⟩:=zip_of (P:=fun (x:Tm) (t:Int × Fx)=>(x.c=t.1/\x.q=t.2.q/\Fv W x.num t.2)) (fun x hx=>by
    obtain ⟨d,f,hf1,-⟩:=h3 x hx
    exact ⟨f,hf1⟩)
   exact ⟨fs,⟨xs,h1,hz⟩,fun hw'=>absurd hw' hw⟩
set_option maxRecDepth 1000000 in
theorem cols_w {fuel:Nat} {y:DataW H × List MemPlace} (h:DataW.trod enc Tryz.prog W 0 (fun _=>true) true fuel 22 [v]=some y):∃ cs,Gx W v cs/\(Wg 22 y.1->∀ c∈cs,∀ t∈c,Cnt t.2):=by
 obtain ⟨xs,h1,h2,h3⟩:=row_of (α:=Sl) (s:=1) Sl.cs (fun x d=>∃ ts,Tx W x.v ts/\(Wg 32 d->∀ t∈ts,Cnt t.2)) Tryz.underlying22 (by kernel_rfl) Sl.len (by decide) (fun n cs z hl hz=>by
  match cs,hl with
  | [c],_=>
   obtain ⟨ts,ht,hw⟩:=terms_w hz
   obtain ⟨A,cap,rfl,-⟩:=ht.shape
   exact ⟨⟨A,ts.length,cap⟩,rfl,ts,ht,hw⟩) h
 by_cases hw:Wg 22 y.1
 · obtain ⟨fs,hz⟩:=zip_of (P:=fun (x:Sl) (ts:List (Int × Fx))=>Tx W x.v ts/\∀ t∈ts,Cnt t.2) (fun x hx=>by
    obtain ⟨d,⟨f,hf1,hf2⟩,hd⟩:=(h2 hw).2 x hx
    exact ⟨f,hf1,hf2 hd⟩)
   exact ⟨fs,⟨xs,h1,hz.imp fun x f hf=>hf.1⟩,fun _ f hf=>by obtain ⟨x,-,hx⟩:=zip_mem hz hf;exact hx.2⟩
 · obtain ⟨fs,hz⟩:=zip_of (P:=fun (x:Sl) (ts:List (Int × Fx))=>Tx W x.v ts) (fun x hx=>by
    obtain ⟨d,f,hf1,-⟩:=h3 x hx
    exact ⟨f,hf1⟩)
   exact ⟨fs,⟨xs,h1,hz⟩,fun hw'=>absurd hw' hw⟩
set_option maxRecDepth 1000000 in
theorem bools_w {fuel:Nat} {y:DataW H × List MemPlace} (h:DataW.trod enc Tryz.prog W 0 (fun _=>true) true fuel 23 [v]=some y):∃ bs,Ex W v bs/\(Wg 23 y.1->bs.length<=140737488355328):=by
 obtain ⟨xs,h1,h2,-⟩:=row_of (α:=Bool) (s:=1) bcs (fun _ _=>True) Tryz.underlying23 (by kernel_rfl) bcs_len (by decide) (fun n cs z hl hz=>by
  obtain ⟨b,e,-⟩:=DataW.trod_bool Tryz.underlying4 hz
  exact ⟨b,e.symm,trivial⟩) h
 exact ⟨xs,h1,fun hw=>by
  have:=(h2 hw).1
  rw [show Tryz.prog.bytesOf 4=1 by kernel_rfl] at this
  unfold reachBytes at this;omega⟩
theorem cells_sl1:Tryz.prog.cellsOf 22=1:=by kernel_rfl
theorem cells_sl2:Tryz.prog.cellsOf 23=1:=by kernel_rfl
theorem cells_sl3:Tryz.prog.cellsOf 24=1:=by kernel_rfl
set_option maxRecDepth 1000000 in
theorem lp_arg (hval:Value.okWide Tryz.prog W .any base 26 v) (h:DataW.Trod enc Tryz.prog W 0 (fun _=>true) true 26 v d p):∃ l,LPv W v l/\(Wg 26 d->Sane l/\l.hasLo.length<=140737488355328/\l.hasHi.length<=140737488355328):=by
 obtain ⟨cs,rfl,hsz⟩:=okWide_struct Tryz.underlying26 hval
 obtain ⟨fuel,hf⟩:=h
 obtain ⟨y0,y1,y2,y3,y4,y5,y6,n,hx,hl,h0,h1,h2,h3,h4,h5,h6⟩:=struct7 Tryz.underlying26 hf
 obtain ⟨l⟩:=cs
 have hl:l.length=7:=hsz.trans (show Tryz.prog.cellsOf 26=7 by kernel_rfl)
 obtain ⟨c0,c1,c2,c3,c4,c5,c6,rfl⟩:=list7 hl
 simp only [cells_int,cells_sl1,cells_sl2,cells_sl3] at h0 h1 h2 h3 h4 h5 h6
 obtain ⟨k,e0,-,-⟩:=DataW.trod_int Tryz.underlying3 h0
 obtain rfl:c0=.int .i64 k:=by simpa [Value.cells] using e0
 obtain ⟨cols,g1,w1⟩:=cols_w (v:=c1) (by simpa [Value.cells] using h1)
 obtain ⟨bl,g2,w2⟩:=bools_w (v:=c2) (by simpa [Value.cells] using h2)
 obtain ⟨bh,g3,w3⟩:=bools_w (v:=c3) (by simpa [Value.cells] using h3)
 obtain ⟨lo,g4,w4⟩:=rats_w (v:=c4) (by simpa [Value.cells] using h4)
 obtain ⟨hi,g5,w5⟩:=rats_w (v:=c5) (by simpa [Value.cells] using h5)
 obtain ⟨co,g6,w6⟩:=rats_w (v:=c6) (by simpa [Value.cells] using h6)
 obtain ⟨A1,k1,rfl,-⟩:=g1.shape
 obtain ⟨A2,k2,rfl,-⟩:=g2.shape
 obtain ⟨A3,k3,rfl,-⟩:=g3.shape
 obtain ⟨A4,k4,rfl,-⟩:=g4.shape
 obtain ⟨A5,k5,rfl,-⟩:=g5.shape
 obtain ⟨A6,k6,rfl,-⟩:=g6.shape
 refine ⟨⟨k,cols,bl,bh,lo,hi,co⟩,⟨⟨k,⟨A1,_,k1⟩,⟨A2,_,k2⟩,⟨A3,_,k3⟩,⟨A4,_,k4⟩,⟨A5,_,k5⟩,⟨A6,_,k6⟩⟩,rfl,rfl,g1,g2,g3,g4,g5,g6⟩,fun hw=>?_⟩
 have hd:d=.agg [y0.1,y1.1,y2.1,y3.1,y4.1,y5.1,y6.1]:=hx
 rw [hd] at hw
 have u0:=Wg.agg Tryz.underlying26 hw
 obtain ⟨-,u1⟩:=each_cons u0
 obtain ⟨v1,u2⟩:=each_cons u1
 obtain ⟨v2,u3⟩:=each_cons u2
 obtain ⟨v3,u4⟩:=each_cons u3
 obtain ⟨v4,u5⟩:=each_cons u4
 obtain ⟨v5,u6⟩:=each_cons u5
 obtain ⟨v6,-⟩:=each_cons u6
 refine ⟨⟨fun c hc t ht=>?_,fun f hf=>?_⟩,w2 v2,w3 v3⟩
 · have:=w1 v1 c hc t ht
   exact ⟨Nat.le_trans this.1 (by decide),Nat.le_trans this.2 (by decide)⟩
 · have:Cnt f:=by
    rcases hf with hf | hf | hf
    · exact w4 v4 f hf
    · exact w5 v5 f hf
    · exact w6 v6 f hf
   exact ⟨Nat.le_trans this.1 (by decide),Nat.le_trans this.2 (by decide)⟩
end
end
section
open Go Go.ChangeShapes Go.WideShapes Go.ChangeAt Go.RowKit Pl
theorem own:ownKnob Tryz.prog.godebug=none:=by kernel_rfl
theorem laidOut:laidOutB Tryz.prog=true:=by kernel_rfl
section
variable {H:Type} {enc:TypeId × Value->H} {W W':World} {base:Nat} {v:Value} {d:DataW H} {p:List MemPlace}
theorem stays {t:TypeId} (hr:Tryz.prog.readableRec t=true) (hrow:t<Tryz.prog.types.size) (h:DataW.Trod enc Tryz.prog W 0 (fun _=>true) true t v d p) (hb:Below W.heap.size W W') (hlt:∀ x∈p,x.block<W.heap.size) {sp:Nat->Bool} (hsp:∀ x∈p,sp x.block=true):
 DataW.Trod enc Tryz.prog W' 0 sp true t v d p:=
 WideElems.Trod_stays laidOut hr hrow h (fun x hx=>hb.same (hlt x hx)) hsp
theorem cnt_of {f:Fx} (h:Cnt f):f.xs.length<=2305843009213693951/\f.ds.length<=2305843009213693951:=⟨Nat.le_trans h.1 (by decide),Nat.le_trans h.2 (by decide)⟩
end
end
section
open Go Go.RowKit Go.WideShapes Go.ChangeShapes
section
variable {H:Type} {enc:TypeId × Value->H} {P:Program}
theorem post_below {f:Func} {s:ChangeSpec} {apart fresh handsOn again:Bool} {W W':World} {args:Array Value} {v:Value} {ds gs:List (DataW H)} {pl pa pv:List MemPlace}
 (hW:DataW.Whole enc P f.params.toList s.vars apart W args.toList ds gs pl)
 (hres:∀ (b:Nat) (sp:Nat->Bool) (hd:Bool),DataW.TrodAll enc P W' b sp hd f.resultTypes.toList (v.resultList f.resultTypes.size) (s.fn H (ds++gs)).results [])
 (hargs:∀ sp:Nat->Bool,(∀ p∈pl,sp p.block=true)->DataW.TrodAll enc P W' 0 sp true f.params.toList args.toList (s.fn H (ds++gs)).args pa)
 (hvars:∀ sp:Nat->Bool,(∀ p∈pl,sp p.block=true)->DataW.TrodVars enc P W' sp s.vars (s.fn H (ds++gs)).vars pv)
 (hps:pl=pa++pv) (hb:Yg W W')
 (hok:∀ (j:Nat) (t:TypeId) (r:Value),f.resultTypes[j]?=some t->(v.resultList f.resultTypes.size)[j]?=some r->Value.okWide P W' .any 0 t r):
 s.post enc P f apart fresh handsOn again W args v W':=by
 have hlt:=fun p hp=>hW.lt p hp
 have hsp:∀ p∈pl,(fun b=>decide (b<W.heap.size)) p.block=true:=fun p hp=>decide_eq_true (hlt p hp)
 refine ⟨ds,gs,pl,[],pa,pv,hW,hres _ _ _,hargs _ hsp,hvars _ hsp,World.keptBut_mono (fun p hp=>⟨hp,?_⟩) (hb.frame (·∈pl)),fun _=>⟨hok,_,_,([]++pa)++pv,⟨[]++pa,pv,trodAll_append (hargs _ (fun _ _=>rfl)) (hres _ _ _),hvars _ (fun _ _=>rfl),rfl,?_,?_⟩,?_⟩⟩
 · rw [hps] at hp
   exact .inr (List.mem_append.1 hp)
 · obtain ⟨_,_,_,_,_,hz,_⟩:=hW
   intro b off hp
   have hin:MemPlace.cell b off∈pl:=by rw [hps];simpa using hp
   rw [hb.frozen (hlt _ hin)]
   exact hz b off hin
 · obtain ⟨_,_,_,_,_,_,hn⟩:=hW
   intro ha
   have:=hn ha
   rw [hps] at this
   simpa using this
 · intro p hp _
   rw [hps]
   simpa using hp
end
end
end Go.Proofs.YtclaiidoomdklaaGreat
