import Derived.Test.YtclaiidoomdklaaGreatSNA23
import Derived.Test.YtclaiidoomdklaaGreatSNA27
set_option maxRecDepth 100000
set_option maxHeartbeats 8000000
set_option linter.unusedVariables false
set_option linter.unusedSimpArgs false
namespace Go.Proofs.YtclaiidoomdklaaGreat
section
section
open Go Go.RowKit Go.Proofs Pl
theorem ow_put {w:World} {B g k x:Nat} {u:Value} {ys:List Nat} (h:Ow w B u ys) (hx:x<WB):∃ zs,Ow (w.setCell ⟨g,k,none⟩ (.int .u64 (x:Int))) B u zs:=by
 by_cases hb:u.ownBlock=some g
 · obtain ⟨A,c,rfl,h1,h2⟩:=h.slice
   cases A with
   | none=>simp [Value.ownBlock] at hb
   | some ad=>
    obtain ⟨b,o,sp⟩:=ad
    rcases h.2.2 with ⟨hv,h0⟩ | ⟨g',cap,cur,hv,_⟩
    · cases hv
    · injection hv with hv hn hc
      injection hv with hv
      injection hv with hv1 hv2 hv3
      subst hv1;subst hv2;subst hv3
      have hgg:b=g:=by simpa [Value.ownBlock] using hb
      subst hgg
      exact ⟨_,h.set_ rfl hx⟩
 · refine ⟨ys,h.1,h.2.kept (Lib.grownBy_setCell w g k _) (.inr ?_)⟩
   exact hb
theorem below_trd {B:Nat} {w w' w2:World} (h:Below B w w') (k:Below B w' w2):Below B w w2:=⟨k.os.trans h.os,k.tape.trans h.tape,k.output.trans h.output,Nat.le_trans h.size k.size,fun i hi=>(k.block i hi).trans (h.block i hi)⟩
def HitW (w w':World) (lo:Nat):Prop:=Below lo w w'/\(∀ T:TypeId,T≠155->KeepT T w w')/\∀ (B:Nat) (u:Value) (ys:List Nat),Ow w B u ys->∃ zs,Ow w' B u zs
theorem HitW.refl (w:World) (lo:Nat):HitW w w lo:=⟨Below.refl _ _,fun T _=>KeepT.refl T w,fun B u ys h=>⟨ys,h⟩⟩
theorem HitW.keep {w w' w2:World} {lo:Nat} (h:HitW w w' lo) (hb:Below w'.heap.size w' w2) (hl:lo<=w'.heap.size):HitW w w2 lo:=⟨below_trd h.1 ⟨hb.os,hb.tape,hb.output,hb.size,fun i hi=>hb.block i Yo⟩,fun T hT=>(h.2.1 T hT).trans (KeepT.below hb),fun B u ys hu=>by
 obtain ⟨zs,hz⟩:=h.2.2 B u ys hu
 exact ⟨zs,hz.keep hb⟩⟩
theorem own_word_keep {w:World} {B g n c:Nat} {ys:List Nat} (h:Ow w B (.slice (some ⟨g,0,none⟩) n c) ys) {T:TypeId} (hT:T≠155) (j:Nat) (u:Value):KeepT T w (w.setCell ⟨g,j,none⟩ u):=by
 obtain ⟨cs,e,m,hh,he⟩:=own_type h.2 g rfl
 exact KeepT.setCell hh (by rw [he];exact hT.symm) rfl u
theorem HitW.set {w w':World} {lo B g n c:Nat} {ys:List Nat} (h:HitW w w' lo) (ho:Ow w' B (.slice (some ⟨g,0,none⟩) n c) ys) (hg:lo<=g) (j:Nat):HitW w (w'.setCell ⟨g,j,none⟩ (.int .u64 238)) lo:=
 ⟨h.1.setCell hg _,fun T hT=>(h.2.1 T hT).trans (own_word_keep ho hT j _),fun B u ys hu=>by
  obtain ⟨zs,hz⟩:=h.2.2 B u ys hu
  exact ow_put (x:=238) hz (by rw [WB_eq];decide)⟩
theorem Ow.len {w:World} {B n c:Nat} {A:Option Addr} {ys:List Nat} (h:Ow w B (.slice A n c) ys):ys.length=n:=by
 obtain ⟨A',c',e,-⟩:=h.slice
 injection e with e1 e2 e3
 exact e2.symm
theorem rat_word2:(37:TypeId)≠155:=by decide
theorem spoil_f {w:World} {lo:Nat} {b:Bool} {s d:Value} {xs ds:List Nat} (hs:Ow w lo s xs) (hd:Ow w lo d ds) (hlo:lo<=w.heap.size):
 Calls Tryz.prog 37 #[.agg #[.bool b,s,d]] w fun e w'=>e=.returned (.tuple #[])/\HitW w w' lo:=by
 obtain ⟨A,c,rfl,h1,h2⟩:=hs.slice
 obtain ⟨C,k,rfl,h3,h4⟩:=hd.slice
 obtain ⟨n,hn⟩:∃ n,n=xs.length:=⟨_,rfl⟩
 obtain ⟨m,hm⟩:∃ m,m=ds.length:=⟨_,rfl⟩
 rw [<- hn] at hs h1 ⊢
 rw [<- hm] at hd h3 ⊢
 have hnm:n<=9223372036854775807:=by unfold maxLen at h2;omega
 have hmm:m<=9223372036854775807:=by unfold maxLen at h4;omega
 have HO:=Yh3 hs hd hlo
 clear hs hd hn hm h1 h2 h3 h4 hlo
 go_enter Tryz.func37,Tryz.ntmps37
 go_wp2_with fail
 go_loopw [2] (fun i wr=>∃ j:Nat,i=.int .i64 (j:Int)/\j<=n/\Hid (HitW w wr lo/\B3 37 wr w.heap.size (.bool b) (.slice A n c) (.slice C m k)/\(∃ ys,Ow wr lo (.slice A n c) ys)/\(∃ ys,Ow wr lo (.slice C m k) ys))) (fun i _=>n - (intOf i).toNat)
 case atStart=>exact ⟨0,rfl,Yo,(HitW.refl w lo).keep (Ya w _) HO.q2,B3.new _ w _ _ _,⟨xs,HO.p0.keep (Ya w _)⟩,⟨ds,HO.p1.keep (Ya w _)⟩⟩
 case round=>
  obtain ⟨i,rfl,hk,hS⟩:=hrel
  by_cases hlt:i<n
  · skip
    obtain ⟨hH,hX,⟨ys,hy⟩,⟨zs,hz⟩⟩:=hS.out
    obtain ⟨c0,c1,c2,-,-,-⟩:=hX.facts
    obtain ⟨g,rfl,-,hgl,hgs,-,-,hcs,hfr⟩:=hy.at_ (j:=i) (by have:=hy.len;omega)
    have hmc:=hcs i _ (atD_some (by have:=hy.len;omega))
    have hf:=hfr i
    have K:Hid (HitW w (wr.setCell ⟨g,i,none⟩ (.int .u64 238)) lo/\B3 37 (wr.setCell ⟨g,i,none⟩ (.int .u64 238)) w.heap.size (.bool b) (.slice (some ⟨g,0,none⟩) n c) (.slice C m k)/\(∃ ys,Ow (wr.setCell ⟨g,i,none⟩ (.int .u64 238)) lo (.slice (some ⟨g,0,none⟩) n c) ys)/\(∃ ys,Ow (wr.setCell ⟨g,i,none⟩ (.int .u64 238)) lo (.slice C m k) ys)):=⟨hH.set hy hgl i,(own_word_keep hy rat_word2 i _).b3 hX,ow_put (x:=238) hy (by rw [WB_eq];decide),ow_put (x:=238) hz (by rw [WB_eq];decide)⟩
    clear hS hX hH hy hz hgl hgs hcs hfr
    go_wp2_with fail
    go_roundw
    case rel=>exact ⟨i+1,by go_num,Yo,K.out⟩
    case measure=>simp [intOf];omega
  obtain ⟨-,hX0,-,-⟩:=id hS.out
  obtain ⟨c0,c1,c2,-,-,-⟩:=hX0.facts
  clear hX0
  go_wp2_with fail
  go_loopw [3] (fun i wr=>∃ j:Nat,i=.int .i64 (j:Int)/\j<=m/\Hid (HitW w wr lo/\B3 37 wr w.heap.size (.bool b) (.slice A n c) (.slice C m k)/\(∃ ys,Ow wr lo (.slice A n c) ys)/\(∃ ys,Ow wr lo (.slice C m k) ys))) (fun i _=>m - (intOf i).toNat)
  case atStart=>exact ⟨0,rfl,Yo,hS.out⟩
  case round=>
   clear hS
   obtain ⟨i,rfl,hk,hS⟩:=hrel
   by_cases hlt:i<m
   · skip
     obtain ⟨hH,hX,⟨ys,hy⟩,⟨zs,hz⟩⟩:=hS.out
     obtain ⟨c0,c1,c2,-,-,-⟩:=hX.facts
     obtain ⟨g,rfl,-,hgl,hgs,-,-,hcs,hfr⟩:=hz.at_ (j:=i) (by have:=hz.len;omega)
     have hmc:=hcs i _ (atD_some (by have:=hz.len;omega))
     have hf:=hfr i
     have K:Hid (HitW w (wr.setCell ⟨g,i,none⟩ (.int .u64 238)) lo/\B3 37 (wr.setCell ⟨g,i,none⟩ (.int .u64 238)) w.heap.size (.bool b) (.slice A n c) (.slice (some ⟨g,0,none⟩) m k)/\(∃ ys,Ow (wr.setCell ⟨g,i,none⟩ (.int .u64 238)) lo (.slice A n c) ys)/\(∃ ys,Ow (wr.setCell ⟨g,i,none⟩ (.int .u64 238)) lo (.slice (some ⟨g,0,none⟩) m k) ys)):=⟨hH.set hz hgl i,(own_word_keep hz rat_word2 i _).b3 hX,ow_put (x:=238) hy (by rw [WB_eq];decide),ow_put (x:=238) hz (by rw [WB_eq];decide)⟩
     clear hS hX hH hy hz hgl hgs hcs hfr
     go_wp2_with fail
     go_roundw
     case rel=>exact ⟨i+1,by go_num,Yo,K.out⟩
     case measure=>simp [intOf];omega
   · obtain ⟨-,hX0,-,-⟩:=id hS.out
     obtain ⟨c0,c1,c2,-,-,-⟩:=hX0.facts
     clear hX0
     go_wp2_with fail
     go_end0
     exact ⟨rfl,hS.p0⟩
end
end
section
section
open Go Go.RowKit Go.Proofs Pl
def Tz (w:World) (lo g n:Nat):Prop:=∃ cs:Array Value,w.heap[g]?=some (.cells cs 85 (0,0))/\lo<=g/\n*4<=cs.size/\
 ∀ i:Nat,i<n->∃ (c:Int) (b:Bool) (A:Option Addr) (l k:Nat) (B:Option Addr) (m d:Nat),cs[i*4]?=some (.int .i64 c)/\cs[i*4+1]?=some (.bool b)/\cs[i*4+2]?=some (.slice A l k)/\cs[i*4+3]?=some (.slice B m d)/\
  (∃ ys,Ow w lo (.slice A l k) ys)/\∃ zs,Ow w lo (.slice B m d) zs
section
variable {w0 w w':World} {lo g n i:Nat} {v:Value} {ts:List (Int × Fx)}
theorem term_word2:(85:TypeId)≠155:=by decide
theorem Tz.of (h:Tw w0 w v ts):∃ A n c,v=.slice A n c/\n<=maxLen/\(n=0∨∃ g,A=some ⟨g,0,none⟩/\Tz w w0.heap.size g n):=by
 obtain ⟨xs,h1,h2,h3⟩:=h
 rcases h1.2 with ⟨rfl,he⟩ | ⟨g,cap,cur,rfl,hb,hh,k1,k2,k3,k4⟩
 · exact ⟨none,0,0,rfl,Nat.zero_le _,.inl rfl⟩
 · refine ⟨some ⟨g,0,none⟩,xs.length,cap,rfl,Nat.le_trans k1 k2,.inr ⟨g,rfl,cur,hh,hb,by rw [k3];exact Nat.mul_le_mul_right 4 k1,fun i hi=>?_⟩⟩
   have hx:xs[i]?=some xs[i]:=List.getElem?_eq_getElem hi
   obtain ⟨t,ht,-,-,hf⟩:=h2.right hx
   obtain ⟨x,hxe⟩:∃ x,x=xs[i]:=⟨_,rfl⟩
   rw [<- hxe] at hx hf
   clear hxe
   obtain ⟨c,b,A,l,k,B,m,d,q⟩:=x
   obtain ⟨⟨s,e,hv,hs,he⟩,-⟩:=hf
   injection hv with hv
   have hv:=Array.toList_inj.2 hv
   injection hv with e0 hv
   injection hv with e1 hv
   injection hv with e2 hv
   subst e1;subst e2
   have hc:∀ (j:Nat) (u:Value),[Value.int .i64 c,.bool b,.slice A l k,.slice B m d][j]?=some u->cur[i*4+j]?=some u:=fun j u hj=>by
    have hat:=flat_at (f:=Tm.cs) (s:=4) Tm.len hx (j:=j) (u:=u) hj
    rw [<- k4,List.getElem?_take] at hat
    split at hat
    · simpa using hat
    · cases hat
   exact ⟨c,b,A,l,k,B,m,d,hc 0 _ rfl,hc 1 _ rfl,hc 2 _ rfl,hc 3 _ rfl,⟨_,hs⟩,⟨_,he⟩⟩
theorem Tz.cells (h:Tz w lo g n) (hi:i<n):∃ (c:Int) (b:Bool) (A:Option Addr) (l k:Nat) (B:Option Addr) (m d:Nat),w.cell? ⟨g,i*4,none⟩=some (.int .i64 c)/\w.cell? ⟨g,i*4+1,none⟩=some (.bool b)/\w.cell? ⟨g,i*4+2,none⟩=some (.slice A l k)/\w.cell? ⟨g,i*4+3,none⟩=some (.slice B m d)/\
 (∃ ys,Ow w lo (.slice A l k) ys)/\∃ zs,Ow w lo (.slice B m d) zs:=by
 obtain ⟨cs,hh,hl,hn,hc⟩:=h
 obtain ⟨c,b,A,l,k,B,m,d,h0,h1,h2,h3,h4,h5⟩:=hc i hi
 exact ⟨c,b,A,l,k,B,m,d,by simp [World.cell?,hh,h0],by simp [World.cell?,hh,h1],by simp [World.cell?,hh,h2],by simp [World.cell?,hh,h3],h4,h5⟩
theorem Tz.fr (h:Tz w lo g n) (j:Nat):w.frozen? ⟨g,j,none⟩=false:=by
 obtain ⟨cs,hh,-⟩:=h
 simp [World.frozen?,hh]
theorem Tz.hit (h:Tz w lo g n) (k:HitW w w' lo):Tz w' lo g n:=by
 obtain ⟨cs,hh,hl,hn,hc⟩:=h
 refine ⟨cs,(k.2.1 _ term_word2 _ _ _ hh).trans hh,hl,hn,fun i hi=>?_⟩
 obtain ⟨c,b,A,l,k',B,m,d,h0,h1,h2,h3,⟨ys,h4⟩,⟨zs,h5⟩⟩:=hc i hi
 exact ⟨c,b,A,l,k',B,m,d,h0,h1,h2,h3,k.2.2 _ _ _ h4,k.2.2 _ _ _ h5⟩
def HitT (w w':World) (lo:Nat):Prop:=Below lo w w'/\(∀ T:TypeId,T≠155->T≠85->KeepT T w w')/\∀ (B:Nat) (u:Value) (ys:List Nat),Ow w B u ys->∃ zs,Ow w' B u zs
theorem HitT.refl (w:World) (lo:Nat):HitT w w lo:=⟨Below.refl _ _,fun T _ _=>KeepT.refl T w,fun B u ys h=>⟨ys,h⟩⟩
theorem HitT.hit {w2:World} (h:HitT w w' lo) (k:HitW w' w2 lo):HitT w w2 lo:=⟨below_trd h.1 k.1,fun T h1 h2=>(h.2.1 T h1 h2).trans (k.2.1 T h1),fun B u ys hu=>by
 obtain ⟨zs,hz⟩:=h.2.2 B u ys hu
 exact k.2.2 B u zs hz⟩
theorem Tz.set (h:Tz w lo g n) (x:Int):Tz (w.setCell ⟨g,i*4,none⟩ (.int .i64 x)) lo g n/\∀ T,T≠85->KeepT T w (w.setCell ⟨g,i*4,none⟩ (.int .i64 x)):=by
 obtain ⟨cs,hh,hl,hn,hc⟩:=h
 have kt:∀ T,T≠85->KeepT T w (w.setCell ⟨g,i*4,none⟩ (.int .i64 x)):=fun T hT=>KeepT.setCell hh hT.symm rfl _
 have hw:=kt 155 term_word2.symm
 refine ⟨⟨cs.setIfInBounds (i*4) (.int .i64 x),?_,hl,by simpa using hn,fun j hj=>?_⟩,kt⟩
 · show (w.heap.modify g _)[g]?=_
   obtain ⟨hlt,hk⟩:=Array.getElem?_eq_some_iff.1 hh
   rw [Array.getElem?_eq_getElem (by rw [Array.size_modify];exact hlt),Array.getElem_modify_self,hk]
   rfl
 · obtain ⟨c,b,A,l,k,B,m,d,h0,h1,h2,h3,⟨ys,h4⟩,⟨zs,h5⟩⟩:=hc j hj
   have hne:∀ {p:Nat} {u:Value},i*4≠p->cs[p]?=some u->(cs.setIfInBounds (i*4) (.int .i64 x))[p]?=some u:=fun hp hu=>by rw [Array.getElem?_setIfInBounds,if_neg hp];exact hu
   by_cases hij:i=j
   · subst hij
     exact ⟨x,b,A,l,k,B,m,d,by rw [Array.getElem?_setIfInBounds,if_pos rfl,if_pos (by omega)],hne Yo h1,hne Yo h2,hne Yo h3,⟨_,h4.keepT hw⟩,⟨_,h5.keepT hw⟩⟩
   · exact ⟨c,b,A,l,k,B,m,d,hne Yo h0,hne Yo h1,hne Yo h2,hne Yo h3,⟨_,h4.keepT hw⟩,⟨_,h5.keepT hw⟩⟩
theorem HitT.set {W:World} (h:HitT W w lo) (k:Tz w lo g n) (x:Int):HitT W (w.setCell ⟨g,i*4,none⟩ (.int .i64 x)) lo:=⟨h.1.setCell (p:=⟨g,i*4,none⟩) (by obtain ⟨cs,-,hl,-⟩:=k;exact hl) _,fun T h1 h2=>(h.2.1 T h1 h2).trans ((k.set (i:=i) x).2 T h2),fun B u ys hu=>by
 obtain ⟨zs,hz⟩:=h.2.2 B u ys hu
 exact ⟨zs,hz.keepT ((k.set (i:=i) x).2 _ term_word2.symm)⟩⟩
end
theorem spoil_t {w0 w:World} {v:Value} {ts:List (Int × Fx)} (h:Tw w0 w v ts):
 Calls Tryz.prog 73 #[v] w fun e w'=>e=.returned (.tuple #[])/\HitT w w' w0.heap.size:=by
 obtain ⟨A,n,c,rfl,hm,hz⟩:=Tz.of h
 have hlo:w0.heap.size<=w.heap.size:=h.below.size
 have hbig:n<=9223372036854775807:=by unfold maxLen at hm;omega
 have HZ:=Lib.hid hz
 have HL:=Lib.hid hlo
 clear h hz hm hlo
 go_enter Tryz.func73,Tryz.ntmps73
 go_wp2_with fail
 go_loopw [2] (fun z wr=>∃ k:Nat,z=.int .i64 (k:Int)/\k<=n/\Hid ((n=0∨∃ g,A=some ⟨g,0,none⟩/\Tz wr w0.heap.size g n)/\HitT w wr w0.heap.size)) (fun z _=>n - (intOf z).toNat)
 case atStart=>exact ⟨0,rfl,Nat.zero_le _,HZ.out,HitT.refl _ _⟩
 case round=>
  obtain ⟨k,rfl,hk,H⟩:=hrel
  by_cases hlt:k<n
  · skip
    obtain ⟨g,rfl,hT⟩:=H.p0.resolve_left Yo
    obtain ⟨c0,b0,A1,l1,k1,B1,m1,d1,z0,z1,z2,z3,⟨ys,hy⟩,⟨zs,hz⟩⟩:=hT.cells hlt
    have H1:=Yh4 hT H.q1 hy hz
    clear hT hy hz H
    have dk:(k:Int)<(n:Int):=Yo
    go_wp2_with fail
    refine (spoil_f H1.p2 H1.q3 (Nat.le_trans HL.out H1.p1.1.size)).mono ?_;rintro e w2 ⟨rfl,hh⟩
    have H2:=Yh2 (H1.p0.hit hh) (H1.p1.hit hh)
    clear hh H1 z0 z1 z2 z3
    obtain ⟨c9,b9,A9,l9,k9,B9,m9,d9,z0,z1,z2,z3,-,-⟩:=H2.p0.cells hlt
    have f0:=H2.p0.fr (k*4)
    clear z1 z2 z3
    go_wp2_with fail
    clear f0 z0
    case roundEnd=>exact ⟨⟨k+1,by go_num,Yo,.inr ⟨g,rfl,(H2.p0.set (-9)).1⟩,H2.q1.set H2.p0 (-9)⟩,by simp [intOf];omega⟩
  obtain rfl:k=n:=by omega
  have dk:¬ (k:Int)<(k:Int):=Yo
  go_wp2_with fail
  go_end0
  exact ⟨rfl,H.q1⟩
theorem spoil_c {w0 w:World} {v:Value} {c:Cx} (h:Cw w0 w v c):
 Calls Tryz.prog 20 #[v] w fun e w'=>e=.returned (.tuple #[])/\Below w0.heap.size w w':=by
 obtain ⟨⟨s,E,n,k,b,A,l,j,B,m,d⟩,rfl,hs,ht,hr⟩:=h
 have hs:s=c.s:=hs
 subst hs
 have ht:Tw w0 w (.slice E n k) c.ts:=ht
 obtain ⟨⟨s1,d1,hv,hs1,hd1⟩,hbb⟩:=hr
 injection hv with hv
 have hv:=Array.toList_inj.2 hv
 injection hv with e0 hv
 injection hv with e1 hv
 injection hv with e2 hv
 injection e0 with e0
 have e0:b=c.r.b:=e0
 subst e0;subst e1;subst e2
 have HS:=Yh4 ht hs1 hd1 ht.below
 clear ht hs1 hd1 hv hbb
 change Calls Tryz.prog 20 #[.agg #[.int .i64 c.s,.slice E n k,.bool c.r.b,.slice A l j,.slice B m d]] w _
 go_enter Tryz.func20,Tryz.ntmps20
 go_upto_region 1 with (fail)
 have hb0:=Ya w (.cells #[.int .i64 c.s,.slice E n k,.bool c.r.b,.slice A l j,.slice B m d] 39)
 have X0:=Lib.hid (Bl.new w 39 [.int .i64 c.s,.slice E n k,.bool c.r.b,.slice A l j,.slice B m d])
 have S0:=Yh4 (HS.p0.keep hb0) (HS.p1.keep hb0) (HS.p2.keep hb0) (Yb HS.q3 hb0)
 have HB0:=Lib.hid hb0
 clear hb0
 generalize w.alloc _=W0 at X0 S0 HB0 ⊢
 have y0:=Bl.ld X0.out 0 rfl
 have y1:=Bl.ld X0.out 1 rfl
 have y2:=Bl.ld X0.out 2 rfl
 have y3:=Bl.ld X0.out 3 rfl
 have y4:=Bl.ld X0.out 4 rfl
 go_wp2_with fail
 refine (spoil_t S0.p0).mono ?_;rintro e w2 ⟨rfl,hh⟩
 have X1:=Lib.hid ((hh.2.1 _ Yd Yd).bl X0.out)
 obtain ⟨ys,hy⟩:=hh.2.2 _ _ _ S0.p1
 obtain ⟨zs,hz⟩:=hh.2.2 _ _ _ S0.p2
 have S1:=Yh3 hh.1 hy hz
 clear y0 y1 y2 y3 y4 hh hy hz
 have y0:=Bl.ld X1.out 0 rfl
 have y1:=Bl.ld X1.out 1 rfl
 have y2:=Bl.ld X1.out 2 rfl
 have y3:=Bl.ld X1.out 3 rfl
 have y4:=Bl.ld X1.out 4 rfl
 go_wp2_with fail
 refine (spoil_f S1.p1 S1.q2 (Nat.le_trans S0.q3.size S1.p0.size)).mono ?_;rintro e w3 ⟨rfl,hh⟩
 have S2:=Lib.hid (below_trd S1.p0 hh.1)
 clear hh y0 y1 y2 y3 y4
 go_wp2_with fail
 go_end0
 exact ⟨rfl,below_trd (HB0.out.mono HS.q3.size) S2.out⟩
end
end
section
namespace I
section
open Go Go.RowKit Go.Proofs Pl
theorem boundd_hi {w:World} {v:Value} {l:LPx} {col:Int}  (h:LPv w v l) (hf:Fit l) (hlo:l.lo.length=l.cols.length) (hhi:l.hi.length=l.cols.length) (hbl:l.hasLo.length=l.cols.length) (hbh:l.hasHi.length=l.cols.length) (hn0:0<=l.n) (hn1:l.n<=l.cols.length) (hok:okB l col):
 Calls Tryz.prog 19 #[v,.int .i64 col,.bool true] w fun e w'=>∃ r,e=.returned (.tuple #[r,.int .i64 (tellX (boundX l col true)).2])/\Cw w w' r (tellX (boundX l col true)).1:=by
 have hsz:=fit_sz h hf
 obtain ⟨⟨n,⟨aA,an,ac⟩,⟨bA,bn,bc⟩,⟨cA,cn,cc⟩,⟨dA,dn,dc⟩,⟨eA,en,ec⟩,⟨fA,fn,fc⟩⟩,rfl,h1,h2,h3,h4,h5,h6,h7⟩:=h
 have h1:n=l.n:=h1
 subst h1
 have h2:Gx w (.slice aA an ac) l.cols:=h2
 have h3:Ex w (.slice bA bn bc) l.hasLo:=h3
 have h4:Ex w (.slice cA cn cc) l.hasHi:=h4
 have h5:Rx w (.slice dA dn dc) l.lo:=h5
 have h6:Rx w (.slice eA en ec) l.hi:=h6
 obtain ⟨A,c,e,hac,hac2⟩:=h2.shape
 injection e with e1 e2 e3
 subst e3
 have hlen:l.cols.length=an:=e2.symm
 clear e1 e2 A
 obtain ⟨A,c,e,-,-⟩:=h3.shape
 injection e with e1 e2 e3
 have hlb:l.hasLo.length=bn:=e2.symm
 clear e1 e2 e3 A c
 obtain ⟨A,c,e,-,-⟩:=h4.shape
 injection e with e1 e2 e3
 have hlc:l.hasHi.length=cn:=e2.symm
 clear e1 e2 e3 A c
 obtain ⟨A,c,e,-,-⟩:=h5.shape
 injection e with e1 e2 e3
 have hld:l.lo.length=dn:=e2.symm
 clear e1 e2 e3 A c
 obtain ⟨A,c,e,-,-⟩:=h6.shape
 injection e with e1 e2 e3
 have hle:l.hi.length=en:=e2.symm
 clear e1 e2 e3 A c
 have han:an<=14:=by rw [<- hlen];exact hf.1
 have HS:=Yh8 h2 h3 h4 h5 h6 hf hsz hac
 have HL:=Yh5 hlen hlb hlc hld hle
 clear h2 h3 h4 h5 h6 h7 hf hsz hlen hlb hlc hld hle hac hac2
 change Calls Tryz.prog 19 #[.agg #[.int .i64 l.n,.slice aA an ac,.slice bA bn bc,.slice cA cn cc,.slice dA dn dc,.slice eA en ec,.slice fA fn fc],_,_] w _
 go_enter Tryz.func19,Tryz.ntmps19
 go_upto_region 1 with (fail)
 have X0:=(Bl.new w 26 [.int .i64 l.n,.slice aA an ac,.slice bA bn bc,.slice cA cn cc,.slice dA dn dc,.slice eA en ec,.slice fA fn fc]).alloc (.cells #[.int .i64 0,.slice none 0 0,.bool false,.slice none 0 0,.slice none 0 0] 39)
 have R0:=Bl.new1 w (.cells #[.int .i64 l.n,.slice aA an ac,.slice bA bn bc,.slice cA cn cc,.slice dA dn dc,.slice eA en ec,.slice fA fn fc] 26) 39 [.int .i64 0,.slice none 0 0,.bool false,.slice none 0 0,.slice none 0 0]
 have hb0:Yg w ((w.alloc (.cells #[.int .i64 l.n,.slice aA an ac,.slice bA bn bc,.slice cA cn cc,.slice dA dn dc,.slice eA en ec,.slice fA fn fc] 26)).alloc (.cells #[.int .i64 0,.slice none 0 0,.bool false,.slice none 0 0,.slice none 0 0] 39)):=Yb (Ya _ _) (Ya _ _)
 obtain ⟨gR,hgR⟩:∃ g,g=w.heap.size+1:=⟨_,rfl⟩
 rw [<- hgR] at R0 ⊢
 have hgl:w.heap.size<gR:=Yo
 have S0:=Yh3 X0 R0 hb0
 generalize (w.alloc _).alloc _=W0 at S0 ⊢
 clear X0 R0 hb0 hgR
 have l0:=Bl.ld S0.p0 0 rfl
 have l1:=Bl.ld S0.p0 1 rfl
 have l2:=Bl.ld S0.p0 2 rfl
 have l3:=Bl.ld S0.p0 3 rfl
 have l4:=Bl.ld S0.p0 4 rfl
 have l5:=Bl.ld S0.p0 5 rfl
 have l6:=Bl.ld S0.p0 6 rfl
 have HOK:=Lib.hid hok
 have k1:¬ col<0:=by have:=hok.1;omega
 have k2:¬ (an:Int)<=col:=by have:=hok.2.1;have:=HL.out;omega
 have k3:dn=an:=by have:=HL.out;omega
 have k4:en=an:=by have:=HL.out;omega
 have k5:bn=an:=by have:=HL.out;omega
 have k6:cn=an:=by have:=HL.out;omega
 have k7:¬ l.n<0:=Yo
 have k8:¬ (an:Int)<l.n:=by have:=HL.out;omega
 have a1:decide (col<0)=false:=decide_eq_false k1
 have a2:decide ((an:Int)<=col)=false:=decide_eq_false k2
 clear hlo hhi hbl hbh hn0 hn1 hok
 obtain ⟨N,hN⟩:∃ N:Nat,l.n=(N:Int):=⟨l.n.toNat,Yo⟩
 obtain ⟨j,hj⟩:∃ j:Nat,col=(j:Int):=⟨col.toNat,Yo⟩
 have hNa:N<=an:=Yo
 have hja:j<an:=Yo
 have HN:=Yh2 hN hj
 have LEN:Hid (bn=an/\cn=an/\dn=an/\en=an):=⟨Yo,Yo,Yo,Yo⟩
 obtain ⟨bL,hbL⟩:∃ b,l.hasLo[j]?=some b:=⟨_,List.getElem?_eq_getElem (by rw [HL.p1];omega)⟩
 obtain ⟨gbL,obL,cbL,e,hgbL,cb0L⟩:=HS.p1.at_ hbL
 rw [HL.p1] at e
 injection e with e1 e2 e3
 subst e1
 clear e2 e3 cbL
 obtain ⟨fL,hfL⟩:∃ f,l.lo[j]?=some f:=⟨_,List.getElem?_eq_getElem (by rw [HL.p3];omega)⟩
 obtain ⟨gfL,ofL,cfL,yL,e,hgfL,hFL,y0L,y1L,y2L⟩:=HS.p3.at_ hfL
 rw [HL.p3] at e
 injection e with e1 e2 e3
 subst e1
 clear e2 e3 cfL
 obtain ⟨bH,hbH⟩:∃ b,l.hasHi[j]?=some b:=⟨_,List.getElem?_eq_getElem (by rw [HL.p2];omega)⟩
 obtain ⟨gbH,obH,cbH,e,hgbH,cb0H⟩:=HS.p2.at_ hbH
 rw [HL.p2] at e
 injection e with e1 e2 e3
 subst e1
 clear e2 e3 cbH
 obtain ⟨fH,hfH⟩:∃ f,l.hi[j]?=some f:=⟨_,List.getElem?_eq_getElem (by rw [HL.q4];omega)⟩
 obtain ⟨gfH,ofH,cfH,yH,e,hgfH,hFH,y0H,y1H,y2H⟩:=HS.p4.at_ hfH
 rw [HL.q4] at e
 injection e with e1 e2 e3
 subst e1
 clear e2 e3 cfH
 have hhas:hasX l col true=bH:=by unfold hasX;rw [hj];simp [List.getD_eq_getElem?_getD,hbH]
 have hrhs:rhsX l col true=fH:=by unfold rhsX;rw [hj];simp [List.getD_eq_getElem?_getD,hfH]
 have HX:=Yh4 hFH hhas hrhs (HS.p5.2.2 fH (.inr <| .inl (List.mem_of_getElem? hfH)))
 clear hhas hrhs hbL hfL hFL hbH hfH hFH
 have HCL:Hid (∀ W,Yg w W->W.cell? ⟨gbL,obL+j,none⟩=some (.bool bL)/\W.cell? ⟨gfL,ofL+j*3,none⟩=some (.bool yL.b)/\W.cell? ⟨gfL,ofL+j*3+1,none⟩=some (.slice yL.A yL.l yL.k)/\W.cell? ⟨gfL,ofL+j*3+2,none⟩=some (.slice yL.B yL.m yL.d)):=fun W hb=>⟨(hb.cell (p:=⟨gbL,_,none⟩) hgbL).trans cb0L,(hb.cell (p:=⟨gfL,_,none⟩) hgfL).trans y0L,(hb.cell (p:=⟨gfL,_,none⟩) hgfL).trans y1L,(hb.cell (p:=⟨gfL,_,none⟩) hgfL).trans y2L⟩
 have HCH:Hid (∀ W,Yg w W->W.cell? ⟨gbH,obH+j,none⟩=some (.bool bH)/\W.cell? ⟨gfH,ofH+j*3,none⟩=some (.bool yH.b)/\W.cell? ⟨gfH,ofH+j*3+1,none⟩=some (.slice yH.A yH.l yH.k)/\W.cell? ⟨gfH,ofH+j*3+2,none⟩=some (.slice yH.B yH.m yH.d)):=fun W hb=>⟨(hb.cell (p:=⟨gbH,_,none⟩) hgbH).trans cb0H,(hb.cell (p:=⟨gfH,_,none⟩) hgfH).trans y0H,(hb.cell (p:=⟨gfH,_,none⟩) hgfH).trans y1H,(hb.cell (p:=⟨gfH,_,none⟩) hgfH).trans y2H⟩
 have B0L:=(S0.q2.cell (p:=⟨gbL,_,none⟩) hgbL).trans cb0L
 have Y0L:=(S0.q2.cell (p:=⟨gfL,_,none⟩) hgfL).trans y0L
 have Y1L:=(S0.q2.cell (p:=⟨gfL,_,none⟩) hgfL).trans y1L
 have Y2L:=(S0.q2.cell (p:=⟨gfL,_,none⟩) hgfL).trans y2L
 have B0H:=(S0.q2.cell (p:=⟨gbH,_,none⟩) hgbH).trans cb0H
 have Y0H:=(S0.q2.cell (p:=⟨gfH,_,none⟩) hgfH).trans y0H
 have Y1H:=(S0.q2.cell (p:=⟨gfH,_,none⟩) hgfH).trans y1H
 have Y2H:=(S0.q2.cell (p:=⟨gfH,_,none⟩) hgfH).trans y2H
 clear hgbL hgfL cb0L y0L y1L y2L hgbH hgfH cb0H y0H y1H y2H
 have a9:(j:Int)<(an:Int):=Yo
 have HBND:=Yh2 hNa hja
 rw [hN] at S0 l0 k7 k8
 subst hj
 clear k1 k2 k3 k4 k5 k6 k7 k8
 have hdn:(j:Int)<(dn:Int):=by have:=LEN.out;omega
 have hen:(j:Int)<(en:Int):=by have:=LEN.out;omega
 have hbn:(j:Int)<(bn:Int):=by have:=LEN.out;omega
 have hcn:(j:Int)<(cn:Int):=by have:=LEN.out;omega
 cases bH with
 | false=>
  have hE:tellX (boundX l (j:Int) true)=(Cx.no,2):=bound_none fun hh=>by have h:=hh.2;rw [HX.p1] at h;cases h
  have HE:=Lib.hid hE
  clear hE
  have f0:=Bl.fr S0.p1 0
  have f1:=Bl.fr S0.p1 1
  have f2:=Bl.fr S0.p1 2
  have f3:=Bl.fr S0.p1 3
  have f4:=Bl.fr S0.p1 4
  have r0:=Bl.ld S0.p1 0 rfl
  have r1:=Bl.ld S0.p1 1 rfl
  have r2:=Bl.ld S0.p1 2 rfl
  have r3:=Bl.ld S0.p1 3 rfl
  have r4:=Bl.ld S0.p1 4 rfl
  go_wp2_with fail
  clear f0 r0 f1 r1 f2 r2 f3 r3 f4 r4
  try simp only [Exit.inBlock,Exit.then]
  refine ret_bl (S0.p1.set5 rfl _ _ _ _ _) (fun W hW=>by have d0:=hW 0 _ rfl;have d1:=hW 1 _ rfl;have d2:=hW 2 _ rfl;have d3:=hW 3 _ rfl;have d4:=hW 4 _ rfl;simp [results,Tryz.results19,go_sem,d0,d1,d2,d3,d4];try rfl) rfl ?_
  rw [HE.out]
  exact ⟨_,rfl,Cw.no _ _ (below5 S0.q2 (Nat.le_of_lt hgl) _ _ _ _ _)⟩
 | true=>
  have hE:tellX (boundX l (j:Int) true)=(cB l (j:Int) true,0):=bound_ok HOK.out HX.p1
  have HE:=Lib.hid hE
  clear hE
  go_upto_region 6 with (fail)
  have hal:=Ya W0 (.cells #[.int .i64 2,.slice none 0 0,.bool yL.b,.slice yL.A yL.l yL.k,.slice yL.B yL.m yL.d] 39)
  obtain ⟨g9,hg9⟩:∃ g,g=W0.heap.size:=⟨_,rfl⟩
  have hg99:w.heap.size<g9/\gR<g9:=by rw [hg9];exact ⟨S0.p0.lt,S0.p1.lt⟩
  have S1:=Yh4 (S0.p0.keep hal) (S0.p1.keep hal) (Bl.new W0 39 [.int .i64 2,.slice none 0 0,.bool yL.b,.slice yL.A yL.l yL.k,.slice yL.B yL.m yL.d]) (Yb S0.q2 hal)
  rw [<- hg9] at S1 ⊢
  generalize W0.alloc _=W1 at S1 ⊢
  clear hal hg9 S0 l0 l1 l2 l3 l4 l5 l6 B0L Y0L Y1L Y2L B0H Y0H Y1H Y2H
  have l0:=Bl.ld S1.p0 0 rfl
  have l1:=Bl.ld S1.p0 1 rfl
  have l2:=Bl.ld S1.p0 2 rfl
  have l3:=Bl.ld S1.p0 3 rfl
  have l4:=Bl.ld S1.p0 4 rfl
  have l5:=Bl.ld S1.p0 5 rfl
  have l6:=Bl.ld S1.p0 6 rfl
  obtain ⟨-,Y0H,Y1H,Y2H⟩:=HCH.out _ S1.q3
  have f0:=Bl.fr S1.p2 0
  have r0:=Bl.ld S1.p2 0 rfl
  have f2:=Bl.fr S1.p2 2
  have r2:=Bl.ld S1.p2 2 rfl
  have f3:=Bl.fr S1.p2 3
  have r3:=Bl.ld S1.p2 3 rfl
  have f4:=Bl.fr S1.p2 4
  have r4:=Bl.ld S1.p2 4 rfl
  have ne0:∀ o,(⟨g9,0,none⟩:Addr)≠⟨w.heap.size,o,none⟩:=fun o e=>by injection e with e;exact absurd e (Nat.ne_of_gt hg99.1)
  go_upto_region 8 with (fail)
  clear ne0 f0 r0 f2 r2 f3 r3 f4 r4 Y0H Y1H Y2H l0 l1 l2 l3 l4 l5 l6
  have S2:Hid (Bl (W1.setCell ⟨g9,0,none⟩ (.int .i64 1)) 26 w.heap.size [.int .i64 (N:Int),.slice aA an ac,.slice (some ⟨gbL,obL,none⟩) bn bc,.slice (some ⟨gbH,obH,none⟩) cn cc,.slice (some ⟨gfL,ofL,none⟩) dn dc,.slice (some ⟨gfH,ofH,none⟩) en ec,.slice fA fn fc]/\Bl (W1.setCell ⟨g9,0,none⟩ (.int .i64 1)) 39 gR [.int .i64 0,.slice none 0 0,.bool false,.slice none 0 0,.slice none 0 0]/\Bl (W1.setCell ⟨g9,0,none⟩ (.int .i64 1)) 39 g9 [.int .i64 1,.slice none 0 0,.bool yL.b,.slice yL.A yL.l yL.k,.slice yL.B yL.m yL.d]/\Yg w (W1.setCell ⟨g9,0,none⟩ (.int .i64 1))):=⟨S1.p0.other (p:=⟨g9,0,none⟩) (Nat.ne_of_gt hg99.1) _,S1.p1.other (p:=⟨g9,0,none⟩) (Nat.ne_of_gt hg99.2) _,S1.p2.set 0 _,S1.q3.setCell (p:=⟨g9,0,none⟩) (Nat.le_of_lt hg99.1) _⟩
  generalize W1.setCell ⟨g9,0,none⟩ (.int .i64 1)=W2 at S2 ⊢
  clear S1
  have l0:=Bl.ld S2.p0 0 rfl
  have l1:=Bl.ld S2.p0 1 rfl
  have l2:=Bl.ld S2.p0 2 rfl
  have l3:=Bl.ld S2.p0 3 rfl
  have l4:=Bl.ld S2.p0 4 rfl
  have l5:=Bl.ld S2.p0 5 rfl
  have l6:=Bl.ld S2.p0 6 rfl
  obtain ⟨-,Y0H,Y1H,Y2H⟩:=HCH.out _ S2.q3
  have f2:=Bl.fr S2.p2 2
  have r2:=Bl.ld S2.p2 2 rfl
  have f3:=Bl.fr S2.p2 3
  have r3:=Bl.ld S2.p2 3 rfl
  have f4:=Bl.fr S2.p2 4
  have r4:=Bl.ld S2.p2 4 rfl
  go_upto_region 9 with (fail)
  clear f2 r2 f3 r3 f4 r4 Y0H Y1H Y2H l0 l1 l2 l3 l4 l5 l6
  have S3:Hid (Bl (((W2.setCell ⟨g9,2,none⟩ (.bool yH.b)).setCell ⟨g9,3,none⟩ (.slice yH.A yH.l yH.k)).setCell ⟨g9,4,none⟩ (.slice yH.B yH.m yH.d)) 26 w.heap.size [.int .i64 (N:Int),.slice aA an ac,.slice (some ⟨gbL,obL,none⟩) bn bc,.slice (some ⟨gbH,obH,none⟩) cn cc,.slice (some ⟨gfL,ofL,none⟩) dn dc,.slice (some ⟨gfH,ofH,none⟩) en ec,.slice fA fn fc]/\Bl (((W2.setCell ⟨g9,2,none⟩ (.bool yH.b)).setCell ⟨g9,3,none⟩ (.slice yH.A yH.l yH.k)).setCell ⟨g9,4,none⟩ (.slice yH.B yH.m yH.d)) 39 gR [.int .i64 0,.slice none 0 0,.bool false,.slice none 0 0,.slice none 0 0]/\Bl (((W2.setCell ⟨g9,2,none⟩ (.bool yH.b)).setCell ⟨g9,3,none⟩ (.slice yH.A yH.l yH.k)).setCell ⟨g9,4,none⟩ (.slice yH.B yH.m yH.d)) 39 g9 [.int .i64 1,.slice none 0 0,.bool yH.b,.slice yH.A yH.l yH.k,.slice yH.B yH.m yH.d]/\Yg w (((W2.setCell ⟨g9,2,none⟩ (.bool yH.b)).setCell ⟨g9,3,none⟩ (.slice yH.A yH.l yH.k)).setCell ⟨g9,4,none⟩ (.slice yH.B yH.m yH.d))):=⟨(((S2.p0).other (p:=⟨g9,2,none⟩) (Nat.ne_of_gt hg99.1) _).other (p:=⟨g9,3,none⟩) (Nat.ne_of_gt hg99.1) _).other (p:=⟨g9,4,none⟩) (Nat.ne_of_gt hg99.1) _,(((S2.p1).other (p:=⟨g9,2,none⟩) (Nat.ne_of_gt hg99.2) _).other (p:=⟨g9,3,none⟩) (Nat.ne_of_gt hg99.2) _).other (p:=⟨g9,4,none⟩) (Nat.ne_of_gt hg99.2) _,((S2.p2.set 2 _).set 3 _).set 4 _,((S2.q3.setCell (p:=⟨g9,2,none⟩) (Nat.le_of_lt hg99.1) _).setCell (p:=⟨g9,3,none⟩) (Nat.le_of_lt hg99.1) _).setCell (p:=⟨g9,4,none⟩) (Nat.le_of_lt hg99.1) _⟩
  generalize ((W2.setCell ⟨g9,2,none⟩ (.bool yH.b)).setCell ⟨g9,3,none⟩ (.slice yH.A yH.l yH.k)).setCell ⟨g9,4,none⟩ (.slice yH.B yH.m yH.d)=W3 at S3 ⊢
  clear S2
  have l0:=Bl.ld S3.p0 0 rfl
  by_cases hlt:j<N
  · skip
    have hrow:mkV (qT (fqT [((j:Int),(1:Rat))]))=mkV (rowT l (j:Int)):=by
     rw [qT_fq];unfold rowT;rw [if_pos (by rw [HN.p0];omega)]
    have HROW:=Lib.hid hrow
    clear hrow
    have dj:decide ((j:Int)<(N:Int))=true:=decide_eq_true Yo
    go_wp2_with fail
    clear l0
    go_loopw [9] (fun z wr=>∃ (k:Nat) (E:Option Addr) (n1 c1:Nat),z=.int .i64 (k:Int)/\k<=N/\Hid (Bl wr 26 w.heap.size [.int .i64 (N:Int),.slice aA an ac,.slice (some ⟨gbL,obL,none⟩) bn bc,.slice (some ⟨gbH,obH,none⟩) cn cc,.slice (some ⟨gfL,ofL,none⟩) dn dc,.slice (some ⟨gfH,ofH,none⟩) en ec,.slice fA fn fc]/\Bl wr 39 gR [.int .i64 0,.slice none 0 0,.bool false,.slice none 0 0,.slice none 0 0]/\Bl wr 39 g9 [.int .i64 1,.slice E n1 c1,.bool yH.b,.slice yH.A yH.l yH.k,.slice yH.B yH.m yH.d]/\Tw w wr (.slice E n1 c1) (fqT (ownT j k)))) (fun z _=>N - (intOf z).toNat)
    case atStart=>exact ⟨0,none,0,0,rfl,Nat.zero_le _,S3.p0,S3.p1,S3.p2,by first | (rw [show ownT j 0=[] from if_neg (Nat.not_lt_zero j)];exact Tw.nil S3.q3) | (simpa [fqT] using Tw.nil S3.q3)⟩
    case round=>
     clear S3
     obtain ⟨k,E,n1,c1,rfl,hk,H⟩:=hrel
     have l0:=Bl.ld H.p0 0 rfl
     by_cases hkN:k<N
     · skip
       have dk:(k:Int)<(N:Int):=Yo
       by_cases hkj:k=j
       · skip
         have e1:((k:Int)==(j:Int))=true:=by rw [hkj];exact beq_self_eq_true _
         have hnx:fqT (ownT j (k+1))=fqT (ownT j k)++[((k:Int),fq 1)]:=by rw [<- hkj];exact own_at k
         have hlen:(fqT (ownT j k)).length<=1048576:=by unfold fqT;rw [List.length_map];exact Nat.le_trans (own_len j k) Yd
         have HY:=Yh2 hnx hlen
         have HKJ:=Lib.hid hkj
         clear hnx hlen hkj
         go_upto_region 13 with (fail)
         clear e1 dk l0
         have T0:=Yh4 (H.p0.keep (below_d _)) (H.p1.keep (below_d _)) (H.p2.keep (below_d _)) (H.q3.keep (below_d _))
         refine wp_region_late 9 (by kernel_rfl) (by kernel_rfl) (Yl 10 512).toArray (by kernel_rfl) (S:=fun W=>Yc5 W g9 (.int .i64 1) (.slice E n1 c1) (.bool yH.b) (.slice yH.A yH.l yH.k) (.slice yH.B yH.m yH.d) (Ye7 W w.heap.size (.int .i64 (N:Int)) (.slice aA an ac) (.slice (some ⟨gbL,obL,none⟩) bn bc) (.slice (some ⟨gbH,obH,none⟩) cn cc) (.slice (some ⟨gfL,ofL,none⟩) dn dc) (.slice (some ⟨gfH,ofH,none⟩) en ec) (.slice fA fn fc))) ⟨Bl.ld T0.p2 0 rfl,Bl.ld T0.p2 1 rfl,Bl.ld T0.p2 2 rfl,Bl.ld T0.p2 3 rfl,Bl.ld T0.p2 4 rfl,Bl.ld T0.p0 0 rfl,Bl.ld T0.p0 1 rfl,Bl.ld T0.p0 2 rfl,Bl.ld T0.p0 3 rfl,Bl.ld T0.p0 4 rfl,Bl.ld T0.p0 5 rfl,Bl.ld T0.p0 6 rfl⟩ (fun Hh=>?_)
         clear H
         refine rgT 0 Hh ?_
         refine rgT 1 Hh ?_
         refine rgT 2 Hh ?_
         generalize wr.drew=Wd at T0 Hh ⊢
         refine rgO 3 fun K hK=>?_
         go_simp
         go_at_call 24;refine (small_e (z:=1) sm_one).mono ?_;rintro e w3 ⟨u3,rfl,h3,hb⟩
         obtain ⟨p3,A3,l3,k3,B3,m3,d3,rfl⟩:=h3.parts
         have T0b:=Yh5 (T0.p0.keep hb) (T0.p1.keep hb) (T0.p2.keep hb) (T0.q3.keep hb) h3
         clear h3 hb Hh T0
         go_wp2_with fail
         refine rgK hK ⟨Bl.ld T0b.p2 0 rfl,Bl.ld T0b.p2 1 rfl,Bl.ld T0b.p2 2 rfl,Bl.ld T0b.p2 3 rfl,Bl.ld T0b.p2 4 rfl,Bl.ld T0b.p0 0 rfl,Bl.ld T0b.p0 1 rfl,Bl.ld T0b.p0 2 rfl,Bl.ld T0b.p0 3 rfl,Bl.ld T0b.p0 4 rfl,Bl.ld T0b.p0 5 rfl,Bl.ld T0b.p0 6 rfl⟩ fun Hh=>?_;clear hK K
         refine rgO 4 fun K hK=>?_
         go_simp
         go_at_call 29;refine (to_r (K:=1) T0b.q4 Yd sz_one Yd).mono ?_;rintro e w4 ⟨u4,rfl,h4⟩
         have hf4:=h4.fw
         have hb:=hf4.below
         obtain ⟨A4,l4,k4,B4,m4,d4,rfl⟩:=hf4.fv.parts
         obtain ⟨b4,hb4⟩:∃ b,b=(fq ((1:Int):Rat)).b:=⟨_,rfl⟩
         rw [<- hb4] at hf4 ⊢
         have T1:=Yh5 (T0b.p0.keep hb) (T0b.p1.keep hb) (T0b.p2.keep hb) (T0b.p3.keep hb) (hf4.from T0b.p3.below)
         clear h4 hf4 hb4 hb Hh T0b
         go_wp2_with fail
         refine rgK hK ⟨Bl.ld T1.p2 0 rfl,Bl.ld T1.p2 1 rfl,Bl.ld T1.p2 2 rfl,Bl.ld T1.p2 3 rfl,Bl.ld T1.p2 4 rfl,Bl.ld T1.p0 0 rfl,Bl.ld T1.p0 1 rfl,Bl.ld T1.p0 2 rfl,Bl.ld T1.p0 3 rfl,Bl.ld T1.p0 4 rfl,Bl.ld T1.p0 5 rfl,Bl.ld T1.p0 6 rfl⟩ fun Hh=>?_;clear hK K
         refine rgT 5 Hh ?_
         refine rgO 6 fun K hK=>?_
         go_simp
         have hal:=Ya w4 (.cells #[.int .i64 (k:Int),.bool b4,.slice A4 l4 k4,.slice B4 m4 d4] 85)
         have T2:=Yh6 (T1.p0.keep hal) (T1.p1.keep hal) (T1.p2.keep hal) (T1.p3.keep hal) (T1.q4.keep hal) (Bl.new w4 85 [.int .i64 (k:Int),.bool b4,.slice A4 l4 k4,.slice B4 m4 d4])
         refine rgK hK ⟨Bl.ld T2.p2 0 rfl,Bl.ld T2.p2 1 rfl,Bl.ld T2.p2 2 rfl,Bl.ld T2.p2 3 rfl,Bl.ld T2.p2 4 rfl,Bl.ld T2.p0 0 rfl,Bl.ld T2.p0 1 rfl,Bl.ld T2.p0 2 rfl,Bl.ld T2.p0 3 rfl,Bl.ld T2.p0 4 rfl,Bl.ld T2.p0 5 rfl,Bl.ld T2.p0 6 rfl⟩ fun Hh=>?_;clear hK K
         clear T1 hal
         obtain ⟨gn,hgn⟩:∃ k,w4.heap.size=k:=⟨_,rfl⟩
         rw [hgn] at T2 ⊢
         generalize w4.alloc _=W5 at T2 Hh ⊢
         clear hgn
         refine rgO 7 fun K hK=>?_
         rw [if_pos (by rfl)]
         refine app_t (t:=((k:Int),fq (1))) (.tmp 72) (.tmp 77) rfl (x:=⟨(k:Int),b4,A4,l4,k4,B4,m4,d4,1⟩) rfl rfl T2.p3 rfl (fq_q _).symm T2.p4 T2.q5 HY.q1 ?_
         intro u6 w6 q1 q2 q3
         rw [show fqT (ownT j k)++[((k:Int),fq (1))]=fqT (ownT j (k+1)) from HY.p0.symm] at q1
         obtain ⟨E6,c6,rfl⟩:=q1.shape
         obtain ⟨n6,hn6⟩:∃ n,n=(fqT (ownT j (k+1))).length:=⟨_,rfl⟩
         rw [<- hn6] at q1 ⊢
         have T3:Hid (Bl w6 26 w.heap.size [.int .i64 (N:Int),.slice aA an ac,.slice (some ⟨gbL,obL,none⟩) bn bc,.slice (some ⟨gbH,obH,none⟩) cn cc,.slice (some ⟨gfL,ofL,none⟩) dn dc,.slice (some ⟨gfH,ofH,none⟩) en ec,.slice fA fn fc]/\Bl w6 39 gR [.int .i64 0,.slice none 0 0,.bool false,.slice none 0 0,.slice none 0 0]/\Bl w6 39 g9 [.int .i64 1,.slice E n1 c1,.bool yH.b,.slice yH.A yH.l yH.k,.slice yH.B yH.m yH.d]/\Tw w w6 (.slice E6 n6 c6) (fqT (ownT j (k+1)))):=⟨(q2 _ Yd).bl T2.p0,(q2 _ Yd).bl T2.p1,(q2 _ Yd).bl T2.p2,q1⟩
         clear q1 q2 q3 hn6
         refine rgK hK ⟨Bl.ld T3.p2 0 rfl,Bl.ld T3.p2 1 rfl,Bl.ld T3.p2 2 rfl,Bl.ld T3.p2 3 rfl,Bl.ld T3.p2 4 rfl,Bl.ld T3.p0 0 rfl,Bl.ld T3.p0 1 rfl,Bl.ld T3.p0 2 rfl,Bl.ld T3.p0 3 rfl,Bl.ld T3.p0 4 rfl,Bl.ld T3.p0 5 rfl,Bl.ld T3.p0 6 rfl⟩ fun Hh=>?_;clear hK K
         clear T2
         refine rgT 8 Hh ?_
         refine Yw ?_
         clear Hh
         refine late_go (T:=fun _=>True) (Yl 10 511).toArray 1 (by kernel_rfl) (by kernel_rfl) ?_
         have f1:=Bl.fr T3.p2 1
         have r1:=Bl.ld T3.p2 1 rfl
         refine rgO 9 fun K hK=>?_
         go_simp
         refine rgK hK trivial fun _=>?_;clear hK K
         refine Yw ?_
         clear f1 r1
         have K2:Hid (Bl (w6.setCell ⟨g9,1,none⟩ (.slice E6 n6 c6)) 26 w.heap.size [.int .i64 (N:Int),.slice aA an ac,.slice (some ⟨gbL,obL,none⟩) bn bc,.slice (some ⟨gbH,obH,none⟩) cn cc,.slice (some ⟨gfL,ofL,none⟩) dn dc,.slice (some ⟨gfH,ofH,none⟩) en ec,.slice fA fn fc]/\Bl (w6.setCell ⟨g9,1,none⟩ (.slice E6 n6 c6)) 39 gR [.int .i64 0,.slice none 0 0,.bool false,.slice none 0 0,.slice none 0 0]/\Bl (w6.setCell ⟨g9,1,none⟩ (.slice E6 n6 c6)) 39 g9 [.int .i64 1,.slice E6 n6 c6,.bool yH.b,.slice yH.A yH.l yH.k,.slice yH.B yH.m yH.d]/\Tw w (w6.setCell ⟨g9,1,none⟩ (.slice E6 n6 c6)) (.slice E6 n6 c6) (fqT (ownT j (k+1)))):=⟨T3.p0.other (p:=⟨g9,1,none⟩) (Nat.ne_of_gt hg99.1) _,T3.p1.other (p:=⟨g9,1,none⟩) (Nat.ne_of_gt hg99.2) _,T3.p2.set 1 _,T3.q3.keepT (T3.p2.keepT1 Yd 1 _) (T3.p2.keepT1 Yd 1 _) (T3.q3.below.setCell (p:=⟨g9,1,none⟩) (Nat.le_of_lt hg99.1) _)⟩
         clear T3
         generalize w6.setCell ⟨g9,1,none⟩ (.slice E6 n6 c6)=W9 at K2 ⊢
         have l0:=Bl.ld K2.p0 0 rfl
         go_wp2_with fail
         case roundEnd=>exact ⟨⟨k+1,E6,n6,c6,by go_num,Yo,K2.out⟩,by simp [intOf];omega⟩
       have e1:((k:Int)==(j:Int))=false:=beq_eq_false_iff_ne.2 Yo
       have K2:Hid (Bl wr 26 w.heap.size [.int .i64 (N:Int),.slice aA an ac,.slice (some ⟨gbL,obL,none⟩) bn bc,.slice (some ⟨gbH,obH,none⟩) cn cc,.slice (some ⟨gfL,ofL,none⟩) dn dc,.slice (some ⟨gfH,ofH,none⟩) en ec,.slice fA fn fc]/\Bl wr 39 gR [.int .i64 0,.slice none 0 0,.bool false,.slice none 0 0,.slice none 0 0]/\Bl wr 39 g9 [.int .i64 1,.slice E n1 c1,.bool yH.b,.slice yH.A yH.l yH.k,.slice yH.B yH.m yH.d]/\Tw w wr (.slice E n1 c1) (fqT (ownT j (k+1)))):=by
        rw [own_off hkj]
        exact H.out
       go_wp2_with fail
       case roundEnd=>exact ⟨⟨k+1,E,n1,c1,by go_num,Yo,K2.out⟩,by simp [intOf];omega⟩
     obtain rfl:k=N:=by omega
     have dk:¬ (k:Int)<(k:Int):=Yo
     have S5:Hid (Bl wr 26 w.heap.size [.int .i64 (k:Int),.slice aA an ac,.slice (some ⟨gbL,obL,none⟩) bn bc,.slice (some ⟨gbH,obH,none⟩) cn cc,.slice (some ⟨gfL,ofL,none⟩) dn dc,.slice (some ⟨gfH,ofH,none⟩) en ec,.slice fA fn fc]/\Bl wr 39 gR [.int .i64 0,.slice none 0 0,.bool false,.slice none 0 0,.slice none 0 0]/\Bl wr 39 g9 [.int .i64 1,.slice E n1 c1,.bool yH.b,.slice yH.A yH.l yH.k,.slice yH.B yH.m yH.d]/\Yg w wr/\Tx wr (.slice E n1 c1) (fqT [((j:Int),(1:Rat))])):=by
      have h:=H.q3
      rw [own_all hlt] at h
      exact ⟨H.p0,H.p1,H.p2,h.below,h.tx⟩
     clear H
     have s0:=Bl.ld S5.p2 0 rfl
     have s1:=Bl.ld S5.p2 1 rfl
     have s2:=Bl.ld S5.p2 2 rfl
     have s3:=Bl.ld S5.p2 3 rfl
     have s4:=Bl.ld S5.p2 4 rfl
     go_wp2_with fail
     refine (form_cd (L:=211) (J:=211) (c:=⟨1,fqT [((j:Int),(1:Rat))],fH⟩) ⟨⟨1,E,n1,c1,yH.b,yH.A,yH.l,yH.k,yH.B,yH.m,yH.d⟩,rfl,rfl,S5.q4,HX.p0.keep S5.p3⟩ Yd Yd (by unfold fqT;simp) (fun t ht=>by rw [List.mem_singleton.1 ht];exact ⟨Nat.le_trans (fq_len sz_one).1 Yd,Nat.le_trans (fq_len sz_one).2 Yd⟩) ⟨Nat.le_trans HX.p3 Yd,Nat.le_trans HX.q4 Yd⟩ (fun i=>by rw [qT_fq];exact sz_getV Yd (List.pairwise_singleton _ _) (fun t ht=>by rw [List.mem_singleton.1 ht];exact sz_one.mono Yd) i) (by have h:=rhs_sz HS.p6 (j:Int) true;rw [HX.p2] at h;exact h.mono Yd) Yd).mono ?_;rintro e wz ⟨uz,rfl,hz⟩
     obtain ⟨⟨sz,Ez,nz,cz,bz,Az,lz,kz,Bz,mz,dz⟩,rfl,hsz,htz,hrz⟩:=hz
     have hb:=htz.below
     have hcB:(⟨1,fqT (mkV (qT (fqT [((j:Int),(1:Rat))]))),fq fH.q⟩:Cx)=cB l (j:Int) true:=by unfold cB;rw [HX.p2,HROW.out];rfl
     have hsz:sz=1:=hsz
     subst hsz
     have Z:Hid (Bl wz 39 gR [.int .i64 0,.slice none 0 0,.bool false,.slice none 0 0,.slice none 0 0]/\Cw w wz (.agg #[.int .i64 1,.slice Ez nz cz,.bool bz,.slice Az lz kz,.slice Bz mz dz]) (cB l (j:Int) true)):=⟨S5.p1.keep hb,by rw [<- hcB];exact ⟨⟨1,Ez,nz,cz,bz,Az,lz,kz,Bz,mz,dz⟩,rfl,rfl,htz.from S5.p3,hrz.from S5.p3⟩⟩
     clear htz hrz hb hcB s0 s1 s2 s3 s4
     have f0:=Bl.fr Z.p0 0
     have f1:=Bl.fr Z.p0 1
     have f2:=Bl.fr Z.p0 2
     have f3:=Bl.fr Z.p0 3
     have f4:=Bl.fr Z.p0 4
     have r0:=Bl.ld Z.p0 0 rfl
     have r1:=Bl.ld Z.p0 1 rfl
     have r2:=Bl.ld Z.p0 2 rfl
     have r3:=Bl.ld Z.p0 3 rfl
     have r4:=Bl.ld Z.p0 4 rfl
     simp only [Cm.agg]
     go_wp2_with fail
     clear f0 r0 f1 r1 f2 r2 f3 r3 f4 r4
     try simp only [Exit.inBlock,Exit.then]
     refine ret_bl (Z.p0.set5 rfl _ _ _ _ _) (fun W hW=>by have d0:=hW 0 _ rfl;have d1:=hW 1 _ rfl;have d2:=hW 2 _ rfl;have d3:=hW 3 _ rfl;have d4:=hW 4 _ rfl;simp [results,Tryz.results19,go_sem,d0,d1,d2,d3,d4];try rfl) rfl ?_
     rw [HE.out]
     exact ⟨_,rfl,Z.q1.keepT (Z.p0.keep5 Yd _ _ _ _ _) (Z.p0.keep5 Yd _ _ _ _ _) (below5 Z.q1.below (Nat.le_of_lt hgl) _ _ _ _ _)⟩
  have dj:decide ((j:Int)<(N:Int))=false:=decide_eq_false Yo
  have dj2:decide ((N:Int)<=(j:Int))=true:=decide_eq_true Yo
  have HCL2:=Lib.hid (show l.n<=(j:Int) by rw [HN.p0];omega)
  have hrow:mkV (qT (fqT (rowT l (j:Int))))=mkV (rowT l (j:Int)):=by rw [qT_fq]
  have HROW:=Lib.hid hrow
  clear hrow
  go_wp2_with fail
  clear l0
  go_loopw [9] (fun z wr=>∃ (k:Nat) (E:Option Addr) (n1 c1:Nat),z=.int .i64 (k:Int)/\k<=N/\Hid (Bl wr 26 w.heap.size [.int .i64 (N:Int),.slice aA an ac,.slice (some ⟨gbL,obL,none⟩) bn bc,.slice (some ⟨gbH,obH,none⟩) cn cc,.slice (some ⟨gfL,ofL,none⟩) dn dc,.slice (some ⟨gfH,ofH,none⟩) en ec,.slice fA fn fc]/\Bl wr 39 gR [.int .i64 0,.slice none 0 0,.bool false,.slice none 0 0,.slice none 0 0]/\Bl wr 39 g9 [.int .i64 1,.slice E n1 c1,.bool yH.b,.slice yH.A yH.l yH.k,.slice yH.B yH.m yH.d]/\Tw w wr (.slice E n1 c1) (fqT ((rowT l (j:Int)).take k)))) (fun z _=>N - (intOf z).toNat)
  case atStart=>exact ⟨0,none,0,0,rfl,Nat.zero_le _,S3.p0,S3.p1,S3.p2,by first | (rw [show ownT j 0=[] from if_neg (Nat.not_lt_zero j)];exact Tw.nil S3.q3) | (simpa [fqT] using Tw.nil S3.q3)⟩
  case round=>
   clear S3
   obtain ⟨k,E,n1,c1,rfl,hk,H⟩:=hrel
   have l0:=Bl.ld H.p0 0 rfl
   by_cases hkN:k<N
   · skip
     obtain ⟨c,hc⟩:∃ c,l.cols[k]?=some c:=⟨_,List.getElem?_eq_getElem (by rw [HL.p0];have:=HBND.out;omega)⟩
     obtain ⟨gc,oc,capc,x,e,hgc,hTx,c0⟩:=HS.p0.at_ hc
     injection e with e1 e2 e3
     subst e1
     clear e2 e3 capc
     have HC0:Hid (∀ W,Yg w W->W.cell? ⟨gc,oc+k,none⟩=some (.slice x.A x.l x.k)):=fun W hb=>(hb.cell (p:=⟨gc,_,none⟩) hgc).trans c0
     have hfc:=fit_cols HS.p5 hc
     have hnx:=rowT_take (l:=l) (col:=(j:Int)) (k:=k) (by rw [HN.p0];omega) (Int.not_lt.2 HCL2.out) hc
     rw [HN.p0] at hnx
     have hnx2:fqT ((rowT l (j:Int)).take (k+1))=fqT ((rowT l (j:Int)).take k)++[((k:Int),fq (getV (qT c) ((j:Int) - (N:Int))))]:=by rw [hnx,fqT_app];rfl
     have hlen:(fqT ((rowT l (j:Int)).take k)).length<=1048576:=by unfold fqT;rw [List.length_map,List.length_take];have:=HBND.out;omega
     have HY:=Yh2 hnx2 hlen
     have HT:=Yh2 hTx hfc
     have dk:(k:Int)<(N:Int):=Yo
     have dn2:(k:Int)<(an:Int):=by have:=HBND.out;omega
     have hsub:IntKind.i64.wrap ((j:Int) - (N:Int))=(j:Int) - (N:Int):=by rw [IntKind.wrap_i64];have:=HBND.out;omega
     clear hc hgc hTx hfc hnx hnx2 hlen c0
     go_upto_region 15 with (fail)
     clear dk dj dj2 l0
     have T0:=Yh4 (H.p0.keep (below_d _)) (H.p1.keep (below_d _)) (H.p2.keep (below_d _)) (H.q3.keep (below_d _))
     refine wp_region_late 18 (by kernel_rfl) (by kernel_rfl) (Yl 19 262144).toArray (by kernel_rfl) (S:=fun W=>W.cell? ⟨g9,1,none⟩=some (.slice E n1 c1)/\W.cell? ⟨w.heap.size,0,none⟩=some (.int .i64 (N:Int))/\W.cell? ⟨w.heap.size,1,none⟩=some (.slice (some ⟨gc,oc,none⟩) an ac)/\W.cell? ⟨gc,oc+k,none⟩=some (.slice x.A x.l x.k)) ⟨Bl.ld T0.p2 1 rfl,Bl.ld T0.p0 0 rfl,Bl.ld T0.p0 1 rfl,HC0.out _ T0.q3.below⟩ (fun Hh=>?_)
     clear H
     refine rgRun 12 [0,1,2,3,4,5,6,7,8,9,10,11] Hh fun K hK=>?_
     repeat refine rgA ?_
     refine hK _ _ ?_;clear hK K
     generalize wr.drew=Wd at T0 Hh ⊢
     refine rgO 12 fun K hK=>?_
     go_simp
     go_at_call 27;refine (get_e (L:=6) (col:=(j:Int) - (N:Int)) ((HT.p0.keep T0.q3.below).vt HT.q2) Yd Yd (by unfold qT;rw [List.length_map];exact Nat.le_trans HT.p1 Yd)).mono ?_;rintro e w3 ⟨u3,rfl,h3,hb⟩
     have hqT:(qT c).length<=30:=by unfold qT;rw [List.length_map];exact HT.p1
     obtain ⟨p3,A3,l3,k3,B3,m3,d3,rfl⟩:=h3.parts
     have h3:=h3.mono (M:=937) (by have:=Nat.mul_le_mul_right 31 hqT;omega)
     have T0b:=Yh5 (T0.p0.keep hb) (T0.p1.keep hb) (T0.p2.keep hb) (T0.q3.keep hb) h3
     clear h3 hb Hh T0 hqT
     go_wp2_with fail
     refine rgK hK ⟨Bl.ld T0b.p2 1 rfl,Bl.ld T0b.p0 0 rfl,Bl.ld T0b.p0 1 rfl,HC0.out _ T0b.p3.below⟩ fun Hh=>?_;clear hK K
     refine rgO 13 fun K hK=>?_
     go_simp
     go_at_call 29;refine (to_r (K:=211) T0b.q4 Yd (getV_sz HT.p0 HT.q1 _) Yd).mono ?_;rintro e w4 ⟨u4,rfl,h4⟩
     have hf4:=h4.fw
     have hb:=hf4.below
     obtain ⟨A4,l4,k4,B4,m4,d4,rfl⟩:=hf4.fv.parts
     obtain ⟨b4,hb4⟩:∃ b,b=(fq (getV (qT c) ((j:Int) - (N:Int)))).b:=⟨_,rfl⟩
     rw [<- hb4] at hf4 ⊢
     have T1:=Yh5 (T0b.p0.keep hb) (T0b.p1.keep hb) (T0b.p2.keep hb) (T0b.p3.keep hb) (hf4.from T0b.p3.below)
     clear h4 hf4 hb4 hb Hh T0b
     go_wp2_with fail
     refine rgK hK ⟨Bl.ld T1.p2 1 rfl,Bl.ld T1.p0 0 rfl,Bl.ld T1.p0 1 rfl,HC0.out _ T1.p3.below⟩ fun Hh=>?_;clear hK K
     refine rgT 14 Hh ?_
     refine rgO 15 fun K hK=>?_
     go_simp
     have hal:=Ya w4 (.cells #[.int .i64 (k:Int),.bool b4,.slice A4 l4 k4,.slice B4 m4 d4] 85)
     have T2:=Yh6 (T1.p0.keep hal) (T1.p1.keep hal) (T1.p2.keep hal) (T1.p3.keep hal) (T1.q4.keep hal) (Bl.new w4 85 [.int .i64 (k:Int),.bool b4,.slice A4 l4 k4,.slice B4 m4 d4])
     refine rgK hK ⟨Bl.ld T2.p2 1 rfl,Bl.ld T2.p0 0 rfl,Bl.ld T2.p0 1 rfl,HC0.out _ T2.p3.below⟩ fun Hh=>?_;clear hK K
     clear T1 hal
     obtain ⟨gn,hgn⟩:∃ k,w4.heap.size=k:=⟨_,rfl⟩
     rw [hgn] at T2 ⊢
     generalize w4.alloc _=W5 at T2 Hh ⊢
     clear hgn
     refine rgO 16 fun K hK=>?_
     rw [if_pos (by rfl)]
     refine app_t (t:=((k:Int),fq (getV (qT c) ((j:Int) - (N:Int))))) (.tmp 85) (.tmp 99) rfl (x:=⟨(k:Int),b4,A4,l4,k4,B4,m4,d4,getV (qT c) ((j:Int) - (N:Int))⟩) rfl rfl T2.p3 rfl (fq_q _).symm T2.p4 T2.q5 HY.q1 ?_
     intro u6 w6 q1 q2 q3
     rw [show fqT ((rowT l (j:Int)).take k)++[((k:Int),fq (getV (qT c) ((j:Int) - (N:Int))))]=fqT ((rowT l (j:Int)).take (k+1)) from HY.p0.symm] at q1
     obtain ⟨E6,c6,rfl⟩:=q1.shape
     obtain ⟨n6,hn6⟩:∃ n,n=(fqT ((rowT l (j:Int)).take (k+1))).length:=⟨_,rfl⟩
     rw [<- hn6] at q1 ⊢
     have T3:Hid (Bl w6 26 w.heap.size [.int .i64 (N:Int),.slice (some ⟨gc,oc,none⟩) an ac,.slice (some ⟨gbL,obL,none⟩) bn bc,.slice (some ⟨gbH,obH,none⟩) cn cc,.slice (some ⟨gfL,ofL,none⟩) dn dc,.slice (some ⟨gfH,ofH,none⟩) en ec,.slice fA fn fc]/\Bl w6 39 gR [.int .i64 0,.slice none 0 0,.bool false,.slice none 0 0,.slice none 0 0]/\Bl w6 39 g9 [.int .i64 1,.slice E n1 c1,.bool yH.b,.slice yH.A yH.l yH.k,.slice yH.B yH.m yH.d]/\Tw w w6 (.slice E6 n6 c6) (fqT ((rowT l (j:Int)).take (k+1)))):=⟨(q2 _ Yd).bl T2.p0,(q2 _ Yd).bl T2.p1,(q2 _ Yd).bl T2.p2,q1⟩
     clear q1 q2 q3 hn6
     refine rgK hK ⟨Bl.ld T3.p2 1 rfl,Bl.ld T3.p0 0 rfl,Bl.ld T3.p0 1 rfl,HC0.out _ T3.q3.below⟩ fun Hh=>?_;clear hK K
     clear T2
     refine rgT 17 Hh ?_
     refine Yw ?_
     clear Hh
     refine late_go (T:=fun _=>True) (Yl 19 262143).toArray 1 (by kernel_rfl) (by kernel_rfl) ?_
     have f1:=Bl.fr T3.p2 1
     have r1:=Bl.ld T3.p2 1 rfl
     refine rgO 18 fun K hK=>?_
     go_simp
     refine rgK hK trivial fun _=>?_;clear hK K
     refine Yw ?_
     clear f1 r1
     have K2:Hid (Bl (w6.setCell ⟨g9,1,none⟩ (.slice E6 n6 c6)) 26 w.heap.size [.int .i64 (N:Int),.slice (some ⟨gc,oc,none⟩) an ac,.slice (some ⟨gbL,obL,none⟩) bn bc,.slice (some ⟨gbH,obH,none⟩) cn cc,.slice (some ⟨gfL,ofL,none⟩) dn dc,.slice (some ⟨gfH,ofH,none⟩) en ec,.slice fA fn fc]/\Bl (w6.setCell ⟨g9,1,none⟩ (.slice E6 n6 c6)) 39 gR [.int .i64 0,.slice none 0 0,.bool false,.slice none 0 0,.slice none 0 0]/\Bl (w6.setCell ⟨g9,1,none⟩ (.slice E6 n6 c6)) 39 g9 [.int .i64 1,.slice E6 n6 c6,.bool yH.b,.slice yH.A yH.l yH.k,.slice yH.B yH.m yH.d]/\Tw w (w6.setCell ⟨g9,1,none⟩ (.slice E6 n6 c6)) (.slice E6 n6 c6) (fqT ((rowT l (j:Int)).take (k+1)))):=⟨T3.p0.other (p:=⟨g9,1,none⟩) (Nat.ne_of_gt hg99.1) _,T3.p1.other (p:=⟨g9,1,none⟩) (Nat.ne_of_gt hg99.2) _,T3.p2.set 1 _,T3.q3.keepT (T3.p2.keepT1 Yd 1 _) (T3.p2.keepT1 Yd 1 _) (T3.q3.below.setCell (p:=⟨g9,1,none⟩) (Nat.le_of_lt hg99.1) _)⟩
     clear T3
     generalize w6.setCell ⟨g9,1,none⟩ (.slice E6 n6 c6)=W9 at K2 ⊢
     clear hsub dn2
     go_wp2_with fail
     case roundEnd=>exact ⟨⟨k+1,E6,n6,c6,by go_num,Yo,K2.out⟩,by simp [intOf];omega⟩
   obtain rfl:k=N:=by omega
   have dk:¬ (k:Int)<(k:Int):=Yo
   have S5:Hid (Bl wr 26 w.heap.size [.int .i64 (k:Int),.slice aA an ac,.slice (some ⟨gbL,obL,none⟩) bn bc,.slice (some ⟨gbH,obH,none⟩) cn cc,.slice (some ⟨gfL,ofL,none⟩) dn dc,.slice (some ⟨gfH,ofH,none⟩) en ec,.slice fA fn fc]/\Bl wr 39 gR [.int .i64 0,.slice none 0 0,.bool false,.slice none 0 0,.slice none 0 0]/\Bl wr 39 g9 [.int .i64 1,.slice E n1 c1,.bool yH.b,.slice yH.A yH.l yH.k,.slice yH.B yH.m yH.d]/\Yg w wr/\Tx wr (.slice E n1 c1) (fqT (rowT l (j:Int)))):=by
    have h:=H.q3
    rw [rowT_all HN.p0 (Int.not_lt.2 HCL2.out)] at h
    exact ⟨H.p0,H.p1,H.p2,h.below,h.tx⟩
   clear H
   have hz:=rowT_sz (l:=l) (col:=(j:Int)) (L:=6) (M:=30) fun c hc=>⟨(HS.p5.2.1 c hc).1,fun t ht=>HS.p6.1 c hc t ht⟩
   have hlen:(fqT (rowT l (j:Int))).length<=4096:=by unfold fqT;rw [List.length_map];exact Nat.le_trans (rowT_len (m:=14) (by rw [HN.p0];have:=HBND.out;omega) Yd) Yd
   have HW:=Yh2 hz hlen
   clear hz hlen
   have s0:=Bl.ld S5.p2 0 rfl
   have s1:=Bl.ld S5.p2 1 rfl
   have s2:=Bl.ld S5.p2 2 rfl
   have s3:=Bl.ld S5.p2 3 rfl
   have s4:=Bl.ld S5.p2 4 rfl
   go_wp2_with fail
   refine (form_cd (L:=211) (J:=211) (c:=⟨1,fqT (rowT l (j:Int)),fH⟩) ⟨⟨1,E,n1,c1,yH.b,yH.A,yH.l,yH.k,yH.B,yH.m,yH.d⟩,rfl,rfl,S5.q4,HX.p0.keep S5.p3⟩ Yd Yd HW.q1 (szT_fq HW.p0) ⟨Nat.le_trans HX.p3 Yd,Nat.le_trans HX.q4 Yd⟩ (fun i=>by rw [qT_fq];exact sz_getV Yd (rowT_up l _) HW.p0 i) (by have h:=rhs_sz HS.p6 (j:Int) true;rw [HX.p2] at h;exact h.mono Yd) Yd).mono ?_;rintro e wz ⟨uz,rfl,hz⟩
   obtain ⟨⟨sz,Ez,nz,cz,bz,Az,lz,kz,Bz,mz,dz⟩,rfl,hsz,htz,hrz⟩:=hz
   have hb:=htz.below
   have hcB:(⟨1,fqT (mkV (qT (fqT (rowT l (j:Int))))),fq fH.q⟩:Cx)=cB l (j:Int) true:=by unfold cB;rw [HX.p2,HROW.out];rfl
   have hsz:sz=1:=hsz
   subst hsz
   have Z:Hid (Bl wz 39 gR [.int .i64 0,.slice none 0 0,.bool false,.slice none 0 0,.slice none 0 0]/\Cw w wz (.agg #[.int .i64 1,.slice Ez nz cz,.bool bz,.slice Az lz kz,.slice Bz mz dz]) (cB l (j:Int) true)):=⟨S5.p1.keep hb,by rw [<- hcB];exact ⟨⟨1,Ez,nz,cz,bz,Az,lz,kz,Bz,mz,dz⟩,rfl,rfl,htz.from S5.p3,hrz.from S5.p3⟩⟩
   clear htz hrz hb hcB s0 s1 s2 s3 s4
   have f0:=Bl.fr Z.p0 0
   have f1:=Bl.fr Z.p0 1
   have f2:=Bl.fr Z.p0 2
   have f3:=Bl.fr Z.p0 3
   have f4:=Bl.fr Z.p0 4
   have r0:=Bl.ld Z.p0 0 rfl
   have r1:=Bl.ld Z.p0 1 rfl
   have r2:=Bl.ld Z.p0 2 rfl
   have r3:=Bl.ld Z.p0 3 rfl
   have r4:=Bl.ld Z.p0 4 rfl
   simp only [Cm.agg]
   go_wp2_with fail
   clear f0 r0 f1 r1 f2 r2 f3 r3 f4 r4
   try simp only [Exit.inBlock,Exit.then]
   refine ret_bl (Z.p0.set5 rfl _ _ _ _ _) (fun W hW=>by have d0:=hW 0 _ rfl;have d1:=hW 1 _ rfl;have d2:=hW 2 _ rfl;have d3:=hW 3 _ rfl;have d4:=hW 4 _ rfl;simp [results,Tryz.results19,go_sem,d0,d1,d2,d3,d4];try rfl) rfl ?_
   rw [HE.out]
   exact ⟨_,rfl,Z.q1.keepT (Z.p0.keep5 Yd _ _ _ _ _) (Z.p0.keep5 Yd _ _ _ _ _) (below5 Z.q1.below (Nat.le_of_lt hgl) _ _ _ _ _)⟩
theorem bound_d {w:World} {v:Value} {l:LPx} {col:Int} {up:Bool} (h:LPv w v l) (hf:Fit l) (hlo:l.lo.length=l.cols.length) (hhi:l.hi.length=l.cols.length) (hbl:l.hasLo.length=l.cols.length) (hbh:l.hasHi.length=l.cols.length) (hn0:0<=l.n) (hn1:l.n<=l.cols.length):
 Calls Tryz.prog 19 #[v,.int .i64 col,.bool up] w fun e w'=>∃ r,e=.returned (.tuple #[r,.int .i64 (tellX (boundX l col up)).2])/\Cw w w' r (tellX (boundX l col up)).1:=by
 by_cases hok:okB l col
 · cases up with
   | false=>exact boundd_lo h hf hlo hhi hbl hbh hn0 hn1 hok
   | true=>exact boundd_hi h hf hlo hhi hbl hbh hn0 hn1 hok
 · exact boundd_bad h hf hlo hhi hbl hbh hn0 hn1 hok
end
end I
end
end Go.Proofs.YtclaiidoomdklaaGreat
