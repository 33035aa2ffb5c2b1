import Derived.Test.YtaajajngnmaggaaGreatLNA10
set_option maxRecDepth 100000
set_option maxHeartbeats 8000000
set_option linter.unusedVariables false
set_option linter.unusedSimpArgs false
namespace Go.Proofs.YtaajajngnmaggaaGreat
section
section
open Go Go.RowKit Go.Proofs Pl
structure Tm where
 c:Int
 b:Bool
 A:Option Addr
 l:Nat
 k:Nat
 B:Option Addr
 m:Nat
 d:Nat
 q:Rat
def Tm.num (x:Tm):Value:=.agg #[.bool x.b,.slice x.A x.l x.k,.slice x.B x.m x.d]
def Tm.t (x:Tm):Int × Rat:=(x.c,x.q)
def flatT:List Tm->List Value
 | []=>[]
 | x::xs=>.int .i64 x.c::.bool x.b::.slice x.A x.l x.k::.slice x.B x.m x.d::flatT xs
theorem flatT_at {xs:List Tm} {i:Nat} {x:Tm} (h:xs[i]?=some x):
 (flatT xs)[i*4]?=some (.int .i64 x.c)/\(flatT xs)[i*4+1]?=some (.bool x.b)/\(flatT xs)[i*4+2]?=some (.slice x.A x.l x.k)/\(flatT xs)[i*4+3]?=some (.slice x.B x.m x.d):=by
 induction xs generalizing i with
 | nil=>simp at h
 | cons y xs ih=>
  cases i with
  | zero=>
   obtain rfl:y=x:=by simpa using h
   exact ⟨rfl,rfl,rfl,rfl⟩
  | succ i=>
   obtain ⟨a,b,c,d⟩:=ih (i:=i) (by simpa using h)
   rw [show (i+1)*4=i*4+4 from by omega]
   exact ⟨a,b,c,d⟩
def TRd (w:World) (A:Option Addr) (us:List Value):Prop:=us=[]∨∃ g o,A=some ⟨g,o,none⟩/\g<w.heap.size/\∀ (i:Nat) (u:Value),us[i]?=some u->w.cell? ⟨g,o+i,none⟩=some u
theorem TRd.keep {w w':World} {A:Option Addr} {us:List Value} (h:TRd w A us) (hb:Below w.heap.size w w'):TRd w' A us:=by
 rcases h with h | ⟨g,o,e,hg,hc⟩
 · exact .inl h
 · exact .inr ⟨g,o,e,Nat.lt_of_lt_of_le hg hb.size,fun i u hi=>(hb.cell (p:=⟨g,o+i,none⟩) hg).trans (hc i u hi)⟩
def Tl (w:World) (L:Nat) (v:Value) (xs:List Tm):Prop:=
 ∃ A cap,v=.slice A xs.length cap/\xs.length<=cap/\cap<=maxLen/\(A=none->cap=0)/\TRd w A (flatT xs)/\∀ x∈xs,Qv w L x.num x.q
def Vt (w:World) (L:Nat) (v:Value) (l:Tms):Prop:=∃ xs,Tl w L v xs/\xs.map Tm.t=l
section
variable {w w' W:World} {L M:Nat} {v:Value} {xs:List Tm} {l:Tms}
theorem Tl.keep (h:Tl w L v xs) (hb:Below w.heap.size w w'):Tl w' L v xs:=by
 obtain ⟨A,cap,e,h1,h2,h3,h4,h5⟩:=h
 exact ⟨A,cap,e,h1,h2,h3,h4.keep hb,fun x hx=>(h5 x hx).keep hb⟩
theorem Vt.keep (h:Vt w L v l) (hb:Below w.heap.size w w'):Vt w' L v l:=by
 obtain ⟨xs,h1,h2⟩:=h
 exact ⟨xs,h1.keep hb,h2⟩
theorem TRd.at_ {A:Option Addr} {i:Nat} {x:Tm} (h:TRd w A (flatT xs)) (hi:xs[i]?=some x):
 ∃ g o,A=some ⟨g,o,none⟩/\g<w.heap.size/\w.cell? ⟨g,o+i*4,none⟩=some (.int .i64 x.c)/\w.cell? ⟨g,o+i*4+1,none⟩=some (.bool x.b)/\
  w.cell? ⟨g,o+i*4+2,none⟩=some (.slice x.A x.l x.k)/\w.cell? ⟨g,o+i*4+3,none⟩=some (.slice x.B x.m x.d):=by
 obtain ⟨a,b,c,d⟩:=flatT_at hi
 rcases h with h | ⟨g,o,e,hg,hc⟩
 · rw [h] at a;simp at a
 · exact ⟨g,o,e,hg,hc _ _ a,hc _ _ b,hc _ _ c,hc _ _ d⟩
end
def B4 (t:TypeId) (w:World) (g:Nat) (a b c d:Value):Prop:=w.heap[g]?=some (.cells #[a,b,c,d] t (0,0))
theorem sm_zero:Small64 0:=by unfold Small64;omega
def getV (l:Tms) (c:Int):Rat:=if 0<=c then sumAt l c else 0
theorem sz_sum {L:Nat} {l:Tms} (h:∀ t∈l,Sz L t.2) (c:Int):Sz (1+l.length*(L+1)) (sumAt l c):=by
 induction l with
 | nil=>exact sz_zero.mono Yo
 | cons t l ih=>
  obtain ⟨k,q⟩:=t
  have h1:=ih fun t ht=>h t (by simp [ht])
  have h2:=h (k,q) (by simp)
  have e:1+((k,q)::l).length*(L+1)=L+(1+l.length*(L+1))+1:=by
   rw [List.length_cons,Nat.succ_mul];omega
  rw [e]
  simp only [sumAt]
  split
  · exact h2.add h1
  · rw [Rat.zero_add];exact h1.mono Yo
theorem sz_get {L:Nat} {l:Tms} (h:∀ t∈l,Sz L t.2) (c:Int):Sz (1+l.length*(L+1)) (getV l c):=by
 unfold getV
 split
 · exact sz_sum h c
 · exact sz_zero.mono Yo
theorem get_succ {l:Tms} {i:Nat} {t:Int × Rat} (h:l[i]?=some t) (c:Int):getV (l.take (i+1)) c=if t.1=c/\0<=c then getV (l.take i) c+t.2 else getV (l.take i) c:=by
 obtain ⟨hi,rfl⟩:=List.getElem?_eq_some_iff.1 h
 rw [List.take_succ_eq_append_getElem hi]
 unfold getV
 by_cases h0:0<=c
 · rw [if_pos h0,if_pos h0,sumAt_app]
   by_cases hc:l[i].1=c
   · rw [if_pos ⟨hc,h0⟩];simp [sumAt,hc,Rat.add_zero]
   · rw [if_neg (fun h=>hc h.1)];simp [sumAt,hc,Rat.add_zero]
 · rw [if_neg h0,if_neg h0,if_neg (fun h=>h0 h.2)]
end
end
section
section
open Go Go.RowKit Go.Proofs Pl
def Up (l:List Tm):Prop:=l.Pairwise fun a b=>a.c<=b.c
end
end
end Go.Proofs.YtaajajngnmaggaaGreat
