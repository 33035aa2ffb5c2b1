import Derived.Test.YtaajajngnmaggaaGreatLNA14
set_option maxRecDepth 100000
set_option maxHeartbeats 8000000
set_option linter.unusedVariables false
set_option linter.unusedSimpArgs false
namespace Go.Proofs.YtaajajngnmaggaaGreat
section
section
open Go Go.RowKit Go.Proofs Pl
theorem fq_len {L:Nat} {q:Rat} (h:Sz L q):(fq q).xs.length<=L/\(fq q).ds.length<=L:=⟨dg_length_le WB_one h.1,dg_length_le WB_one h.2⟩
theorem Sz.neg {L:Nat} {q:Rat} (h:Sz L q):Sz L (-q):=⟨by rw [Rat.neg_num,Int.natAbs_neg];exact h.1,by rw [Rat.neg_den];exact h.2⟩
def okB (l:LPx) (col:Int):Prop:=0<=col/\col<l.cols.length/\l.lo.length=l.cols.length/\l.hi.length=l.cols.length/\l.hasLo.length=l.cols.length/\l.hasHi.length=l.cols.length/\0<=l.n/\l.n<=l.cols.length
instance (l:LPx) (col:Int):Decidable (okB l col):=by unfold okB;infer_instance
def Fit (l:LPx):Prop:=l.cols.length<=14/\(∀ c∈l.cols,c.length<=30/\∀ t∈c,t.2.xs.length<=6/\t.2.ds.length<=6)/\∀ f,f∈l.lo∨f∈l.hi∨f∈l.cost->f.xs.length<=6/\f.ds.length<=6
def SzL (l:LPx):Prop:=(∀ c∈l.cols,∀ t∈c,Sz 6 t.2.q)/\∀ f,f∈l.lo∨f∈l.hi∨f∈l.cost->Sz 6 f.q
theorem fit_sz {w:World} {v:Value} {l:LPx} (h:LPv w v l) (hf:Fit l):SzL l:=by
 obtain ⟨x,h1,h2,h3,h4,h5,h6,h7,h8⟩:=h
 have rx:∀ {u:Value} {fs:List Fx},Rx w u fs->(∀ f∈fs,f.xs.length<=6/\f.ds.length<=6)->∀ f∈fs,Sz 6 f.q:=fun {u fs} hr hl f hm=>by
  obtain ⟨i,hi⟩:=List.getElem?_of_mem hm
  obtain ⟨g,o,cap,x,-,-,hv,-⟩:=hr.at_ hi
  exact (hv.qv (hl f hm).1 (hl f hm).2).sz Yd
 refine ⟨fun c hc t ht=>?_,fun f hm=>?_⟩
 · obtain ⟨i,hi⟩:=List.getElem?_of_mem hc
   obtain ⟨g,o,cap,x,-,-,hv,-⟩:=h3.at_ hi
   obtain ⟨j,hj⟩:=List.getElem?_of_mem ht
   obtain ⟨g,o,cap,y,-,-,-,-,hq,-⟩:=hv.at_ hj
   have:=(hf.2.1 c hc).2 t ht
   exact (hq.qv this.1 this.2).sz Yd
 · rcases hm with hm | hm | hm
   · exact rx h6 (fun f hm=>hf.2.2 f (.inl hm)) f hm
   · exact rx h7 (fun f hm=>hf.2.2 f (.inr (.inl hm))) f hm
   · exact rx h8 (fun f hm=>hf.2.2 f (.inr (.inr hm))) f hm
end
end
section
section
open Go Go.RowKit Go.Proofs Pl
def lackQ (bl bh:Bool) (lo hi x:Rat):Rat × Bool:=
 if (bl && decide (cmpQ x lo<0))=true then (lo - x,true) else if (bh && decide (0<cmpQ x hi))=true then (x - hi,false) else (0,false)
section
variable {bl bh:Bool} {lo hi x:Rat}
theorem lackQ_lo (h:(bl && decide (cmpQ x lo<0))=true):lackQ bl bh lo hi x=(lo - x,true):=by rw [lackQ,if_pos h]
theorem lackQ_hi (h:(bl && decide (cmpQ x lo<0))=false) (h2:(bh && decide (0<cmpQ x hi))=true):lackQ bl bh lo hi x=(x - hi,false):=by rw [lackQ,if_neg (by rw [h];decide),if_pos h2]
theorem lackQ_no (h:(bl && decide (cmpQ x lo<0))=false) (h2:(bh && decide (0<cmpQ x hi))=false):lackQ bl bh lo hi x=(0,false):=by rw [lackQ,if_neg (by rw [h];decide),if_neg (by rw [h2];decide)]
theorem lackQ_sz {L M:Nat} (h1:Sz L lo) (h2:Sz L hi) (h3:Sz M x) (hL:0<L):Sz (L+M+1) (lackQ bl bh lo hi x).1:=by
 unfold lackQ
 split
 · exact (by rw [Rat.sub_eq_add_neg];exact h1.add h3.neg)
 · split
   · exact (by rw [Rat.sub_eq_add_neg,Nat.add_comm L M];exact h3.add h2.neg)
   · exact sz_zero.mono Yo
end
def stepL (first:Bool) (s:Nat->Rat) (c:Nat->Int) (k:Nat):Option Nat->Option Nat
 | none=>some k
 | some j=>if (first && decide (c k<c j)) || (!first && (decide (0<cmpQ (s k) (s j)) || (decide (cmpQ (s k) (s j)=0) && decide (c k<c j)))) then some k else some j
def leaveK (first:Bool) (s:Nat->Rat) (c:Nat->Int):Nat->Option Nat
 | 0=>none
 | k+1=>if sgnQ (s k)=0 then leaveK first s c k else stepL first s c k (leaveK first s c k)
theorem leaveK_0 {first:Bool} {s:Nat->Rat} {c:Nat->Int} {k:Nat} (h:sgnQ (s k)=0):leaveK first s c (k+1)=leaveK first s c k:=by rw [leaveK,if_pos h]
theorem leaveK_1 {first:Bool} {s:Nat->Rat} {c:Nat->Int} {k:Nat} (h:sgnQ (s k)≠0) (h2:leaveK first s c k=none):leaveK first s c (k+1)=some k:=by rw [leaveK,if_neg h,h2];rfl
theorem leaveK_2 {first:Bool} {s:Nat->Rat} {c:Nat->Int} {k j:Nat} (h:sgnQ (s k)≠0) (h2:leaveK first s c k=some j) (h3:((first && decide (c k<c j)) || (!first && (decide (0<cmpQ (s k) (s j)) || (decide (cmpQ (s k) (s j)=0) && decide (c k<c j)))))=true):leaveK first s c (k+1)=some k:=by
 rw [leaveK,if_neg h,h2,stepL,if_pos h3]
theorem leaveK_3 {first:Bool} {s:Nat->Rat} {c:Nat->Int} {k j:Nat} (h:sgnQ (s k)≠0) (h2:leaveK first s c k=some j) (h3:((first && decide (c k<c j)) || (!first && (decide (0<cmpQ (s k) (s j)) || (decide (cmpQ (s k) (s j)=0) && decide (c k<c j)))))=false):leaveK first s c (k+1)=some j:=by
 rw [leaveK,if_neg h,h2,stepL,if_neg (by rw [h3];decide)]
end
end
end Go.Proofs.YtaajajngnmaggaaGreat
