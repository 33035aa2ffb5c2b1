import Derived.Test.YtaajajngnmaggaaGreatENA14
set_option maxRecDepth 100000
set_option maxHeartbeats 8000000
set_option linter.unusedVariables false
set_option linter.unusedSimpArgs false
namespace Go.Proofs.YtaajajngnmaggaaGreat
section
section
open Go Go.RowKit Go.Proofs Pl
section
variable {T e:TypeId} {w w' W:World} {g j B:Nat} {us:List Value} {x:Value}
theorem Bl.lt (h:Bl w T g us):g<w.heap.size:=heap_lt h
theorem Bl.ld (h:Bl w T g us) (j:Nat) {u:Value} (hj:us[j]?=some u):w.cell? ⟨g,j,none⟩=some u:=by
 have h':w.heap[g]?=_:=h
 simp [World.cell?,h',hj]
theorem Bl.fr (h:Bl w T g us) (j:Nat):w.frozen? ⟨g,j,none⟩=false:=by
 have h':w.heap[g]?=_:=h
 simp [World.frozen?,h']
theorem Bl.alloc (h:Bl w T g us) (o:Obj):Bl (w.alloc o) T g us:=(Below.heap_alloc w o g h.lt).trans h
theorem Bl.other (h:Bl w T g us) {p:Addr} (hp:p.block≠g) (u:Value):Bl (w.setCell p u) T g us:=(Below.heap_setCell w p u g (fun e=>hp e.symm)).trans h
theorem Bl.set (h:Bl w T g us) (j:Nat) (x:Value):Bl (w.setCell ⟨g,j,none⟩ x) T g (us.set j x):=by
 obtain ⟨hlt,hk⟩:=Array.getElem?_eq_some_iff.1 h
 show (w.heap.modify g _)[g]?=_
 rw [Array.getElem?_eq_getElem (by rw [Array.size_modify];exact hlt),Array.getElem_modify_self,hk,<- List.setIfInBounds_toArray]
 rfl
theorem Bl.keepT1 (h:Bl w T g us) (hne:T≠e) (j:Nat) (x:Value):KeepT e w (w.setCell ⟨g,j,none⟩ x):=KeepT.setCell h hne rfl x
theorem Bl.new1 (w:World) (o:Obj) (T:TypeId) (us:List Value):Bl ((w.alloc o).alloc (.cells us.toArray T)) T (w.heap.size+1) us:=by
 have h:(w.alloc o).heap.size=w.heap.size+1:=World.size_alloc w o
 rw [<- h];exact World.alloc_heap_new _ _
theorem ret_bl {P:Program} {fn:Func} {R:Ending->World->Prop} {act:Act} {V:Value} (X:Bl w T g us)
 (hr:∀ W:World,(∀ (j:Nat) (u:Value),us[j]?=some u->W.cell? ⟨g,j,none⟩=some u)->(results fn act.tmps).run P W=.ok V W) (hd:act.defers=[])
 (hR:R (.returned V) w):bodyPost P fn R .ret act w:=
 bodyPost_ret (hr _ fun j u hj=>X.ld j hj) hd hR
end
section
variable {w w' w0 w1:World} {v:Value} {ts:List (Int × Fx)} {fs:List Fx} {f:Fx}
theorem Tw.keepT (h:Tw w0 w v ts) (k1:KeepT 63 w w') (k2:KeepT 125 w w') (hb:Below w0.heap.size w0 w'):Tw w0 w' v ts:=by
 obtain ⟨xs,h1,h2,h3⟩:=h
 exact ⟨xs,h1.keepT k1,h2.imp fun x f hf=>⟨hf.1,hf.2.1,hf.2.2.keepT k2 hb⟩,hb⟩
end
theorem KeepT.b3 {T:TypeId} {w w':World} (k:KeepT T w w') {g:Nat} {a b c:Value} (h:B3 T w g a b c):B3 T w' g a b c:=(k g _ _ h).trans h
theorem KeepT.bl {T:TypeId} {w w':World} (k:KeepT T w w') {g:Nat} {us:List Value} (h:Bl w T g us):Bl w' T g us:=(k g _ _ h).trans h
structure Sl where
 A:Option Addr
 l:Nat
 k:Nat
def Sl.v (x:Sl):Value:=.slice x.A x.l x.k
def Sl.cs (x:Sl):List Value:=[.slice x.A x.l x.k]
theorem Sl.len (x:Sl):x.cs.length=1:=rfl
theorem Sl.one (x:Sl):∀ u∈x.cs,u.oneCell'=true:=fun u hu=>by
 simp only [Sl.cs,List.mem_cons,List.not_mem_nil,or_false] at hu
 rw [hu];rfl
def bcs (b:Bool):List Value:=[.bool b]
theorem bcs_len (x:Bool):(bcs x).length=1:=rfl
theorem bcs_one (x:Bool):∀ u∈bcs x,u.oneCell'=true:=fun u hu=>by
 simp only [bcs,List.mem_cons,List.not_mem_nil,or_false] at hu
 rw [hu];rfl
def Gx (w:World) (v:Value) (cs:List (List (Int × Fx))):Prop:=∃ xs,Rv w Sl.cs v xs/\Zip2 (fun x ts=>Tx w x.v ts) xs cs
def Gw (w0 w:World) (v:Value) (cs:List (List (Int × Fx))):Prop:=∃ xs,Rr w w0.heap.size 54 1 Sl.cs v xs/\Zip2 (fun x ts=>Tw w0 w x.v ts) xs cs/\Yg w0 w
def Ex (w:World) (v:Value) (bs:List Bool):Prop:=Rv w bcs v bs
def Ew (w0 w:World) (v:Value) (bs:List Bool):Prop:=Rr w w0.heap.size 4 1 bcs v bs
structure Um where
 c:Int
 u:Bool
 b:Bool
 A:Option Addr
 l:Nat
 k:Nat
 B:Option Addr
 m:Nat
 d:Nat
structure Ux where
 c:Int
 u:Bool
 f:Fx
structure Cx where
 s:Int
 ts:List (Int × Fx)
 r:Fx
deriving DecidableEq
structure Lm where
 n:Int
 a:Sl
 b:Sl
 c:Sl
 d:Sl
 e:Sl
 f:Sl
def Lm.agg (x:Lm):Value:=.agg #[.int .i64 x.n,.slice x.a.A x.a.l x.a.k,.slice x.b.A x.b.l x.b.k,.slice x.c.A x.c.l x.c.k,.slice x.d.A x.d.l x.d.k,.slice x.e.A x.e.l x.e.k,.slice x.f.A x.f.l x.f.k]
structure LPx where
 n:Int
 cols:List (List (Int × Fx))
 hasLo:List Bool
 hasHi:List Bool
 lo:List Fx
 hi:List Fx
 cost:List Fx
def LPv (w:World) (v:Value) (l:LPx):Prop:=∃ x:Lm,v=x.agg/\x.n=l.n/\Gx w x.a.v l.cols/\Ex w x.b.v l.hasLo/\Ex w x.c.v l.hasHi/\Rx w x.d.v l.lo/\Rx w x.e.v l.hi/\Rx w x.f.v l.cost
section
variable {w w' w0 w1:World} {v:Value} {cs:List (List (Int × Fx))} {bs:List Bool} {us:List Ux} {u:Ux} {c:Cx} {ks:List Cx} {l:LPx} {i:Nat} {ts:List (Int × Fx)} {b:Bool}
theorem Gx.keep (h:Gx w v cs) (hb:Below w.heap.size w w'):Gx w' v cs:=by
 obtain ⟨xs,h1,h2⟩:=h
 exact ⟨xs,h1.keep hb,h2.imp fun x f hf=>hf.keep hb⟩
theorem Ex.keep (h:Ex w v bs) (hb:Below w.heap.size w w'):Ex w' v bs:=Rv.keep h hb
theorem Gw.gx (h:Gw w0 w v cs):Gx w v cs:=by
 obtain ⟨xs,h1,h2,h3⟩:=h
 exact ⟨xs,h1.rv,h2.imp fun x f hf=>hf.tx⟩
theorem Gw.keep (h:Gw w0 w v cs) (hb:Below w.heap.size w w'):Gw w0 w' v cs:=by
 obtain ⟨xs,h1,h2,h3⟩:=h
 exact ⟨xs,h1.keep hb,h2.imp fun x f hf=>hf.keep hb,Yb h3 hb⟩
theorem Ew.ex (h:Ew w0 w v bs):Ex w v bs:=Rr.rv h
theorem Ew.keep (h:Ew w0 w v bs) (hb:Below w.heap.size w w'):Ew w0 w' v bs:=Rr.keep h hb
theorem LPv.keep (h:LPv w v l) (hb:Below w.heap.size w w'):LPv w' v l:=by
 obtain ⟨x,h1,h2,h3,h4,h5,h6,h7,h8⟩:=h
 exact ⟨x,h1,h2,h3.keep hb,h4.keep hb,h5.keep hb,h6.keep hb,h7.keep hb,h8.keep hb⟩
theorem Gx.shape (h:Gx w v cs):∃ A cap,v=.slice A cs.length cap/\cs.length<=cap/\cap<=maxLen:=by
 obtain ⟨xs,⟨A,cap,e,h1,h2,-⟩,hz⟩:=h
 exact ⟨A,cap,by rw [<- hz.1];exact e,by rw [<- hz.1];exact h1,h2⟩
theorem Ex.shape (h:Ex w v bs):∃ A cap,v=.slice A bs.length cap/\bs.length<=cap/\cap<=maxLen:=by
 obtain ⟨A,cap,e,h1,h2,-⟩:=h
 exact ⟨A,cap,e,h1,h2⟩
theorem Gx.at_ (h:Gx w v cs) (hi:cs[i]?=some ts):∃ g o cap,∃ x:Sl,v=.slice (some ⟨g,o,none⟩) cs.length cap/\g<w.heap.size/\Tx w x.v ts/\w.cell? ⟨g,o+i,none⟩=some (.slice x.A x.l x.k):=by
 obtain ⟨xs,h1,h2⟩:=h
 obtain ⟨x,hx,hf⟩:=h2.left hi
 obtain ⟨g,o,cap,e,h3,h4,h5⟩:=h1.at_ Yd Sl.len hx
 exact ⟨g,o,cap,x,by rw [<- h2.1];exact e,h4,hf,by have:=h5 0 _ rfl;simpa using this⟩
theorem Ex.at_ (h:Ex w v bs) (hi:bs[i]?=some b):∃ g o cap,v=.slice (some ⟨g,o,none⟩) bs.length cap/\g<w.heap.size/\w.cell? ⟨g,o+i,none⟩=some (.bool b):=by
 obtain ⟨g,o,cap,e,h3,h4,h5⟩:=Rv.at_ Yd bcs_len h hi
 exact ⟨g,o,cap,e,h4,by have:=h5 0 _ rfl;simpa using this⟩
end
end
end
section
section
open Go Go.RowKit Go.Proofs Pl
theorem fq_len {L:Nat} {q:Rat} (h:Sz L q):(fq q).xs.length<=L/\(fq q).ds.length<=L:=⟨dg_length_le WB_one h.1,dg_length_le WB_one h.2⟩
theorem Sz.neg {L:Nat} {q:Rat} (h:Sz L q):Sz L (-q):=⟨by rw [Rat.neg_num,Int.natAbs_neg];exact h.1,by rw [Rat.neg_den];exact h.2⟩
def okB (l:LPx) (col:Int):Prop:=0<=col/\col<l.cols.length/\l.lo.length=l.cols.length/\l.hi.length=l.cols.length/\l.hasLo.length=l.cols.length/\l.hasHi.length=l.cols.length/\0<=l.n/\l.n<=l.cols.length
instance (l:LPx) (col:Int):Decidable (okB l col):=by unfold okB;infer_instance
def Fit (l:LPx):Prop:=l.cols.length<=14/\(∀ c∈l.cols,c.length<=30/\∀ t∈c,t.2.xs.length<=6/\t.2.ds.length<=6)/\∀ f,f∈l.lo∨f∈l.hi∨f∈l.cost->f.xs.length<=6/\f.ds.length<=6
def SzL (l:LPx):Prop:=(∀ c∈l.cols,∀ t∈c,Sz 6 t.2.q)/\∀ f,f∈l.lo∨f∈l.hi∨f∈l.cost->Sz 6 f.q
theorem fit_sz {w:World} {v:Value} {l:LPx} (h:LPv w v l) (hf:Fit l):SzL l:=by
 obtain ⟨x,h1,h2,h3,h4,h5,h6,h7,h8⟩:=h
 have rx:∀ {u:Value} {fs:List Fx},Rx w u fs->(∀ f∈fs,f.xs.length<=6/\f.ds.length<=6)->∀ f∈fs,Sz 6 f.q:=fun {u fs} hr hl f hm=>by
  obtain ⟨i,hi⟩:=List.getElem?_of_mem hm
  obtain ⟨g,o,cap,x,-,-,hv,-⟩:=hr.at_ hi
  exact (hv.qv (hl f hm).1 (hl f hm).2).sz Yd
 refine ⟨fun c hc t ht=>?_,fun f hm=>?_⟩
 · obtain ⟨i,hi⟩:=List.getElem?_of_mem hc
   obtain ⟨g,o,cap,x,-,-,hv,-⟩:=h3.at_ hi
   obtain ⟨j,hj⟩:=List.getElem?_of_mem ht
   obtain ⟨g,o,cap,y,-,-,-,-,hq,-⟩:=hv.at_ hj
   have:=(hf.2.1 c hc).2 t ht
   exact (hq.qv this.1 this.2).sz Yd
 · rcases hm with hm | hm | hm
   · exact rx h6 (fun f hm=>hf.2.2 f (.inl hm)) f hm
   · exact rx h7 (fun f hm=>hf.2.2 f (.inr (.inl hm))) f hm
   · exact rx h8 (fun f hm=>hf.2.2 f (.inr (.inr hm))) f hm
end
end
section
section
open Go Go.RowKit Go.Proofs Pl
def lackQ (bl bh:Bool) (lo hi x:Rat):Rat × Bool:=
 if (bl && decide (cmpQ x lo<0))=true then (lo - x,true) else if (bh && decide (0<cmpQ x hi))=true then (x - hi,false) else (0,false)
section
variable {bl bh:Bool} {lo hi x:Rat}
theorem lackQ_lo (h:(bl && decide (cmpQ x lo<0))=true):lackQ bl bh lo hi x=(lo - x,true):=by rw [lackQ,if_pos h]
theorem lackQ_hi (h:(bl && decide (cmpQ x lo<0))=false) (h2:(bh && decide (0<cmpQ x hi))=true):lackQ bl bh lo hi x=(x - hi,false):=by rw [lackQ,if_neg (by rw [h];decide),if_pos h2]
theorem lackQ_no (h:(bl && decide (cmpQ x lo<0))=false) (h2:(bh && decide (0<cmpQ x hi))=false):lackQ bl bh lo hi x=(0,false):=by rw [lackQ,if_neg (by rw [h];decide),if_neg (by rw [h2];decide)]
theorem lackQ_sz {L M:Nat} (h1:Sz L lo) (h2:Sz L hi) (h3:Sz M x) (hL:0<L):Sz (L+M+1) (lackQ bl bh lo hi x).1:=by
 unfold lackQ
 split
 · exact (by rw [Rat.sub_eq_add_neg];exact h1.add h3.neg)
 · split
   · exact (by rw [Rat.sub_eq_add_neg,Nat.add_comm L M];exact h3.add h2.neg)
   · exact sz_zero.mono Yo
end
def stepL (first:Bool) (s:Nat->Rat) (c:Nat->Int) (k:Nat):Option Nat->Option Nat
 | none=>some k
 | some j=>if (first && decide (c k<c j)) || (!first && (decide (0<cmpQ (s k) (s j)) || (decide (cmpQ (s k) (s j)=0) && decide (c k<c j)))) then some k else some j
def leaveK (first:Bool) (s:Nat->Rat) (c:Nat->Int):Nat->Option Nat
 | 0=>none
 | k+1=>if sgnQ (s k)=0 then leaveK first s c k else stepL first s c k (leaveK first s c k)
theorem leaveK_lt {first:Bool} {s:Nat->Rat} {c:Nat->Int}:∀ {k j:Nat},leaveK first s c k=some j->j<k/\sgnQ (s j)≠0
 | 0,j,h=>by cases h
 | k+1,j,h=>by
  unfold leaveK at h
  split at h
  · have:=leaveK_lt h;exact ⟨Yo,this.2⟩
  · rename_i hs
    cases hk:leaveK first s c k with
    | none=>rw [hk] at h;have h:some k=some j:=h;injection h with h;subst h;exact ⟨Yo,hs⟩
    | some i=>
     rw [hk] at h;simp only [stepL] at h
     split at h
     · injection h with h;subst h;exact ⟨Yo,hs⟩
     · injection h with h;subst h;have:=leaveK_lt hk;exact ⟨Yo,this.2⟩
theorem leaveK_0 {first:Bool} {s:Nat->Rat} {c:Nat->Int} {k:Nat} (h:sgnQ (s k)=0):leaveK first s c (k+1)=leaveK first s c k:=by rw [leaveK,if_pos h]
theorem leaveK_1 {first:Bool} {s:Nat->Rat} {c:Nat->Int} {k:Nat} (h:sgnQ (s k)≠0) (h2:leaveK first s c k=none):leaveK first s c (k+1)=some k:=by rw [leaveK,if_neg h,h2];rfl
theorem leaveK_2 {first:Bool} {s:Nat->Rat} {c:Nat->Int} {k j:Nat} (h:sgnQ (s k)≠0) (h2:leaveK first s c k=some j) (h3:((first && decide (c k<c j)) || (!first && (decide (0<cmpQ (s k) (s j)) || (decide (cmpQ (s k) (s j)=0) && decide (c k<c j)))))=true):leaveK first s c (k+1)=some k:=by
 rw [leaveK,if_neg h,h2,stepL,if_pos h3]
theorem leaveK_3 {first:Bool} {s:Nat->Rat} {c:Nat->Int} {k j:Nat} (h:sgnQ (s k)≠0) (h2:leaveK first s c k=some j) (h3:((first && decide (c k<c j)) || (!first && (decide (0<cmpQ (s k) (s j)) || (decide (cmpQ (s k) (s j)=0) && decide (c k<c j)))))=false):leaveK first s c (k+1)=some j:=by
 rw [leaveK,if_neg h,h2,stepL,if_neg (by rw [h3];decide)]
end
end
end Go.Proofs.YtaajajngnmaggaaGreat
