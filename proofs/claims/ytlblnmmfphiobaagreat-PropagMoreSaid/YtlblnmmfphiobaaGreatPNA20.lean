import Derived.Test.YtlblnmmfphiobaaGreatPM0
import Derived.OrdersHeld
import Derived.Below
import Derived.Deep.RegionHeld3
set_option maxRecDepth 100000
set_option maxHeartbeats 8000000
set_option linter.unusedVariables false
set_option linter.unusedSimpArgs false
namespace Go.Proofs.YtlblnmmfphiobaaGreat
section
open Go Go.RowKit
theorem Ar {a:Addr} {v:Value} {w w':World} (h:w.cell? a=some v) (b:Below w.heap.size w w'):w'.cell? a=some v:=(b.cell (World.block_lt_of_cell? w a h)).trans h
abbrev NL:=List (Nat × Tmp)
abbrev KL:=List (Nat × Tmp × (Value->World->Prop))
section
variable {P:Program} {md:Region.Mode} {ops:Array Oper} {a0 a b:Act} {S:World->Prop} {L L':Nat->Bool} {V V':Nat->Value} {Q:Exit->Act->World->Prop}
def dO (ops:Array Oper) (i:Nat):Option Tmp:=(ops[i]?).bind (·.dst)
structure Fi (ops:Array Oper) (a0:Act) (L:Nat->Bool) (V:Nat->Value) (a:Act):Prop where
 defers:a.defers=a0.defers
 size:a.tmps.size=a0.tmps.size
 own:∀ i d,L i=true->dO ops i=some d->a.tmps[d]?=some (V i)
 rest:∀ d,(∀ i,L i=true->dO ops i≠some d)->a.tmps[d]?=a0.tmps[d]?
structure Ln (ops:Array Oper) (n:Nat):Prop where
 room:∀ i d,dO ops i=some d->d<n
 one:∀ i j d,dO ops i=some d->dO ops j=some d->i=j
theorem Fi.eq (h:Fi ops a0 L V a) (k:Fi ops a0 L V' b) (hv:∀ i,L i=true->V i=V' i):a=b:=by
 have ht:a.tmps=b.tmps:=by
  apply Array.ext_getElem?;intro d;by_cases hd:∃ i,L i=true/\dO ops i=some d
  · obtain ⟨i,h1,h2⟩:=hd;rw [h.own i d h1 h2,k.own i d h1 h2,hv i h1]
  · have hn:∀ i,L i=true->dO ops i≠some d:=fun i h1 h2=>hd ⟨i,h1,h2⟩;rw [h.rest d hn,k.rest d hn]
 cases a;cases b
 have hd:=h.defers.trans k.defers.symm;simp only at ht hd;rw [ht,hd]
theorem Fi.nil:Fi ops a0 (fun _=>false) V a0:=⟨rfl,rfl,fun _ _ h=>(by cases h),fun _ _=>rfl⟩
theorem Fi.put (hl:Ln ops a0.tmps.size) (h:Fi ops a0 L V a) {i:Nat} (hi:L i=false) (v:Value):
 Fi ops a0 (fun j=>j==i || L j) (fun j=>if j=i then v else V j) (a.put (dO ops i) v):=by
 cases hd:dO ops i with
 | none=>
  refine ⟨h.defers,h.size,fun j d h1 h2=>?_,fun d hn=>h.rest d fun j h1=>hn j (by simp [h1])⟩;have hji:j≠i:=fun e=>by rw [e,hd] at h2;cases h2
  rw [if_neg hji];exact h.own j d (by simpa [hji] using h1) h2
 | some t=>
  have ht:=hl.room i t hd;refine ⟨h.defers,by simp [Act.put,h.size],fun j d h1 h2=>?_,fun d hn=>?_⟩
  · by_cases hji:j=i
    · subst hji;rw [hd] at h2;cases h2;rw [if_pos rfl];simp [Act.put,h.size,ht]
    · rw [if_neg hji];have hne:t≠d:=fun e=>hji (hl.one j i d h2 (by rw [hd,e]));simp only [Act.put,Array.getElem?_setIfInBounds_ne hne];exact h.own j d (by simpa [hji] using h1) h2
  · have hne:t≠d:=fun e=>hn i (by simp) (by rw [hd,e]);simp only [Act.put,Array.getElem?_setIfInBounds_ne hne];exact h.rest d fun j h1=>hn j (by simp [h1])
theorem Fi.exec (h:Fi ops a0 L V a) (k:Fi ops a0 L' V' b) {o:Oper} (hs:∀ cs c,o.op≠.select cs c)
 (hn:∀ i d,dO ops i=some d->d∈o.looksAt ops->L i=true/\L' i=true/\V i=V' i):
 execOp a.eval o=execOp b.eval o/\Region.wanted o (yielded ops a.tmps)=Region.wanted o (yielded ops b.tmps):=by
 have key:∀ d,d∈o.looksAt ops->a.tmps[d]?=b.tmps[d]?:=fun d hd=>by
  by_cases he:∃ i,dO ops i=some d
  · obtain ⟨i,hi⟩:=he;obtain ⟨h1,h2,h3⟩:=hn i d hi hd;rw [h.own i d h1 hi,k.own i d h2 hi,h3]
  · have hn:∀ i,dO ops i≠some d:=fun i h2=>he ⟨i,h2⟩;rw [h.rest d fun i _=>hn i,k.rest d fun i _=>hn i]
 constructor
 · refine execOp_congr o hs fun x hx=>?_
   cases x with
   | tmp t=>
    have:=key t (VU _ (List.mem_filterMap.2 ⟨.tmp t,by simpa using hx,rfl⟩));simp only [Act.eval,Va,this]
   | _=>rfl
 · unfold Region.wanted
   cases hg:o.guard with
   | none=>rfl
   | some gw=>
    obtain ⟨g,want⟩:=gw
    have:yielded ops a.tmps g=yielded ops b.tmps g:=by
     unfold yielded
     cases ht:(ops[g]?).bind (·.dst) with
     | none=>rfl
     | some t=>
      have:=key t (Wf _ (by simp [hg,ht]));simp only [Option.bind_some,this]
    simp only [this]
theorem yT {o:Oper} {v:Value} (hy:YieldsIf P ops S o v a) (he:execOp a.eval o=execOp b.eval o/\Region.wanted o (yielded ops a.tmps)=Region.wanted o (yielded ops b.tmps)):YieldsIf P ops S o v b:=
 hy.of_same he.1.symm he.2.symm
theorem yS {o:Oper} {u v:Value} {w:World} (h:YieldsIf P ops S o u a) (k:YieldsIf P ops S o v a) (hS:S w):u=v:=by
 rcases h with ⟨h1,h2⟩ | ⟨h1,h2⟩<;>rcases k with ⟨k1,k2⟩ | ⟨k1,k2⟩
 · have:=(h2 w hS).symm.trans (k2 w hS);injection this with h _;injection h
 · rw [h1] at k1;cases k1
 · rw [h1] at k1;cases k1
 · rw [h2,k2]
def dR (P:Program) (ops:Array Oper) (S:World->Prop) (dfs:List Deferred):NL->List Value->(List Value->Prop)->Prop
 | [],l,K=>K l
 | (i,d)::is,l,K=>∃ o v,ops[i]?=some o/\o.dst=some d/\YieldsIf P ops S o v ⟨l.toArray,dfs⟩/\dR P ops S dfs is (l.set d v) K
def Gv (F:Nat->Value->World->Prop) (W:World):NL->(List Value->Prop)->List Value->Prop
 | [],G,l=>G l
 | p::r,G,l=>∀ v,F p.1 v W->Gv F W r G (l.set p.2 v)
def af1 (md:Region.Mode) (o:Oper) (acc:List Nat):Nat:=o.after.foldl (fun m e=>if Region.binds md e then m ||| 2 ^ e.on ||| acc.getD e.on 0 else m) 0
def EN (md:Region.Mode):List Oper->List Nat->List Nat
 | [],acc=>acc
 | o::r,acc=>EN md r (acc++[af1 md o acc])
def Cd (md:Region.Mode) (ops:Array Oper) (L:Nat->Bool):Prop:=∀ (i:Nat) (o:Oper),ops[i]?=some o->L i=true->∀ e∈o.after,Region.binds md e=true->L e.on=true
theorem afS {o:Oper} {acc:List Nat} {j:Nat} (h:(af1 md o acc).testBit j=true):∃ e∈o.after,Region.binds md e=true/\(e.on=j∨(acc.getD e.on 0).testBit j=true):=by
 unfold af1 at h;rw [<- Array.foldl_toList] at h
 have gen:∀ (es:List Edge) (m:Nat),(es.foldl (fun m e=>if Region.binds md e then m ||| 2 ^ e.on ||| acc.getD e.on 0 else m) m).testBit j=true->
  m.testBit j=true∨∃ e∈es,Region.binds md e=true/\(e.on=j∨(acc.getD e.on 0).testBit j=true):=by
  intro es
  induction es with
  | nil=>intro m h;exact .inl h
  | cons e es ih=>
   intro m h;rw [UH] at h
   rcases ih _ h with h1 | ⟨x,hx,h1⟩
   · by_cases hb:Region.binds md e=true
     · rw [if_pos hb,Nat.testBit_or,Nat.testBit_or,Nat.testBit_two_pow] at h1;simp only [Wb,decide_eq_true_eq] at h1
       rcases h1 with (h1 | h1) | h1
       · exact .inl h1
       · exact .inr ⟨e,Vu,hb,.inl h1⟩
       · exact .inr ⟨e,Vu,hb,.inr h1⟩
     · rw [if_neg hb] at h1;exact .inl h1
   · exact .inr ⟨x,UR _ hx,h1⟩
 rcases gen _ _ h with h | ⟨e,he,h⟩
 · simp at h
 · exact ⟨e,by simpa using he,h⟩
theorem anS (hc:Cd md ops L):∀ (l:List Oper) (acc:List Nat),(∀ k,l[k]?=ops[acc.length+k]?)->
 (∀ (i m:Nat) (o:Oper),acc[i]?=some m->ops[i]?=some o->(∀ e∈o.after,Region.binds md e=true->L e.on=true)->∀ j,m.testBit j=true->L j=true)->
 ∀ (i m:Nat) (o:Oper),(EN md l acc)[i]?=some m->ops[i]?=some o->(∀ e∈o.after,Region.binds md e=true->L e.on=true)->∀ j,m.testBit j=true->L j=true
 | [],acc,_,h=>h
 | o::l,acc,hl,h=>by
  refine anS hc l (acc++[af1 md o acc]) (fun k=>?_) ?_
  · have:=hl (k+1);simp only [List.getElem?_cons_succ] at this;rw [this,TM,Ui];congr 1;omega
  · intro i m o' hi ho' he j hj
    rcases Ul i acc.length with hlt | hge
    · rw [List.getElem?_append_left hlt] at hi;exact h i m o' hi ho' he j hj
    · rw [List.getElem?_append_right hge] at hi
      have hi0:i - acc.length=0:=by
       rcases TQ (i - acc.length) with h | h
       · exact h
       · rw [List.getElem?_eq_none (by simp;omega)] at hi;cases hi
      have hii:i=acc.length:=Yo;subst hii;simp only [VM,List.getElem?_cons_zero,Option.some.injEq] at hi;have h0:=hl 0;simp only [List.getElem?_cons_zero,UE] at h0;rw [ho'] at h0;injection h0 with h0
      subst h0;subst hi;obtain ⟨e,hem,hb,h1⟩:=afS hj
      rcases h1 with rfl | h1
      · exact he e hem hb
      · rw [TS] at h1
        cases hm:acc[e.on]? with
        | none=>rw [hm] at h1;simp at h1
        | some m'=>
         rw [hm] at h1
         cases hoe:ops[e.on]? with
         | none=>
          have hlt:=(List.getElem?_eq_some_iff.1 hm).1;have hsz:acc.length<ops.size:=(Array.getElem?_eq_some_iff.1 ho').1;rw [Array.getElem?_eq_none_iff] at hoe;omega
         | some oe=>exact h e.on m' oe hm hoe (hc e.on oe hoe (he e hem hb)) j h1
structure Chn where
 c:Nat
 d:Option Tmp
 ms:NL
 ds:NL
 ps:NL
structure Stg where
 ms:NL
 ds:NL
 ps:NL
 ks:KL
def Ny (d:Option Tmp) (v:Value) (l:List Value):List Value:=match d with | none=>l | some d=>l.set d v
def GV (G:List Value->List Value->Prop):List Chn->List Value->List Value->Prop
 | [],vs,l=>G vs l
 | x::r,vs,l=>∀ v,GV G r (vs++[v]) (Ny x.d v l)
def Nd (ops:Array Oper) (o:Oper) (kn:Nat->Bool):Prop:=∀ d∈o.looksAt ops,∀ j∈List.range ops.size,dO ops j=some d->kn j=true
instance {o:Oper} {k:Nat->Bool}:Decidable (Nd ops o k):=by unfold Nd;infer_instance
theorem Nd.of {o:Oper} {k:Nat->Bool} (h:Nd ops o k) {j d:Nat} (h1:dO ops j=some d) (h2:d∈o.looksAt ops):k j=true:=by
 refine h d h2 j (UY.2 ?_) h1;unfold dO at h1
 rcases Ul j ops.size with h | h
 · exact h
 · rw [Array.getElem?_eq_none h] at h1;cases h1
def dK (ops:Array Oper) (mem:List Nat):List Nat->NL->Bool
 | _,[]=>true
 | kn,(i,d)::r=>(match ops[i]? with | none=>false | some o=>decide (o.dst=some d/\Nd ops o kn.contains)) && !kn.contains i && !mem.contains i && dK ops mem (i::kn) r
def ov (kn:List Nat):NL->List Nat
 | []=>kn
 | p::r=>ov (p.1::kn) r
def kO (ops:Array Oper) (kn:List Nat) (ks:KL):Bool:=ks.all fun p=>match ops[p.1]? with | none=>false | some o=>decide (o.dst=some p.2.1/\Nd ops o kn.contains)
def mO (ops:Array Oper) (mem:List Nat):List Nat->NL->Bool
 | _,[]=>true
 | kn,p::r=>decide (dO ops p.1=some p.2) && mem.contains p.1 && !kn.contains p.1 && mO ops mem (p.1::kn) r
def oC (kn:List Nat):List Chn->List Nat
 | []=>kn
 | x::r=>oC (x.c::kn) r
def cO (ops:Array Oper):List Nat->List Chn->Bool
 | _,[]=>true
 | kn,x::r=>decide (dO ops x.c=x.d) && decide (x.c<ops.size) && !kn.contains x.c && cO ops (x.c::kn) r
def pO (ops:Array Oper) (mem chi late:List Nat) (kn:List Nat) (ps:NL):Bool:=dK ops (mem++chi) kn ps && ps.all fun p=>late.contains p.1
def sO (ops:Array Oper) (mem chi late:List Nat) (s:Stg):Bool:=mO ops mem [] s.ms && dK ops (mem++chi++late) (ov [] s.ms) s.ds && pO ops mem chi late (ov (ov [] s.ms) s.ds) s.ps && kO ops (ov (ov (ov [] s.ms) s.ds) s.ps) s.ks
def hO (ops:Array Oper) (A:List Nat) (mem chi late:List Nat) (pre:List Chn) (x:Chn):Bool:=
 let kn:=oC [] pre
 mO ops mem kn x.ms && dK ops (mem++chi++late) (ov kn x.ms) x.ds && pO ops mem chi late (ov (ov kn x.ms) x.ds) x.ps && (match ops[x.c]? with | none=>false | some o=>decide (o.dst=x.d/\Nd ops o (ov (ov (ov kn x.ms) x.ds) x.ps).contains)) &&
  x.ms.all (fun p=>(A.getD x.c 0).testBit p.1) && pre.all (fun y=>(A.getD x.c 0).testBit y.c)
def tO (ops:Array Oper) (mem chi late:List Nat) (s:Stg):Bool:=mO ops mem [] s.ms && dK ops (mem++chi++late) (ov [] s.ms) s.ds && pO ops mem chi late (ov (ov [] s.ms) s.ds) s.ps
def cv (mem late:List Nat) (sts lts:List Stg) (i m:Nat):Bool:=if late.contains i then lts.any (fun s=>s.ms.all (fun p=>m.testBit p.1) && s.ps.any (·.1==i)) else sts.any fun s=>s.ms.all (fun p=>m.testBit p.1) && (if mem.contains i then s.ks.any (·.1==i) else s.ds.any (·.1==i))
def fOk (md:Region.Mode) (ops:Array Oper) (n sp:Nat) (mem late:List Nat) (sts lts:List Stg) (chs:List Chn):Bool:=
 let A:=EN md ops.toList []
 let chi:=chs.map (·.c)
 Region.noSelect ops && sts.all (sO ops mem chi late) && lts.all (tO ops mem chi late) && cO ops [] chs && mem.all (fun i=>!chi.contains i && !late.contains i) &&
 ((List.range chs.length).all fun q=>match chs[q]? with | none=>false | some x=>hO ops A mem chi late (chs.take q) x) &&
 (List.range ops.size).all fun i=>match ops[i]? with
  | none=>false
  | some o=>(match o.dst with | none=>true | some d=>decide (d<n) && (List.range ops.size).all fun j=>j==i || decide (dO ops j≠some d)) &&
   o.after.all (fun e=>!Region.binds md e || decide (e.on<i)) && decide (Nd ops o (A.getD i 0).testBit) && (chi.contains i || cv mem late sts lts i (A.getD i 0) && (late.contains i || match chs[sp]? with | none=>true | some x=>(A.getD x.c 0).testBit i))
structure FO (md:Region.Mode) (ops:Array Oper) (n sp:Nat) (mem late:List Nat) (sts lts:List Stg) (chs:List Chn):Prop where
 sel:∀ (j:Nat) (o:Oper) cs b,ops[j]?=some o->o.op≠.select cs b
 ln:Ln ops n
 stg:∀ s∈sts,sO ops mem (chs.map (·.c)) late s=true
 lt:∀ s∈lts,tO ops mem (chs.map (·.c)) late s=true
 cs:cO ops [] chs=true
 sep:∀ i,mem.contains i=true->(chs.map (·.c)).contains i=false/\late.contains i=false
 ch:∀ q x,chs[q]?=some x->hO ops (EN md ops.toList []) mem (chs.map (·.c)) late (chs.take q) x=true
 edge:∀ (i:Nat) (o:Oper),ops[i]?=some o->∀ e∈o.after,Region.binds md e=true->e.on<i
 needs:∀ (i:Nat) (o:Oper),ops[i]?=some o->Nd ops o ((EN md ops.toList []).getD i 0).testBit
 cov:∀ i,i<ops.size->(chs.map (·.c)).contains i=true∨cv mem late sts lts i ((EN md ops.toList []).getD i 0)=true/\(late.contains i=true∨∀ x,chs[sp]?=some x->((EN md ops.toList []).getD x.c 0).testBit i=true)
theorem fOs {n sp:Nat} {mem late:List Nat} {sts lts:List Stg} {chs:List Chn} (h:fOk md ops n sp mem late sts lts chs=true):FO md ops n sp mem late sts lts chs:=by
 simp only [fOk,TZ,UO,UY] at h;obtain ⟨⟨⟨⟨⟨⟨h1,h2⟩,hlt⟩,hcs⟩,hsep⟩,hch⟩,h3⟩:=h;have lt:∀ (i:Nat) (o:Oper),ops[i]?=some o->i<ops.size:=fun i o h=>(Array.getElem?_eq_some_iff.1 h).1
 have h4:∀ (i:Nat) (o:Oper),ops[i]?=some o->(∀ d,o.dst=some d->d<n/\∀ j<ops.size,j=i∨dO ops j≠some d)/\(∀ e∈o.after,Region.binds md e=true->e.on<i)/\
  Nd ops o ((EN md ops.toList []).getD i 0).testBit/\((chs.map (·.c)).contains i=true∨cv mem late sts lts i ((EN md ops.toList []).getD i 0)=true/\(late.contains i=true∨∀ x,chs[sp]?=some x->((EN md ops.toList []).getD x.c 0).testBit i=true)):=by
  intro i o ho;have:=h3 i (lt i o ho);rw [ho] at this;simp only [TZ,decide_eq_true_eq,Wb] at this;obtain ⟨⟨⟨k1,k2⟩,k3⟩,k4⟩:=this;refine ⟨fun d hd=>?_,?_,k3,k4.imp_right fun k=>⟨k.1,k.2.imp_right fun k x hx=>by rw [hx] at k;exact k⟩⟩
  · rw [hd] at k1;simp only [TZ,decide_eq_true_eq,UO,UY,Wb,beq_iff_eq] at k1;exact k1
  · intro e he hb;have:=VC.1 k2 e he
    simpa [hb] using this
 refine ⟨Region.noSelect_spec h1,⟨fun i d hd=>?_,fun i j d hi hj=>?_⟩,h2,hlt,hcs,fun i hi=>?_,fun q x hx=>?_,fun i o ho=>(h4 i o ho).2.1,fun i o ho=>(h4 i o ho).2.2.1,fun i hi=>?_⟩
 · cases ho:ops[i]? with
   | none=>simp [dO,ho] at hd
   | some o=>
    simp only [dO,ho,Option.bind_some] at hd;exact ((h4 i o ho).1 d hd).1
 · cases ho:ops[i]? with
   | none=>simp [dO,ho] at hi
   | some o=>
    have hi':=hi;simp only [dO,ho,Option.bind_some] at hi'
    cases hoj:ops[j]? with
    | none=>simp [dO,hoj] at hj
    | some oj=>exact ((((h4 i o ho).1 d hi').2 j (lt j oj hoj)).resolve_right (fun h=>h hj)).symm
 · have:=hsep i (Vq.1 hi);simp only [TZ,Vp] at this;exact this
 · have:=hch q (by
    rcases Ul q chs.length with h | h
    · exact h
    · rw [List.getElem?_eq_none h] at hx;cases hx)
   rw [hx] at this;exact this
 · exact (h4 i _ (Array.getElem?_eq_getElem hi)).2.2.2
theorem Fi.congr (h:Fi ops a0 L V a) (e:∀ i,L i=L' i):Fi ops a0 L' V a:=by
 have:L=L':=funext e
 rwa [<- this]
theorem Fi.cons (hl:Ln ops a0.tmps.size) {l:List Value} {dfs:List Deferred} {kn:List Nat} (h:Fi ops a0 kn.contains V ⟨l.toArray,dfs⟩) {i d:Nat} (hi:kn.contains i=false) (hd:dO ops i=some d) (v:Value):
 Fi ops a0 (i::kn).contains (fun j=>if j=i then v else V j) ⟨(l.set d v).toArray,dfs⟩:=by
 have:=h.put hl hi v;rw [hd] at this;simp only [Act.put,US] at this;exact this.congr fun j=>by rw [Vf]
theorem dRs (hl:Ln ops a0.tmps.size) {w:World} (hS:S w) {Lr:Nat->Bool} {mem:List Nat} {K:List Value->Prop} {dfs:List Deferred}
 (hsel:∀ (j:Nat) (o:Oper) cs b,ops[j]?=some o->o.op≠.select cs b)
 (hf:Fi ops a0 Lr V a)
 (hn:∀ (i:Nat) (o:Oper),Lr i=true->ops[i]?=some o->∀ j d,dO ops j=some d->d∈o.looksAt ops->Lr j=true):
 ∀ (ds:NL) (hy:∀ p∈ds,∀ o:Oper,Lr p.1=true->ops[p.1]?=some o->YieldsIf P ops S o (V p.1) a) (kn:List Nat) (l:List Value) (V':Nat->Value),Fi ops a0 kn.contains V' ⟨l.toArray,dfs⟩->(∀ i,kn.contains i=true->Lr i=true->V' i=V i)->
  dK ops mem kn ds=true->dR P ops S dfs ds l K->
  ∃ l' V'',Fi ops a0 (ov kn ds).contains V'' ⟨l'.toArray,dfs⟩/\(∀ i,(ov kn ds).contains i=true->Lr i=true->V'' i=V i)/\K l'/\(∀ i,kn.contains i=true->(ov kn ds).contains i=true/\V'' i=V' i)/\
   ∀ p∈ds,∀ o:Oper,ops[p.1]?=some o->(YieldsIf P ops S o (V'' p.1) ⟨l'.toArray,dfs⟩/\Nd ops o (ov kn ds).contains):=by
 intro ds
 induction ds with
 | nil=>intro _ kn l V' h1 h2 _ h4;exact ⟨l,V',h1,h2,h4,fun i hi=>⟨hi,rfl⟩,fun p hp=>by cases hp⟩
 | cons p ds ih=>
  obtain ⟨i,d⟩:=p;intro hy kn l V' h1 h2 h3 h4;obtain ⟨o,v,ho,hd,hyo,hr⟩:=h4;simp only [dK,ho,TZ,decide_eq_true_eq,Vp] at h3;obtain ⟨⟨⟨⟨-,hne⟩,hik⟩,him⟩,hds⟩:=h3;have hdo:dO ops i=some d:=by simp [dO,ho,hd]
  have hag:Lr i=true->v=V i:=fun hLi=>by
   refine yS hyo (yT (hy (i,d) Vu o hLi ho) (hf.exec h1 (hsel i o · · ho) fun j t hj ht=>?_)) hS;exact ⟨hn i o hLi ho j t hj ht,hne.of hj ht,(h2 j (hne.of hj ht) (hn i o hLi ho j t hj ht)).symm⟩
  obtain ⟨l',V'',k1,k2,k3,k4,k5⟩:=ih (fun p hp=>hy p (UR _ hp)) (i::kn) (l.set d v) _ (h1.cons hl hik hdo v) (fun j hj hL=>by
   by_cases hji:j=i
   · subst hji;rw [if_pos rfl];exact hag hL
   · rw [if_neg hji];refine h2 j ?_ hL;rw [Vf] at hj;simpa [hji] using hj) hds hr
  have hcons:∀ j,kn.contains j=true->(i::kn).contains j=true:=fun j hj=>by rw [Vf,hj,Bool.or_true]
  have hji:∀ j,kn.contains j=true->j≠i:=fun j hj e=>by rw [e,hik] at hj;cases hj
  refine ⟨l',V'',k1,k2,k3,fun j hj=>⟨(k4 j (hcons j hj)).1,((k4 j (hcons j hj)).2.trans (if_neg (hji j hj)))⟩,fun p hp o' ho'=>?_⟩
  rcases Ue.1 hp with rfl | hp
  · simp only at ho';rw [ho] at ho';injection ho' with ho';subst ho'
    have hi1:=k4 i (by rw [Vf];simp);refine ⟨?_,fun t ht j hj hjt=>(k4 j (hcons j (hne t ht j hj hjt))).1⟩;simp only;rw [hi1.2,if_pos rfl];refine yT hyo (h1.exec k1 (hsel i o · · ho) fun j t hj ht=>?_);have hk:=hne.of hj ht;exact ⟨hk,(k4 j (hcons j hk)).1,((k4 j (hcons j hk)).2.trans (if_neg (hji j hk))).symm⟩
  · exact k5 p hp o' ho'
theorem dKo {mem:List Nat}:∀ {ds:NL} {kn:List Nat},dK ops mem kn ds=true->∀ p∈ds,mem.contains p.1=false
 | [],_,_,_,hp=>by cases hp
 | (i,d)::ds,kn,h,p,hp=>by
  simp only [dK,TZ,Vp] at h
  rcases Ue.1 hp with rfl | hp
  · exact h.1.2
  · exact dKo h.2 p hp
theorem Ih {mem:List Nat}:∀ {ms:NL} {kn:List Nat},mO ops mem kn ms=true->∀ p∈ms,dO ops p.1=some p.2/\mem.contains p.1=true
 | [],_,_,_,hp=>by cases hp
 | q::ms,kn,h,p,hp=>by
  simp only [mO,TZ,decide_eq_true_eq] at h
  rcases Ue.1 hp with rfl | hp
  · exact ⟨h.1.1.1,h.1.1.2⟩
  · exact Ih h.2 p hp
theorem gvs (hl:Ln ops a0.tmps.size) {F:Nat->Value->World->Prop} {w:World} {mem:List Nat} {dfs:List Deferred} {G:List Value->Prop}:∀ (ms:NL) (kn:List Nat) (l:List Value),
 Fi ops a0 kn.contains V ⟨l.toArray,dfs⟩->mO ops mem kn ms=true->(∀ p∈ms,F p.1 (V p.1) w)->Gv F w ms G l->
 ∃ l',Fi ops a0 (ov kn ms).contains V ⟨l'.toArray,dfs⟩/\G l'
 | [],kn,l,h,_,_,hG=>⟨l,h,hG⟩
 | p::ms,kn,l,h,hm,hF,hG=>by
  simp only [mO,TZ,decide_eq_true_eq,Vp] at hm;obtain ⟨⟨⟨h1,h2⟩,h3⟩,h4⟩:=hm;refine gvs hl ms (p.1::kn) (l.set p.2 (V p.1)) ?_ h4 (fun q hq=>hF q (UR _ hq)) (hG _ (hF p Vu));have:=h.cons hl h3 h1 (V p.1);have e:(fun j=>if j=p.1 then V p.1 else V j)=V:=funext fun j=>by split<;>simp_all
  rwa [e] at this
theorem sOp {l:List Value} {dfs:List Deferred} {d:Option Tmp} {v:Value}:Act.put ⟨l.toArray,dfs⟩ d v=⟨(Ny d v l).toArray,dfs⟩:=by
 cases d with
 | none=>rfl
 | some d=>simp only [Act.put,Ny,US]
theorem Fi.same_v {i:Nat} (h:Fi ops a0 L (fun j=>if j=i then V i else V j) a):Fi ops a0 L V a:=by
 have e:(fun j=>if j=i then V i else V j)=V:=funext fun j=>by split<;>simp_all
 rwa [e] at h
theorem cOt:∀ (cs:List Chn) (kn:List Nat) (q:Nat),cO ops kn cs=true->cO ops kn (cs.take q)=true
 | [],_,_,_=>by simp [cO]
 | x::cs,kn,0,_=>by simp [cO]
 | x::cs,kn,q+1,h=>by
  simp only [cO,TZ] at h;rw [List.take_succ_cons,cO,cOt cs _ q h.2,h.1.1.1,h.1.1.2,h.1.2];rfl
theorem cOo:∀ (cs:List Chn) (kn:List Nat),cO ops kn cs=true->∀ x∈cs,kn.contains x.c=false/\dO ops x.c=x.d/\x.c<ops.size
 | [],_,_,_,hx=>by cases hx
 | y::cs,kn,h,x,hx=>by
  simp only [cO,TZ,Vp,decide_eq_true_eq] at h
  rcases Ue.1 hx with rfl | hx
  · exact ⟨h.1.2,h.1.1.1,h.1.1.2⟩
  · have:=cOo cs _ h.2 x hx;refine ⟨?_,this.2⟩;have h1:=this.1;rw [Vf] at h1;exact (Bool.or_eq_false_iff.1 h1).2
theorem cOi:∀ (cs:List Chn) (kn:List Nat),cO ops kn cs=true->∀ (q q':Nat) (x x':Chn),cs[q]?=some x->cs[q']?=some x'->x.c=x'.c->q=q'
 | [],_,_,q,_,x,_,h,_,_=>by simp at h
 | y::cs,kn,h,q,q',x,x',hx,hx',e=>by
  simp only [cO,TZ] at h;have out:=cOo cs _ h.2
  cases q with
  | zero=>
   cases q' with
   | zero=>rfl
   | succ q'=>
    simp only [List.getElem?_cons_zero,Option.some.injEq,List.getElem?_cons_succ] at hx hx';have:=(out x' (TO hx')).1;rw [Vf,<- e,<- hx] at this;simp at this
  | succ q=>
   cases q' with
   | zero=>
    simp only [List.getElem?_cons_zero,Option.some.injEq,List.getElem?_cons_succ] at hx hx';have:=(out x (TO hx)).1;rw [Vf,e,<- hx'] at this;simp at this
   | succ q'=>
    simp only [List.getElem?_cons_succ] at hx hx';rw [cOi cs _ h.2 q q' x x' hx hx' e]
theorem gVs (hl:Ln ops a0.tmps.size) {dfs:List Deferred} {G:List Value->List Value->Prop}:∀ (cs:List Chn) (kn:List Nat) (vs l:List Value),
 Fi ops a0 kn.contains V ⟨l.toArray,dfs⟩->cO ops kn cs=true->GV G cs vs l->
 ∃ l',Fi ops a0 (oC kn cs).contains V ⟨l'.toArray,dfs⟩/\G (vs++cs.map fun x=>V x.c) l'
 | [],kn,vs,l,h,_,hG=>⟨l,h,by rw [List.map_nil,UA];exact hG⟩
 | x::cs,kn,vs,l,h,hc,hG=>by
  simp only [cO,TZ,decide_eq_true_eq,Vp] at hc;obtain ⟨⟨⟨h1,h2⟩,h3⟩,h4⟩:=hc;have hf:=h.put hl h3 (V x.c);rw [h1,sOp] at hf;obtain ⟨l',k1,k2⟩:=gVs hl cs (x.c::kn) (vs++[V x.c]) (Ny x.d (V x.c) l) (hf.same_v.congr fun j=>(Vf).symm) h4 (hG _);refine ⟨l',k1,?_⟩;rw [List.map_cons,List.append_cons];exact k2
def OO (P:Program) (ops:Array Oper) (G:Value->World->Prop) (o:Oper) (d:Option Tmp) (a:Act) (w:World):Prop:=
 ∀ K:Act->World->Prop,Shut (∀ v w',G v w'->K (a.put d v) w')->
  if Region.wanted o (yielded ops a.tmps)=true then Oper.wp P o a w K (fun _ _ _=>False) else K (a.put d undef) w
def KR (P:Program) (ops:Array Oper) (a:Act) (w:World):KL->Prop
 | []=>True
 | p::r=>(∃ o,ops[p.1]?=some o/\OO P ops (fun v w'=>p.2.2 v w'/\Yg w w') o (some p.2.1) a w)/\KR P ops a w r
theorem KR.at_ {w:World}:∀ {ks:KL},KR P ops a w ks->∀ p∈ks,∃ o,ops[p.1]?=some o/\OO P ops (fun v w'=>p.2.2 v w'/\Below w.heap.size w w') o (some p.2.1) a w
 | [],_,_,h=>by cases h
 | _::_,h,p,hp=>by
  rcases Ue.1 hp with rfl | hp
  · exact h.1
  · exact KR.at_ h.2 p hp
def aK (sts:List Stg):KL:=sts.flatMap (·.ks)
def fK:KL->Nat->Value->World->Prop
 | [],_=>fun _ _=>True
 | p::r,i=>if i=p.1 then p.2.2 else fK r i
def KN:KL->Bool
 | []=>true
 | p::r=>r.all (fun q=>!(q.1==p.1)) && KN r
theorem fKa:∀ {l:KL},KN l=true->∀ p∈l,fK l p.1=p.2.2
 | [],_,_,h=>by cases h
 | q::l,hn,p,hp=>by
  simp only [KN,TZ,UO,Vp,beq_eq_false_iff_ne] at hn
  rcases Ue.1 hp with rfl | hp
  · exact if_pos rfl
  · rw [fK,if_neg (hn.1 p hp)];exact fKa hn.2 p hp
def KB (R:World->World->Prop):KL->Prop
 | []=>True
 | p::r=>(∀ v w w',p.2.2 v w->Yg w w'->p.2.2 v w')/\(∀ v w w',p.2.2 v w->R w w'->p.2.2 v w')/\KB R r
theorem KB.find {R:World->World->Prop}:∀ {l:KL},KB R l->∀ i v w w',fK l i v w->(Below w.heap.size w w'∨R w w')->fK l i v w'
 | [],_,_,_,_,_,_,_=>trivial
 | p::l,h,i,v,w,w',hf,hb=>by
  rw [fK] at hf ⊢
  split at hf
  · rename_i e;rw [if_pos e]
    rcases hb with hb | hb
    · exact h.1 _ _ _ hf hb
    · exact h.2.1 _ _ _ hf hb
  · rename_i e;rw [if_neg e];exact KB.find h.2.2 i v w w' hf hb
structure Eo where
 S:World->Prop
 F:Nat->Value->World->Prop
 J:List Value->World->Prop
 R:World->World->Prop
 sp:Nat
structure Eo.Ok (g:Eo):Prop where
 s:∀ w w',g.S w->Yg w w'->g.S w'
 f:∀ k v w w',g.F k v w->Yg w w'->g.F k v w'
 j:∀ vs w w',g.J vs w->Yg w w'->g.J vs w'
 r:∀ k v w w',g.F k v w->g.R w w'->g.F k v w'
def Eo.at_ (f:Eo) (p:Nat):Nat->Value->World->Prop:=if p<=f.sp then f.F else fun k v _=>∃ W,f.F k v W
variable {f:Eo} {mem late:List Nat} {sts lts:List Stg} {chs:List Chn} {l0:List Value} {dfs:List Deferred}
def Fb (_:World):Prop:=True
def SR (P:Program) (ops:Array Oper) (f:Eo) (l0:List Value) (dfs:List Deferred) (s:Stg):Prop:=
 ∀ w,f.S w->Gv f.F w s.ms (fun l=>dR P ops f.S dfs s.ds l fun l=>dR P ops Fb dfs s.ps l fun l'=>KR P ops ⟨l'.toArray,dfs⟩ w s.ks) l0
def CR (P:Program) (ops:Array Oper) (f:Eo) (l0:List Value) (dfs:List Deferred) (pre:List Chn) (x:Chn):Prop:=
 ∀ w,(pre.length<=f.sp->f.S w)->GV (fun vs l=>f.J vs w->Gv (f.at_ pre.length) w x.ms (fun l=>dR P ops f.S dfs x.ds l fun l=>dR P ops Fb dfs x.ps l fun l'=>∃ o,ops[x.c]?=some o/\OO P ops (fun v w'=>f.J (vs++[v]) w'/\(pre.length+1<=f.sp->f.S w'/\f.R w w')) o x.d ⟨l'.toArray,dfs⟩ w) l) pre [] l0
def FR (P:Program) (ops:Array Oper) (f:Eo) (l0:List Value) (dfs:List Deferred) (chs:List Chn) (s:Stg) (K:List Value->World->Prop):Prop:=
 ∀ w,(chs.length<=f.sp->f.S w)->GV (fun vs l=>f.J vs w->Gv (f.at_ chs.length) w s.ms (fun l=>dR P ops f.S dfs s.ds l fun l=>dR P ops Fb dfs s.ps l fun l'=>K l' w) l) chs [] l0
def LsR (P:Program) (ops:Array Oper) (f:Eo) (l0:List Value) (dfs:List Deferred) (w0:World):List Stg->Prop
 | []=>True
 | s::r=>Gv (fun k v _=>∃ W,f.F k v W) w0 s.ms (fun l=>dR P ops f.S dfs s.ds l fun l=>dR P ops Fb dfs s.ps l fun _=>True) l0/\LsR P ops f l0 dfs w0 r
theorem LsR.at_ {w0:World}:∀ {sts:List Stg},LsR P ops f l0 dfs w0 sts->∀ s∈sts,Gv (fun k v _=>∃ W,f.F k v W) w0 s.ms (fun l=>dR P ops f.S dfs s.ds l fun l=>dR P ops Fb dfs s.ps l fun _=>True) l0
 | [],_,_,h=>by cases h
 | _::_,h,s,hs=>by
  rcases Ue.1 hs with rfl | hs
  · exact h.1
  · exact LsR.at_ h.2 s hs
def SsR (P:Program) (ops:Array Oper) (f:Eo) (l0:List Value) (dfs:List Deferred):List Stg->Prop
 | []=>True
 | s::r=>SR P ops f l0 dfs s/\SsR P ops f l0 dfs r
theorem SsR.at_:∀ {sts:List Stg},SsR P ops f l0 dfs sts->∀ s∈sts,SR P ops f l0 dfs s
 | [],_,_,h=>by cases h
 | _::_,h,s,hs=>by
  rcases Ue.1 hs with rfl | hs
  · exact h.1
  · exact SsR.at_ h.2 s hs
def CsR (P:Program) (ops:Array Oper) (f:Eo) (l0:List Value) (dfs:List Deferred):List Chn->List Chn->Prop
 | _,[]=>True
 | pre,x::r=>CR P ops f l0 dfs pre x/\CsR P ops f l0 dfs (pre++[x]) r
theorem CsR.at_:∀ (chs pre:List Chn),CsR P ops f l0 dfs pre chs->∀ (q:Nat) (x:Chn),chs[q]?=some x->CR P ops f l0 dfs (pre++chs.take q) x
 | [],_,_,q,x,h=>by simp at h
 | y::chs,pre,h,0,x,hx=>by
  simp only [List.getElem?_cons_zero,Option.some.injEq] at hx;subst hx;rw [List.take_zero,UA];exact h.1
 | y::chs,pre,h,q+1,x,hx=>by
  have:=CsR.at_ chs _ h.2 q x (by simpa using hx);rw [List.take_succ_cons]
  rwa [TR,List.singleton_append] at this
def Tof (f:Eo) (late:List Nat) (i:Nat):World->Prop:=if late.contains i=true then Fb else f.S
structure FI (P:Program) (md:Region.Mode) (ops:Array Oper) (f:Eo) (mem late:List Nat) (chs:List Chn) (a0:Act) (L:Array Bool) (a:Act) (w:World) (V:Nat->Value):Prop where
 size:L.size=ops.size
 fill:Fi ops a0 (fun i=>L.getD i false) V a
 yields:∀ (i:Nat) (o:Oper),L.getD i false=true->(mem++chs.map (·.c)).contains i=false->ops[i]?=some o->YieldsIf P ops (Tof f late i) o (V i) a
 weak:∀ i,L.getD i false=true->mem.contains i=true->∃ W,f.F i (V i) W
 closed:Cd md ops fun i=>L.getD i false
 chain:∃ p,p<=chs.length/\(∀ (q:Nat) (x:Chn),chs[q]?=some x->(L.getD x.c false=true↔q<p))/\f.J ((chs.take p).map fun x=>V x.c) w/\(p<=f.sp->f.S w/\∀ i,L.getD i false=true->mem.contains i=true->f.F i (V i) w)
theorem gDs {L:Array Bool} {i j:Nat} (hi:i<L.size):(L.setIfInBounds i true).getD j false=(j==i || L.getD j false):=by
 by_cases h:j=i
 · subst h;simp [hi]
 · have:=getD_set_ne (listed:=L) (i:=i) (j:=j) false (Ne.symm h);rw [this];simp [h]
theorem FI.anc {w:World} {Lb:Array Bool} (h:FI P md ops f mem late chs a0 Lb a w V) {i:Nat} {o:Oper} (ho:ops[i]?=some o)
 (he:∀ e∈o.after,Region.binds md e=true->Lb.getD e.on false=true) {j:Nat} (hj:((EN md ops.toList []).getD i 0).testBit j=true):Lb.getD j false=true:=by
 rw [TS] at hj
 cases hm:(EN md ops.toList [])[i]? with
 | none=>rw [hm] at hj;simp at hj
 | some m=>
  rw [hm] at hj;exact anS h.closed ops.toList [] (fun k=>by simp) (fun i m o hi=>by simp at hi) i m o hm ho he j hj
theorem FI.put {w w':World} {Lb:Array Bool} (ok:FO md ops a0.tmps.size f.sp mem late sts lts chs) (h:FI P md ops f mem late chs a0 Lb a w V) {i:Nat} {o:Oper} (ho:ops[i]?=some o)
 (hi:Lb.getD i false=false) (he:∀ e∈o.after,Region.binds md e=true->Lb.getD e.on false=true) {v:Value}
 (hy:(mem++chs.map (·.c)).contains i=false->YieldsIf P ops (Tof f late i) o v a) (hwk:mem.contains i=true->∃ W,f.F i v W)
 (hc:∃ p,p<=chs.length/\(∀ (q:Nat) (x:Chn),chs[q]?=some x->((Lb.setIfInBounds i true).getD x.c false=true↔q<p))/\f.J ((chs.take p).map fun x=>if x.c=i then v else V x.c) w'/\(p<=f.sp->f.S w'/\∀ j,(Lb.setIfInBounds i true).getD j false=true->mem.contains j=true->f.F j (if j=i then v else V j) w')):
 FI P md ops f mem late chs a0 (Lb.setIfInBounds i true) (a.put o.dst v) w' (fun j=>if j=i then v else V j):=by
 have hlt:i<Lb.size:=by rw [h.size];exact (Array.getElem?_eq_some_iff.1 ho).1
 have hd:dO ops i=o.dst:=by simp [dO,ho]
 have hfl:Fi ops a0 (fun j=>(Lb.setIfInBounds i true).getD j false) (fun j=>if j=i then v else V j) (a.put o.dst v):=by
  have:=h.fill.put ok.ln hi v;rw [hd] at this;exact this.congr fun j=>(gDs hlt).symm
 have turn:∀ (j:Nat) (oj:Oper) u (T:World->Prop),ops[j]?=some oj->(∀ e∈oj.after,Region.binds md e=true->Lb.getD e.on false=true)->YieldsIf P ops T oj u a->YieldsIf P ops T oj u (a.put o.dst v):=fun j oj u T hj hej hyj=>by
  refine yT hyj (h.fill.exec hfl (ok.sel j oj · · hj) fun k t hk ht=>?_);have hLk:=h.anc hj hej ((ok.needs j oj hj).of hk ht);refine ⟨hLk,by rw [gDs hlt,hLk,Bool.or_true],?_⟩;rw [if_neg (fun e=>by rw [e,hi] at hLk;cases hLk)]
 have old:∀ j,(Lb.setIfInBounds i true).getD j false=true->j≠i->Lb.getD j false=true:=fun j hj hji=>by
  rw [gDs hlt] at hj;simpa [hji] using hj
 refine ⟨by simp [h.size],hfl,fun j oj hj hmj hoj=>?_,fun j hj hmj=>?_,fun j oj hoj hj e hem hbe=>?_,hc⟩
 · by_cases hji:j=i
   · subst hji;rw [ho] at hoj;injection hoj with hoj;subst hoj
     rw [if_pos rfl];exact turn _ _ _ _ ho he (hy hmj)
   · rw [if_neg hji];have hLj:=old j hj hji;exact turn j oj _ _ hoj (h.closed j oj hoj hLj) (h.yields j oj hLj hmj hoj)
 · by_cases hji:j=i
   · subst hji;rw [if_pos rfl];exact hwk hmj
   · rw [if_neg hji];exact h.weak j (old j hj hji) hmj
 · show (Lb.setIfInBounds i true).getD e.on false=true;rw [gDs hlt];by_cases hji:j=i
   · subst hji;rw [ho] at hoj;injection hoj with hoj;subst hoj
     rw [he e hem hbe,Bool.or_true]
   · have hx:Lb.getD e.on false=true:=h.closed j oj hoj (old j hj hji) e hem hbe;rw [hx,Bool.or_true]
theorem pIj {b:Act} {d:Tmp} {u v:Value} (h:b.put (some d) u=b.put (some d) v) (hd:d<b.tmps.size):u=v:=by
 have:=congrArg (fun a:Act=>a.tmps[d]?) h
 simpa [Act.put,hd] using this
theorem oOw {o:Oper} {d:Option Tmp} {b:Act} {w:World} {G:Value->World->Prop} {K:Act->World->Prop} (hdo:o.dst=d) (hroom:∀ t,d=some t->t<b.tmps.size)
 (hex:execOp b.eval o=execOp a.eval o) (hwa:Region.wanted o (yielded ops b.tmps)=Region.wanted o (yielded ops a.tmps)) (hop:OO P ops G o d b w)
 (done:∀ v w',G v w'->K (a.put o.dst v) w') {i:Nat} (ho:ops[i]?=some o):wpOp P ops Q i K a w:=by
 have hop:=hop (fun a' w'=>∃ v,a'=b.put d v/\G v w') (fun v w' hv=>⟨v,rfl,hv⟩)
 have fin:∀ u w',(∃ v,b.put d u=b.put d v/\G v w')->K (a.put o.dst u) w':=by
  rintro u w' ⟨v,e,hv⟩
  have:a.put o.dst u=a.put o.dst v:=by
   rw [hdo]
   cases hd:d with
   | none=>rfl
   | some t=>rw [hd] at e;rw [pIj e (hroom t hd)]
  rw [this];exact done v w' hv
 unfold wpOp;simp only [ho];rw [hwa] at hop
 split
 · rename_i hw;rw [if_pos hw] at hop;left;unfold Oper.wp at hop ⊢;rw [hex] at hop;generalize (execOp a.eval o).run P w=r at hop ⊢
   cases r with
   | ok n w'=>
    cases n<;>simp only [Oper.upon,hdo] at hop ⊢
    case value u=>rw [<- hdo];exact fin u w' hop
    case skip=>rw [<- hdo];exact fin _ w' hop
    case defer x=>
     obtain ⟨v,e,-⟩:=hop;have:=congrArg (fun a:Act=>a.defers.length) e
     cases d<;>simp [Act.put] at this
    case enter f args=>
     refine Calls.mono hop fun e w'' he=>?_
     cases e with
     | returned u=>rw [<- hdo];exact fin u w'' he
     | panicked c=>exact he.elim
     | outgrown=>exact absurd he (by simp [LetsOut])
    case row row args=>exact Rows.mono hop fun u w'' he=>by rw [<- hdo];exact fin u w'' he
   | halt x w'=>cases x<;>simp only [Oper.upon] at hop ⊢
 · rename_i hw;rw [if_neg hw] at hop;exact fin _ w hop
theorem ovm:∀ (ds:NL) (kn:List Nat) (i:Nat),kn.contains i=true->(ov kn ds).contains i=true
 | [],_,_,h=>h
 | _::ds,_,_,h=>ovm ds _ _ (by rw [Vf,h,Bool.or_true])
theorem ovh:∀ {ds:NL} {kn:List Nat} (p:Nat × Tmp),p∈ds->(ov kn ds).contains p.1=true
 | [],_,_,hp=>by cases hp
 | q::ds,kn,p,hp=>by
  rcases Ue.1 hp with e | h
  · subst e;exact ovm ds _ _ (by rw [Vf];simp)
  · exact ovh (ds:=ds) p h
theorem cap {a b:List Nat} {i:Nat}:(a++b).contains i=(a.contains i || b.contains i):=by
 rw [Bool.eq_iff_iff];simp
theorem bth {w w0:World} {Lb:Array Bool} (hS0:f.S w0) (ok:FO md ops l0.length f.sp mem late sts lts chs) (h:FI P md ops f mem late chs ⟨l0.toArray,dfs⟩ Lb a w V):∀ (kn:List Nat) (ds ps:NL) (l:List Value) (K:List Value->Prop),Fi ops ⟨l0.toArray,dfs⟩ kn.contains V ⟨l.toArray,dfs⟩->dK ops (mem++chs.map (·.c)++late) kn ds=true->pO ops mem (chs.map (·.c)) late (ov kn ds) ps=true->
 dR P ops f.S dfs ds l (fun l=>dR P ops Fb dfs ps l K)->∃ l' V'',Fi ops ⟨l0.toArray,dfs⟩ (ov (ov kn ds) ps).contains V'' ⟨l'.toArray,dfs⟩/\(∀ i,(ov (ov kn ds) ps).contains i=true->Lb.getD i false=true->V'' i=V i)/\K l'/\
  (∀ p∈ds,∀ o:Oper,ops[p.1]?=some o->(YieldsIf P ops f.S o (V'' p.1) ⟨l'.toArray,dfs⟩/\Nd ops o (ov (ov kn ds) ps).contains))/\
  ∀ p∈ps,∀ o:Oper,ops[p.1]?=some o->(YieldsIf P ops Fb o (V'' p.1) ⟨l'.toArray,dfs⟩/\Nd ops o (ov (ov kn ds) ps).contains):=by
 have hsz:(⟨l0.toArray,dfs⟩:Act).tmps.size=l0.length:=by simp
 have ln:Ln ops (⟨l0.toArray,dfs⟩:Act).tmps.size:=by rw [hsz];exact ok.ln
 have hnl:∀ (j:Nat) (oj:Oper),Lb.getD j false=true->ops[j]?=some oj->∀ k t,dO ops k=some t->t∈oj.looksAt ops->Lb.getD k false=true:=fun j oj hj hoj k t hk ht=>
  h.anc hoj (h.closed j oj hoj hj) ((ok.needs j oj hoj).of hk ht)
 have tof:∀ {j:Nat},late.contains j=false->Tof f late j=f.S:=fun h=>by unfold Tof;rw [h];rfl
 have tofL:∀ {j:Nat},late.contains j=true->Tof f late j=Fb:=fun h=>by unfold Tof;rw [h];rfl
 have hyD:∀ (kn:List Nat) (ds:NL),dK ops (mem++chs.map (·.c)++late) kn ds=true->∀ p∈ds,∀ o:Oper,Lb.getD p.1 false=true->ops[p.1]?=some o->YieldsIf P ops f.S o (V p.1) a:=fun kn ds hd p hp o hL hop=>by
  have:=dKo hd p hp;rw [cap,Bool.or_eq_false_iff] at this;have hy:=h.yields p.1 o hL this.1 hop
  rwa [tof this.2] at hy
 have hyP:∀ (kn:List Nat) (ps:NL),pO ops mem (chs.map (·.c)) late kn ps=true->∀ p∈ps,∀ o:Oper,Lb.getD p.1 false=true->ops[p.1]?=some o->YieldsIf P ops Fb o (V p.1) a:=fun kn ps hd p hp o hL hop=>by
  unfold pO at hd;rw [TZ,UO] at hd;have hy:=h.yields p.1 o hL (dKo hd.1 p hp) hop
  rwa [tofL (hd.2 p hp)] at hy
 intro kn ds ps l K hfl hd hp hr;obtain ⟨l1,V1,k1,k2,k3,k4,k5⟩:=dRs ln hS0 ok.sel h.fill hnl ds (hyD kn ds hd) kn l V hfl (fun _ _ _=>rfl) hd hr;have hp':=hp;unfold pO at hp';rw [TZ] at hp';obtain ⟨l2,V2,m1,m2,m3,m4,m5⟩:=dRs (S:=Fb) (w:=w) ln trivial ok.sel h.fill hnl ps (hyP _ ps hp) _ l1 V1 k1 k2 hp'.1 k3;refine ⟨l2,V2,m1,m2,m3,fun p hpd o hop=>?_,m5⟩;obtain ⟨hy,hne⟩:=k5 p hpd o hop;have hk:∀ j,(ov kn ds).contains j=true->(ov (ov kn ds) ps).contains j=true:=fun j hj=>(m4 j hj).1;refine ⟨?_,fun t ht j hj hjt=>hk j (hne t ht j hj hjt)⟩;have hpk:(ov kn ds).contains p.1=true:=ovh p hpd;rw [(m4 p.1 hpk).2];exact yT hy (k1.exec m1 (ok.sel p.1 o · · hop) fun j t hj ht=>⟨hne.of hj ht,hk j (hne.of hj ht),(m4 j (hne.of hj ht)).2.symm⟩)
theorem fst {w:World} {Lb:Array Bool} (hf:f.Ok) {w0:World} (hS0:f.S w0) (hfk:∀ s∈sts,∀ p∈s.ks,f.F p.1=p.2.2) (ok:FO md ops l0.length f.sp mem late sts lts chs)
 (hst:SsR P ops f l0 dfs sts) (hlt:LsR P ops f l0 dfs w0 lts) (hch:CsR P ops f l0 dfs [] chs) (h:FI P md ops f mem late chs ⟨l0.toArray,dfs⟩ Lb a w V) {i:Nat} (hi:i∈Region.ready md ops Lb):
 wpOp P ops Q i (fun a' w'=>∃ V',FI P md ops f mem late chs ⟨l0.toArray,dfs⟩ (Lb.setIfInBounds i true) a' w' V') a w:=by
 obtain ⟨hun,o,ho,he⟩:=mem_ready.1 hi;have hil:i<ops.size:=(Array.getElem?_eq_some_iff.1 ho).1;have hls:i<Lb.size:=by rw [h.size];exact hil
 have hun':Lb.getD i false=false:=by
  rw [Va,Array.getElem?_eq_getElem hls] at hun ⊢;exact hun
 have hsz:(⟨l0.toArray,dfs⟩:Act).tmps.size=l0.length:=by simp
 have ln:Ln ops (⟨l0.toArray,dfs⟩:Act).tmps.size:=by rw [hsz];exact ok.ln
 have ok':FO md ops (⟨l0.toArray,dfs⟩:Act).tmps.size f.sp mem late sts lts chs:=by rw [hsz];exact ok
 have upd:∀ (v:Value) (w':World),(∀ j,Lb.getD j false=true->mem.contains j=true->f.F j (V j) w)->(mem.contains i=true->f.F i v w')->(∀ j u,f.F j u w->f.F j u w')->
  ∀ j,(Lb.setIfInBounds i true).getD j false=true->mem.contains j=true->f.F j (if j=i then v else V j) w':=by
  intro v w' h0 hm hk j hj hmj;by_cases hji:j=i
  · subst hji;rw [if_pos rfl];exact hm hmj
  · rw [if_neg hji];rw [gDs hls] at hj;exact hk j _ (h0 j (by simpa [hji] using hj) hmj)
 have hfm:(∀ j,Lb.getD j false=true->mem.contains j=true->f.F j (V j) w)->∀ (ms:NL) (kn:List Nat),mO ops mem kn ms=true->(∀ p∈ms,((EN md ops.toList []).getD i 0).testBit p.1=true)->∀ p∈ms,f.F p.1 (V p.1) w:=fun h0 ms kn hk ha p hp=>
  h0 p.1 (h.anc ho he (ha p hp)) (Ih hk p hp).2
 have hwm:∀ (ms:NL) (kn:List Nat),mO ops mem kn ms=true->(∀ p∈ms,((EN md ops.toList []).getD i 0).testBit p.1=true)->∀ p∈ms,∃ W,f.F p.1 (V p.1) W:=fun ms kn hk ha p hp=>h.weak p.1 (h.anc ho he (ha p hp)) (Ih hk p hp).2
 have hnl:∀ (j:Nat) (oj:Oper),Lb.getD j false=true->ops[j]?=some oj->∀ k t,dO ops k=some t->t∈oj.looksAt ops->Lb.getD k false=true:=fun j oj hj hoj k t hk ht=>
  h.anc hoj (h.closed j oj hoj hj) ((ok.needs j oj hoj).of hk ht)
 have ex:∀ (l2:List Value) (V2:Nat->Value) (kn:List Nat),Fi ops ⟨l0.toArray,dfs⟩ kn.contains V2 ⟨l2.toArray,dfs⟩->(∀ j,kn.contains j=true->Lb.getD j false=true->V2 j=V j)->Nd ops o kn.contains->
  execOp (Act.eval ⟨l2.toArray,dfs⟩) o=execOp a.eval o/\Region.wanted o (yielded ops l2.toArray)=Region.wanted o (yielded ops a.tmps):=fun l2 V2 kn hf2 hag hne=>
  hf2.exec h.fill (ok.sel i o · · ho) fun j t hj ht=>by
   have hLj:=h.anc ho he ((ok.needs i o ho).of hj ht);exact ⟨hne.of hj ht,hLj,hag j (hne.of hj ht) hLj⟩
 have room:∀ (l2:List Value) (V2:Nat->Value) (L2:Nat->Bool),Fi ops ⟨l0.toArray,dfs⟩ L2 V2 ⟨l2.toArray,dfs⟩->∀ t,o.dst=some t->t<l2.toArray.size:=fun l2 V2 L2 hf2 t ht=>by
  have:=hf2.size;simp only at this;rw [this];exact ln.room i t (by simp [dO,ho,ht])
 -- the chain LK where i is none of it
 have stay:(chs.map (·.c)).contains i=false->∀ (v:Value) (w':World),Yg w w'->(mem.contains i=true->f.F i v w')->∃ p,p<=chs.length/\(∀ (q:Nat) (x:Chn),chs[q]?=some x->((Lb.setIfInBounds i true).getD x.c false=true↔q<p))/\f.J ((chs.take p).map fun x=>if x.c=i then v else V x.c) w'/\(p<=f.sp->f.S w'/\∀ j,(Lb.setIfInBounds i true).getD j false=true->mem.contains j=true->f.F j (if j=i then v else V j) w'):=by
  intro hni v w' hb hmv;obtain ⟨p,hp,hpq,hJ,hSp⟩:=h.chain
  have hne:∀ x∈chs,x.c≠i:=fun x hx e=>by
   have:i∈chs.map (·.c):=UP.2 ⟨x,hx,e⟩;rw [<- Vq,hni] at this;cases this
  refine ⟨p,hp,fun q x hx=>?_,?_⟩
  · rw [gDs hls];have:(x.c==i)=false:=by simpa using hne x (TO hx)
    rw [this,Bool.false_or];exact hpq q x hx
  · have e:((chs.take p).map fun x=>if x.c=i then v else V x.c)=(chs.take p).map fun x=>V x.c:=List.map_congr_left fun x hx=>if_neg (hne x (List.mem_of_mem_take hx));rw [e];exact ⟨hf.j _ _ _ hJ hb,fun hle=>⟨hf.s _ _ (hSp hle).1 hb,upd v w' (hSp hle).2 hmv fun j u hu=>hf.f j u w w' hu hb⟩⟩
 have tof:∀ {j:Nat},late.contains j=false->Tof f late j=f.S:=fun h=>by unfold Tof;rw [h];rfl
 have tofL:∀ {j:Nat},late.contains j=true->Tof f late j=Fb:=fun h=>by unfold Tof;rw [h];rfl
 have both:=bth hS0 ok h;by_cases hci:(chs.map (·.c)).contains i=true
 · rw [Vq] at hci;obtain ⟨x,hx,rfl⟩:=UP.1 hci;obtain ⟨q,hq⟩:=List.mem_iff_getElem?.1 hx;have hok:=ok.ch q x hq;simp only [hO,ho,TZ,decide_eq_true_eq] at hok;obtain ⟨⟨⟨⟨⟨hm1,hd1⟩,hp1⟩,hdo,hne⟩,hms⟩,hpre⟩:=hok;rw [UO] at hms hpre;obtain ⟨p,hp,hpq,hJ,hSp⟩:=h.chain
   have hqp:q=p:=by
    have h1:¬ q<p:=fun hlt=>by
     have:=(hpq q x hq).2 hlt;rw [hun'] at this;cases this
    rcases Ul p q with hlt | hge
    · have hps:p<chs.length:=TV hlt (by
       rcases Ul q chs.length with h | h
       · omega
       · rw [List.getElem?_eq_none h] at hq;cases hq)
      have hy:chs[p]?=some chs[p]:=List.getElem?_eq_getElem hps
      have hmem:chs[p]∈chs.take q:=by
       rw [List.mem_iff_getElem?];exact ⟨p,by rw [List.getElem?_take,if_pos hlt];exact hy⟩
      have hL:=h.anc ho he (hpre _ hmem);have:=(hpq p _ hy).1 hL;omega
    · omega
   subst hqp
   have hql:(chs.take q).length=q:=by
    rw [TU]
    rcases Ul q chs.length with h | h
    · omega
    · rw [List.getElem?_eq_none h] at hq;cases hq
   have hru:=CsR.at_ chs [] hch q x hq w;rw [Uo] at hru;have hru:=hru (by rw [hql];exact fun hle=>(hSp hle).1);obtain ⟨l0',hf0,hr0⟩:=gVs ln (chs.take q) [] [] l0 (Fi.nil.congr fun _=>rfl) (cOt _ _ q ok.cs) hru;rw [Uo] at hr0
   obtain ⟨l1,hf1,hr1⟩:=gvs ln x.ms _ l0' hf0 hm1 (fun p hp=>by
    unfold Eo.at_;rw [hql]
    split
    · rename_i hle;exact hfm (hSp hle).2 x.ms _ hm1 hms p hp
    · exact hwm x.ms _ hm1 hms p hp) (hr0 hJ)
   obtain ⟨l2,V2,hf2,hag,hK,-,-⟩:=both _ x.ds x.ps l1 _ hf1 hd1 hp1 hr1;obtain ⟨o',ho',hop⟩:=hK;rw [ho] at ho';injection ho' with ho';subst ho'
   obtain ⟨hex,hwa⟩:=ex l2 V2 _ hf2 hag hne;refine oOw hdo (fun t ht=>room l2 V2 _ hf2 t (hdo.trans ht)) hex hwa hop (fun v w' hG=>?_) ho;obtain ⟨hJ',hSR⟩:=hG;have hcm:(mem++chs.map (·.c)).contains x.c=true:=by rw [cap,Vq.2 hci,Bool.or_true]
   have hnm:mem.contains x.c=false:=by
    cases hmc:mem.contains x.c with
    | false=>rfl
    | true=>have:=(ok.sep _ hmc).1;rw [Vq.2 hci] at this;cases this
   refine ⟨_,h.put ok' ho hun' he (fun hc=>by rw [hcm] at hc;cases hc) (fun hc=>by rw [hnm] at hc;cases hc) ⟨q+1,?_,fun q' x' hx'=>?_,?_,fun hle=>by
    rw [hql] at hSR;exact ⟨(hSR hle).1,upd v w' (hSp Yo).2 (fun hc=>by rw [hnm] at hc;cases hc) fun j u hu=>hf.r j u w w' hu (hSR hle).2⟩⟩⟩
   · rcases Ul q chs.length with h | h
     · omega
     · rw [List.getElem?_eq_none h] at hq;cases hq
   · rw [gDs hls];by_cases e:x'.c=x.c
     · have:=cOi chs [] ok.cs q' q x' x hx' hq e;subst this;simp [e]
     · have e':(x'.c==x.c)=false:=by simpa using e
       rw [e',Bool.false_or,hpq q' x' hx'];have:q'≠q:=fun h=>e (by subst h;rw [hq] at hx';injection hx' with hx';rw [hx']);omega
   · rw [List.take_add_one,hq,Vs]
     have e:((chs.take q).map fun y=>if y.c=x.c then v else V y.c)=(chs.take q).map fun y=>V y.c:=by
      refine List.map_congr_left fun y hy=>if_neg fun e=>?_;obtain ⟨r,hr⟩:=List.mem_iff_getElem?.1 hy;rw [List.getElem?_take] at hr
      split at hr
      · have:=cOi chs [] ok.cs r q y x hr hq e;omega
      · cases hr
     rw [e]
     simpa using hJ'
 · have hci:(chs.map (·.c)).contains i=false:=by simpa using hci
   obtain ⟨hcov,hla⟩:=(ok.cov i hil).resolve_left (by rw [hci];simp);have hci':∀ {b:Bool},mem.contains i=b->(mem++chs.map (·.c)).contains i=b:=fun hb=>by rw [cap,hb,hci,Bool.or_false]
   unfold cv at hcov;by_cases hli:late.contains i=true
   · rw [if_pos hli,VE] at hcov;obtain ⟨s,hs,hcv⟩:=hcov;rw [TZ,UO] at hcv;obtain ⟨hms,hin⟩:=hcv;have hso:=ok.lt s hs;simp only [tO,TZ] at hso;obtain ⟨⟨hm1,hd1⟩,hp1⟩:=hso;obtain ⟨l1,hf1,hr1⟩:=gvs ln s.ms [] l0 (Fi.nil.congr fun _=>rfl) hm1 (hwm s.ms [] hm1 hms) (hlt.at_ s hs);obtain ⟨l2,V2,hf2,hag,-,-,hys⟩:=both _ s.ds s.ps l1 _ hf1 hd1 hp1 hr1;rw [VE] at hin;obtain ⟨p,hp,hpi⟩:=hin;rw [beq_iff_eq] at hpi;subst hpi;obtain ⟨hy,hne⟩:=hys p hp o ho
     have hmi':mem.contains p.1=false:=by
      cases hmc:mem.contains p.1 with
      | false=>rfl
      | true=>have:=(ok.sep _ hmc).2;rw [hli] at this;cases this
     have hya:YieldsIf P ops Fb o (V2 p.1) a:=yT hy (ex l2 V2 _ hf2 hag hne);exact hya.wpOp ho trivial (show _ from ⟨_,h.put ok' ho hun' he (fun _=>by rw [tofL hli];exact hya) (fun hc=>by rw [hmi'] at hc;cases hc) (stay hci _ w (Below.refl _ _) (fun hc=>by rw [hmi'] at hc;cases hc))⟩)
   · have hli':late.contains i=false:=by simpa using hli
     rw [if_neg hli,VE] at hcov;obtain ⟨s,hs,hcv⟩:=hcov;rw [TZ,UO] at hcv;obtain ⟨hms,hin⟩:=hcv;have hso:=ok.stg s hs;simp only [sO,TZ] at hso;obtain ⟨⟨⟨hm1,hd1⟩,hp1⟩,hk1⟩:=hso
     have hSw:f.S w/\∀ j,Lb.getD j false=true->mem.contains j=true->f.F j (V j) w:=by
      obtain ⟨p,hp,hpq,-,hSp⟩:=h.chain;refine hSp ?_
      rcases Ul f.sp p with hlt' | hge
      · exfalso;have hps:f.sp<chs.length:=Yo;have hy:chs[f.sp]?=some chs[f.sp]:=List.getElem?_eq_getElem hps;have hL:=(hpq _ _ hy).2 hlt';have hb:=(hla.resolve_left hli) _ hy;obtain ⟨-,-,hcs⟩:=cOo chs [] ok.cs _ (TO hy);have:=h.anc (Array.getElem?_eq_getElem hcs) (h.closed _ _ (Array.getElem?_eq_getElem hcs) hL) hb;rw [hun'] at this;cases this
      · exact hge
     have hru:=hst.at_ s hs w hSw.1;obtain ⟨l1,hf1,hr1⟩:=gvs ln s.ms [] l0 (Fi.nil.congr fun _=>rfl) hm1 (hfm hSw.2 s.ms [] hm1 hms) hru;obtain ⟨l2,V2,hf2,hag,hK,hys,-⟩:=both _ s.ds s.ps l1 _ hf1 hd1 hp1 hr1;by_cases hmi:mem.contains i=true
     · rw [if_pos hmi] at hin;rw [VE] at hin;obtain ⟨p,hp,hpi⟩:=hin;rw [beq_iff_eq] at hpi;subst hpi;unfold kO at hk1;rw [UO] at hk1;have hko:=hk1 p hp;rw [ho] at hko;simp only [decide_eq_true_eq] at hko;obtain ⟨hdo,hne⟩:=hko;obtain ⟨o',ho',hop⟩:=hK.at_ p hp;rw [ho] at ho';injection ho' with ho';subst ho'
       obtain ⟨hex,hwa⟩:=ex l2 V2 _ hf2 hag hne;refine oOw hdo (fun t ht=>room l2 V2 _ hf2 t (hdo.trans ht)) hex hwa hop (fun v w' hG=>?_) ho;have hcm:=hci' hmi;exact ⟨_,h.put ok' ho hun' he (fun hc=>by rw [hcm] at hc;cases hc) (fun _=>⟨w',by rw [hfk s hs p hp];exact hG.1⟩) (stay hci v w' hG.2 (fun _=>by rw [hfk s hs p hp];exact hG.1))⟩
     · rw [if_neg hmi] at hin;rw [VE] at hin;obtain ⟨p,hp,hpi⟩:=hin;rw [beq_iff_eq] at hpi;subst hpi;obtain ⟨hy,hne⟩:=hys p hp o ho;have hmi':mem.contains p.1=false:=by simpa using hmi
       have hya:YieldsIf P ops f.S o (V2 p.1) a:=yT hy (ex l2 V2 _ hf2 hag hne);exact hya.wpOp ho hSw.1 (show _ from ⟨_,h.put ok' ho hun' he (fun _=>by rw [tof hli'];exact hya) (fun hc=>by rw [hmi'] at hc;cases hc) (stay hci _ w (Below.refl _ _) (fun hc=>by rw [hmi'] at hc;cases hc))⟩)
def cF (p:Nat->Bool):Nat->Nat
 | 0=>0
 | n+1=>cF p n+if p n then 1 else 0
theorem cFs {p q:Nat->Bool}:∀ n,(∀ j,j<n->p j=q j)->cF p n=cF q n
 | 0,_=>rfl
 | n+1,h=>by rw [cF,cF,cFs n fun j hj=>h j (by omega),h n (by omega)]
theorem cFt {p q:Nat->Bool} {i:Nat} (hp:p i=true) (hq:q i=false) (h:∀ j,j≠i->q j=p j):∀ n,i<n->cF q n+1=cF p n
 | 0,hn=>by omega
 | n+1,hn=>by
  rw [cF,cF];by_cases hni:n=i
  · subst hni;rw [hp,hq,cFs n fun j hj=>h j (by omega)];simp
  · rw [<- cFt hp hq h n (by omega),h n hni];omega
theorem cFz {p:Nat->Bool}:∀ n,cF p n=0->∀ j,j<n->p j=false
 | 0,_,_,hj=>by omega
 | n+1,h,j,hj=>by
  rw [cF] at h;by_cases hjn:j=n
  · subst hjn
    cases hp:p j with
    | false=>rfl
    | true=>rw [hp] at h;simp at h
  · exact cFz n Yo j Yo
theorem fal (hf:f.Ok) {w0:World} (hS0:f.S w0) (hfk:∀ s∈sts,∀ p∈s.ks,f.F p.1=p.2.2) (ok:FO md ops l0.length f.sp mem late sts lts chs)
 (hst:SsR P ops f l0 dfs sts) (hlt:LsR P ops f l0 dfs w0 lts) (hch:CsR P ops f l0 dfs [] chs) (hfi:∀ Lb a w V,(∀ i,i<ops.size->Lb.getD i false=true)->FI P md ops f mem late chs ⟨l0.toArray,dfs⟩ Lb a w V->Q .normal a w):
 ∀ fuel Lb a w,cF (fun i=>!Lb.getD i false) ops.size<=fuel->(∃ V,FI P md ops f mem late chs ⟨l0.toArray,dfs⟩ Lb a w V)->wpAny P md ops Q fuel Lb a w
 | 0,Lb,a,w,hc,⟨V,h⟩=>by
  have hal:∀ i,i<ops.size->Lb.getD i false=true:=fun i hi=>by simpa using cFz _ (Nat.le_zero.1 hc) i hi
  refine ⟨?_,hfi Lb a w V hal h⟩
  cases hr:Region.ready md ops Lb with
  | nil=>rfl
  | cons i r=>
   obtain ⟨h1,o,ho,-⟩:=mem_ready.1 (hr ▸ Vu:i∈Region.ready md ops Lb);have hil:i<ops.size:=(Array.getElem?_eq_some_iff.1 ho).1;have:=hal i hil;rw [Va,Array.getElem?_eq_getElem (by rw [h.size];exact hil)] at this h1;simp only [Wl] at this h1;rw [this] at h1;cases h1
 | fuel+1,Lb,a,w,hc,⟨V,h⟩=>by
  refine ⟨fun hr=>hfi Lb a w V ?_ h,fun i hi=>?_⟩
  · intro i
    induction i using Nat.strongRecOn with
    | ind i ih=>
     intro hi
     cases hL:Lb.getD i false with
     | true=>rfl
     | false=>
      have:i∈Region.ready md ops Lb:=by
       refine mem_ready.2 ⟨?_,ops[i],Array.getElem?_eq_getElem hi,fun e he hb=>?_⟩
       · rw [Va,Array.getElem?_eq_getElem (by rw [h.size];exact hi)] at hL ⊢;exact hL
       · have:=ok.edge i _ (Array.getElem?_eq_getElem hi) e he hb;exact ih e.on this Yo
      rw [hr] at this;cases this
  · obtain ⟨hun,o,ho,he⟩:=mem_ready.1 hi;have hil:i<ops.size:=(Array.getElem?_eq_some_iff.1 ho).1;have hls:i<Lb.size:=by rw [h.size];exact hil
    have hun':Lb.getD i false=false:=by
     rw [Va,Array.getElem?_eq_getElem hls] at hun ⊢;exact hun
    have hc':cF (fun j=>!(Lb.setIfInBounds i true).getD j false) ops.size<=fuel:=by
     have:=cFt (p:=fun j=>!Lb.getD j false) (q:=fun j=>!(Lb.setIfInBounds i true).getD j false) (i:=i) (by simp only [hun',Bool.not_false]) (by simp only [gDs hls,beq_self_eq_true,Bool.true_or,Bool.not_true]) (fun j hj=>by
      have:(j==i)=false:=by simpa using hj
      simp only [gDs hls,this,Bool.false_or]) ops.size hil
     omega
    exact wpOp_mono (fun a' w' h'=>fal hf hS0 hfk ok hst hlt hch hfi fuel _ a' w' hc' h') (fst hf hS0 hfk ok hst hlt hch h hi)
def fO (ops:Array Oper) (mem late:List Nat) (chs:List Chn) (s:Stg):Bool:=
 mO ops mem (oC [] chs) s.ms && dK ops (mem++chs.map (·.c)++late) (ov (oC [] chs) s.ms) s.ds && pO ops mem (chs.map (·.c)) late (ov (ov (oC [] chs) s.ms) s.ds) s.ps && (List.range ops.size).all (ov (ov (ov (oC [] chs) s.ms) s.ds) s.ps).contains
theorem ffi {w w0:World} (hS0:f.S w0) {Lb:Array Bool} (ok:FO md ops l0.length f.sp mem late sts lts chs) {s:Stg} (hs:fO ops mem late chs s=true)
 (hru:FR P ops f l0 dfs chs s fun l' w=>Q .normal ⟨l'.toArray,dfs⟩ w) (hal:∀ i,i<ops.size->Lb.getD i false=true) (h:FI P md ops f mem late chs ⟨l0.toArray,dfs⟩ Lb a w V):Q .normal a w:=by
 have hsz:(⟨l0.toArray,dfs⟩:Act).tmps.size=l0.length:=by simp
 have ln:Ln ops (⟨l0.toArray,dfs⟩:Act).tmps.size:=by rw [hsz];exact ok.ln
 simp only [fO,TZ,UO,UY] at hs;obtain ⟨⟨⟨hm1,hd1⟩,hp1⟩,hcon⟩:=hs;obtain ⟨p,hp,hpq,hJ,hSp⟩:=h.chain
 have hpl:chs.take p=chs:=by
  rcases Ul p chs.length with hlt | hge
  · have hy:chs[p]?=some chs[p]:=List.getElem?_eq_getElem hlt;have:=(hpq p _ hy).1 (hal _ (cOo chs [] ok.cs _ (TO hy)).2.2);omega
  · rw [Ud hge]
 rw [hpl] at hJ
 have hple:chs.length<=p:=by
  have:=congrArg List.length hpl;rw [TU] at this;omega
 have lt:∀ p∈s.ms,Lb.getD p.1 false=true:=fun p hp=>hal p.1 (by
  have:=(Ih hm1 p hp).1;unfold dO at this
  rcases Ul p.1 ops.size with h | h
  · exact h
  · rw [Array.getElem?_eq_none h] at this;cases this)
 obtain ⟨l0',hf0,hr0⟩:=gVs ln chs [] [] l0 (Fi.nil.congr fun _=>rfl) ok.cs (hru w fun hle=>(hSp Yo).1);rw [Uo] at hr0
 obtain ⟨l1,hf1,hr1⟩:=gvs ln s.ms _ l0' hf0 hm1 (fun p hp=>by
  unfold Eo.at_
  split
  · rename_i hle;exact (hSp Yo).2 _ (lt p hp) (Ih hm1 p hp).2
  · exact h.weak _ (lt p hp) (Ih hm1 p hp).2) (hr0 hJ)
 obtain ⟨l2,V2,hf2,hag,hK,-⟩:=bth hS0 ok h _ s.ds s.ps l1 _ hf1 hd1 hp1 hr1;have out:∀ i,ops.size<=i->dO ops i=none:=fun i hi=>by unfold dO;rw [Array.getElem?_eq_none hi];rfl
 have big:∀ (L:Nat->Bool) (V:Nat->Value) a,Fi ops ⟨l0.toArray,dfs⟩ L V a->(∀ i,i<ops.size->L i=true)->Fi ops ⟨l0.toArray,dfs⟩ (fun i=>decide (i<ops.size)) V a:=fun L V a hf hL=>
  ⟨hf.defers,hf.size,fun i d hi hd=>hf.own i d (hL i (by simpa using hi)) hd,fun d hn=>hf.rest d fun i _ hd=>by
   rcases Ul i ops.size with h | h
   · exact hn i (by simpa using h) hd
   · rw [out i h] at hd;cases hd⟩
 have e:a=⟨l2.toArray,dfs⟩:=(big _ _ _ h.fill hal).eq (big _ _ _ hf2 fun i hi=>hcon i hi) fun i hi=>(hag i (hcon i (by simpa using hi)) (hal i (by simpa using hi))).symm;rw [e];exact hK
theorem LH (w:World):Below w.heap.size w w.drew:=⟨rfl,rfl,rfl,TL _,fun _ _=>rfl⟩
theorem BA {id:Nat} {w0:World} (S:World->Prop) (J:List Value->World->Prop) (R:World->World->Prop) (sp:Nat) (sts lts:List Stg) (chs:List Chn) (fin:Stg)
 (hS:S w0) (hJ:J [] w0) (hs:∀ w w',S w->Yg w w'->S w') (hj:∀ vs w w',J vs w->Yg w w'->J vs w') (hk:KB R (aK sts))
 (hst:SsR P ops ⟨S,fK (aK sts),J,R,sp⟩ l0 dfs sts) (hlt:LsR P ops ⟨S,fK (aK sts),J,R,sp⟩ l0 dfs w0 lts) (hch:CsR P ops ⟨S,fK (aK sts),J,R,sp⟩ l0 dfs [] chs) (hfi:FR P ops ⟨S,fK (aK sts),J,R,sp⟩ l0 dfs chs fin fun l' w=>Q .normal ⟨l'.toArray,dfs⟩ w)
 (hm:P.follows .mixedOrders=true:=by kernel_rfl) (hok:(fOk .any ops l0.length sp (fin.ms.map (·.1)) (fin.ps.map (·.1)) sts lts chs && KN (aK sts) && fO ops (fin.ms.map (·.1)) (fin.ps.map (·.1)) chs fin)=true:=by as_aux_lemma=>kernel_rfl):(Code.region id ops true).wp P Q ⟨l0.toArray,dfs⟩ w0:=by
 rw [TZ,TZ] at hok;have ok:=fOs hok.1.1;have hf:Eo.Ok ⟨S,fK (aK sts),J,R,sp⟩:=⟨hs,fun k v w w' h hb=>hk.find k v w w' h (.inl hb),hj,fun k v w w' h hb=>hk.find k v w w' h (.inr hb)⟩;refine wp_region_any hm (fal hf hS (fun s hs p hp=>fKa hok.1.2 p (List.mem_flatMap.2 ⟨s,hs,hp⟩)) ok hst hlt hch (fun Lb a w V hal h=>ffi hS ok hok.2 hfi hal h) _ _ _ _ ?_ ⟨fun _=>undef,?_⟩)
 · have:∀ n p,cF p n<=n:=fun n p=>by
    induction n with
    | zero=>exact TL _
    | succ n ih=>rw [cF];split<;>omega
   exact this _ _
 · have hr:∀ i,(Array.replicate ops.size false).getD i false=false:=fun i=>by
    rw [Va,Array.getElem?_replicate];split<;>rfl
   refine ⟨by simp,Fi.nil.congr fun i=>(hr i).symm,fun i o h=>?_,fun i h=>?_,fun i o _ h=>?_,0,Un _,fun q x _=>?_,hf.j _ _ _ hJ (LH w0),fun _=>⟨hf.s _ _ hS (LH w0),fun i h=>by rw [hr] at h;cases h⟩⟩
   · rw [hr] at h;cases h
   · rw [hr] at h;cases h
   · simp only [hr] at h;cases h
   · rw [hr];simp
end
section
variable {P:Program} {ops:Array Oper} {S:World->Prop} {dfs:List Deferred} {oi:Oper} {i d:Nat} {is:NL} {l l':List Value} {v:Value} {K:List Value->Prop} {a:Act} {w:World}
theorem flA (h:dR P ops S dfs is l' K) (hi:ops[i]?=some oi:=by simp only [List.getElem?_toArray,List.getElem?_cons_succ,List.getElem?_cons_zero];rfl) (hd:oi.dst=some d:=by rfl)
 (hw:Region.wanted oi (yielded ops l.toArray)=true:=by rfl)
 (hy:∀ w,S w->(execOp (Act.eval ⟨l.toArray,dfs⟩) oi).run P w=.ok (.value v) w:=by (intro w hSw;(try dsimp only at hSw);(first | (go_simp;done) | (go_simp;with_reducible rfl) | (go_simp;rw [if_neg (by omega)]))))
 (e2:l.set d v=l':=by first | (dsimp only [Ys,Yt];done) | (dsimp only [Ys,Yt];exact rfl)):dR P ops S dfs ((i,d)::is) l K:=by
 subst e2;exact ⟨oi,v,hi,hd,.inl ⟨hw,hy⟩,h⟩
theorem flB (h:dR P ops S dfs is l' K) (hi:ops[i]?=some oi:=by simp only [List.getElem?_toArray,List.getElem?_cons_succ,List.getElem?_cons_zero];rfl) (hd:oi.dst=some d:=by rfl)
 (hw:Region.wanted oi (yielded ops l.toArray)=false:=by rfl)
 (e2:l.set d undef=l':=by first | (dsimp only [Ys,Yt];done) | (dsimp only [Ys,Yt];exact rfl)):dR P ops S dfs ((i,d)::is) l K:=by
 subst e2;exact ⟨oi,undef,hi,hd,.inr ⟨hw,rfl⟩,h⟩
theorem gvN {F:Nat->Value->World->Prop} {G:List Value->Prop} (h:G l') (e:l=l':=by first | (dsimp only [Ny,List.set_cons_zero,List.set_cons_succ];done) | (dsimp only [Ny,List.set_cons_zero,List.set_cons_succ];exact rfl) | exact rfl):Gv F w [] G l:=by subst e;exact h
theorem flN (h:K l):dR P ops S dfs [] l K:=h
theorem flK {G:Value->World->Prop} {r:KL} (h:∀ K:Act->World->Prop,Shut (∀ v w',G v w'/\Below w.heap.size w w'->K (a.put (some d) v) w')->
 if Region.wanted oi (yielded ops a.tmps)=true then Oper.wp P oi a w K (fun _ _ _=>False) else K (a.put (some d) undef) w) (hr:KR P ops a w r)
 (hi:ops[i]?=some oi:=by simp only [List.getElem?_toArray,List.getElem?_cons_succ,List.getElem?_cons_zero];rfl):KR P ops a w ((i,d,G)::r):=
 ⟨⟨oi,hi,h⟩,hr⟩
theorem flX {n m:Nat} {p:Prop} (h:n<=m) (e:Nat.ble n m=false:=by rfl):p:=by rw [Nat.ble_eq_true_of_le h] at e;cases e
theorem flY {n m:Nat} (e:Nat.ble n m=true:=by rfl):n<=m:=Nat.le_of_ble_eq_true e
theorem flL:KR P ops a w []:=trivial
theorem flC {G:Value->World->Prop} {d:Option Tmp} (h:∀ K:Act->World->Prop,Shut (∀ v w',G v w'->K (a.put d v) w')->
 if Region.wanted oi (yielded ops a.tmps)=true then Oper.wp P oi a w K (fun _ _ _=>False) else K (a.put d undef) w)
 (hi:ops[i]?=some oi:=by simp only [List.getElem?_toArray,List.getElem?_cons_succ,List.getElem?_cons_zero];rfl):∃ o,ops[i]?=some o/\OO P ops G o d a w:=
 ⟨oi,hi,h⟩
end
end
end Go.Proofs.YtlblnmmfphiobaaGreat
