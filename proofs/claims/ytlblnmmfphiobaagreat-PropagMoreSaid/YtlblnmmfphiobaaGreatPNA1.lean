import Derived.Test.YtlblnmmfphiobaaGreatPM0
import Derived.Test.YtlblnmmfphiobaaGreatProg
import Derived.WalkKit
import Derived.Lib.Hide
import Derived.Deep.Draws
import Derived.IntWalk
import Derived.Laws.AppendOwnNone
import Derived.Deep.QuietTactic
import Derived.BigQuiet
import Derived.Outline
import Derived.WalkSpells
import Derived.Deep.DeepMust
import Derived.Deep.DeepCutAuto
import Derived.Test.YtlblnmmfphiobaaGreatShelf
import Derived.Deep.RegionWith
import Derived.BigRegion
import Derived.Shelf.Spec.BitsCarry
set_option maxRecDepth 100000
set_option maxHeartbeats 8000000
set_option linter.unusedVariables false
set_option linter.unusedSimpArgs false
namespace Go.Proofs.YtlblnmmfphiobaaGreat
section
namespace Pl
def val (B:Nat):List Nat->Nat
 | []=>0
 | x::xs=>x+B*val B xs
def strip:List Nat->List Nat
 | []=>[]
 | x::xs=>match strip xs with
  | []=>if x=0 then [] else [x]
  | y::ys=>x::y::ys
def F1 (B:Nat):Nat->Nat->List Nat
 | 0,_=>[]
 | f+1,n=>if n=0 then [] else (n % B)::F1 B f (n / B)
def dg (B n:Nat):List Nat:=F1 B n n
def All (B:Nat) (xs:List Nat):Prop:=∀ x∈xs,x<B
theorem All.nil {B:Nat}:All B []:=fun _ h=>absurd h (by simp)
theorem All.cons {B x:Nat} {xs:List Nat} (hx:x<B) (h:All B xs):All B (x::xs):=by
 intro y hy
 rcases Ue.1 hy with rfl | hy
 · exact hx
 · exact h _ hy
theorem All.head {B x:Nat} {xs:List Nat} (h:All B (x::xs)):x<B:=h x (by simp)
theorem All.tail {B x:Nat} {xs:List Nat} (h:All B (x::xs)):All B xs:=fun y hy=>h y (by simp [hy])
theorem All.take {B:Nat} {xs:List Nat} (h:All B xs) (n:Nat):All B (xs.take n):=fun y hy=>h y (List.mem_of_mem_take hy)
theorem All.drop {B:Nat} {xs:List Nat} (h:All B xs) (n:Nat):All B (xs.drop n):=fun y hy=>h y (List.mem_of_mem_drop hy)
theorem All.append {B:Nat} {xs ys:List Nat} (h:All B xs) (k:All B ys):All B (xs++ys):=by
 intro y hy
 rcases Uw.1 hy with hy | hy
 · exact h _ hy
 · exact k _ hy
theorem All.get {B:Nat} {xs:List Nat} (h:All B xs) {i:Nat} (hi:i<xs.length):xs[i]<B:=h _ (List.getElem_mem hi)
theorem All.getD {B:Nat} {xs:List Nat} (h:All B xs) (hB:0<B) (i:Nat):xs.getD i 0<B:=by
 rcases Ul i xs.length with hi | hi
 · rw [TS,List.getElem?_eq_getElem hi];exact h.get hi
 · rw [TS,List.getElem?_eq_none hi];exact hB
theorem All.replicate {B:Nat} (hB:0<B) (n:Nat):All B (List.replicate n 0):=by
 intro y hy;rw [List.eq_of_mem_replicate hy];exact hB
theorem All.set {B:Nat} {xs:List Nat} (h:All B xs) (i:Nat) {v:Nat} (hv:v<B):All B (xs.set i v):=by
 intro y hy
 rcases List.mem_or_eq_of_mem_set hy with hy | rfl
 · exact h _ hy
 · exact hv
theorem De (B:Nat):val B []=0:=rfl
theorem AY (B x:Nat) (xs:List Nat):val B (x::xs)=x+B*val B xs:=rfl
theorem BR (B:Nat) (xs ys:List Nat):val B (xs++ys)=val B xs+B ^ xs.length*val B ys:=by
 induction xs with
 | nil=>simp [val]
 | cons x xs ih=>
  simp only [Vl,AY,ih,U7,UD];rw [T9,Vc,<- Uf,TX B (B ^ xs.length)]
theorem Cr (B:Nat) (xs:List Nat) (x:Nat):val B (xs++[x])=val B xs+B ^ xs.length*x:=by
 rw [BR];simp [val]
theorem Bc {B:Nat} {xs:List Nat} (h:All B xs):val B xs<B ^ xs.length:=by
 induction xs with
 | nil=>simp [val]
 | cons x xs ih=>
  have h1:=ih h.tail;have h2:=h.head;rw [AY,U7,UD,TX (B ^ xs.length) B];have h3:B*(val B xs+1)<=B*B ^ xs.length:=TY B h1;rw [T9] at h3;omega
theorem Ch (B n:Nat):val B (List.replicate n 0)=0:=by
 induction n with
 | zero=>rfl
 | succ n ih=>rw [List.replicate_succ,AY,ih];simp
theorem AC (B:Nat) (xs:List Nat) (n:Nat) (h:n<=xs.length):val B xs=val B (xs.take n)+B ^ n*val B (xs.drop n):=by
 conv=>lhs;rw [<- Us n xs]
 rw [BR,TU,U8 h]
theorem AN (B:Nat) (xs:List Nat):val B (strip xs)=val B xs:=by
 induction xs with
 | nil=>rfl
 | cons x xs ih=>
  rw [AY,<- ih];rw [strip]
  cases hs:strip xs with
  | nil=>
   by_cases hx:x=0
   · simp [hx,val]
   · simp [hx,val]
  | cons y ys=>rfl
theorem Bw (x:Nat) (xs:List Nat):strip (x::xs)=match strip xs with
 | []=>if x=0 then [] else [x]
 | y::ys=>x::y::ys:=rfl
theorem Cg (xs:List Nat):strip xs=xs.take (strip xs).length:=by
 induction xs with
 | nil=>rfl
 | cons x xs ih=>
  cases hs:strip xs with
  | nil=>
   by_cases hx:x=0
   · simp [Bw,hs,hx]
   · simp [Bw,hs,hx]
  | cons y ys=>
   rw [Bw,hs];rw [hs] at ih;simp only [U7] at ih ⊢;rw [List.take_succ_cons,<- ih]
theorem Al (xs:List Nat):(strip xs).length<=xs.length:=by
 rw [Cg,TU];exact Nat.min_le_right _ _
theorem C5 (xs:List Nat) (x:Nat):strip (xs++[x])=if x=0 then strip xs else xs++[x]:=by
 induction xs with
 | nil=>by_cases hx:x=0<;>simp [strip,hx]
 | cons a xs ih=>
  rw [Vl,Bw,ih];by_cases hx:x=0
  · simp [hx,Bw]
  · rw [if_neg hx,if_neg hx]
    cases hs:xs++[x] with
    | nil=>simp at hs
    | cons y ys=>rfl
def Cw (xs:List Nat):Prop:=strip xs=xs
theorem DN (xs:List Nat):Cw (strip xs):=by
 unfold Cw
 induction xs with
 | nil=>rfl
 | cons x xs ih=>
  cases hs:strip xs with
  | nil=>
   by_cases hx:x=0
   · simp [hs,hx,strip]
   · simp [hs,hx,strip]
  | cons y ys=>
   rw [hs] at ih;rw [Bw,hs];show strip (x::y::ys)=_;rw [Bw,ih]
theorem DF {B:Nat} {xs:List Nat} (h:val B xs=0) (hB:0<B):strip xs=[]:=by
 induction xs with
 | nil=>rfl
 | cons x xs ih=>
  rw [AY] at h;have hx:x=0:=Yo
  have hv:val B xs=0:=by
   have:B*val B xs=0:=by omega
   rcases Nat.mul_eq_zero.1 this with h1 | h1
   · omega
   · exact h1
  simp [Bw,ih hv,hx]
theorem JJ {B:Nat} (hB:1<B):∀ (xs:List Nat) (f:Nat),All B xs->val B xs<=f->F1 B f (val B xs)=strip xs:=by
 intro xs
 induction xs with
 | nil=>
  intro f _ _
  cases f<;>rfl
 | cons x xs ih=>
  intro f h hf;have hx:=h.head;rw [AY] at hf ⊢;by_cases hz:x+B*val B xs=0
  · have h0:x=0:=by omega
    have h1:val B xs=0:=by
     have:B*val B xs=0:=by omega
     rcases Nat.mul_eq_zero.1 this with h1 | h1
     · omega
     · exact h1
    rw [hz];have:strip (x::xs)=[]:=by rw [Bw,DF h1 (by omega)];simp [h0]
    rw [this]
    cases f<;>rfl
  · cases f with
    | zero=>omega
    | succ f=>
     rw [F1,if_neg hz];have hm:(x+B*val B xs) % B=x:=by rw [Nat.add_mul_mod_self_left,VP hx]
     have hd:(x+B*val B xs) / B=val B xs:=by
      rw [Nat.add_mul_div_left _ _ (by omega),Vi hx,Vw]
     rw [hm,hd]
     have hle:val B xs<=f:=by
      rcases TQ (val B xs) with h0 | h0
      · omega
      · have:2*val B xs<=B*val B xs:=TW _ hB;omega
     rw [ih f h.tail hle,Bw]
     cases hs:strip xs with
     | nil=>
      have hv:val B xs=0:=by rw [<- AN,hs];rfl
      have:x≠0:=by intro h0;apply hz;rw [h0,hv];simp
      simp [this]
     | cons y ys=>rfl
theorem AB {B:Nat} (hB:1<B) {xs:List Nat} (h:All B xs):strip xs=dg B (val B xs):=(JJ hB xs _ h (TL _)).symm
theorem MP {B:Nat} (hB:0<B):∀ f n:Nat,All B (F1 B f n):=by
 intro f
 induction f with
 | zero=>intro n;exact All.nil
 | succ f ih=>
  intro n;rw [F1]
  split
  · exact All.nil
  · exact (ih _).cons (UB _ hB)
theorem FN {B:Nat} (hB:0<B) (n:Nat):All B (dg B n):=MP hB _ _
theorem NB {B:Nat} (hB:1<B):∀ f n:Nat,n<=f->val B (F1 B f n)=n:=by
 intro f
 induction f with
 | zero=>
  intro n h;have:n=0:=by omega
  subst this;rfl
 | succ f ih=>
  intro n h;rw [F1]
  split
  · rename_i h0;rw [h0];rfl
  · rename_i h0;rw [AY,ih _ (by have:=Nat.div_lt_self (U9 h0) hB;omega),VL,Uu]
theorem AR {B:Nat} (hB:1<B) (n:Nat):val B (dg B n)=n:=NB hB n n (TL _)
theorem BP (B:Nat):dg B 0=[]:=rfl
theorem BL {B:Nat} (hB:1<B) (n:Nat):dg B n=[]↔n=0:=by
 constructor
 · intro h;rw [<- AR hB n,h];rfl
 · rintro rfl;rfl
theorem NP {B:Nat} (hB:1<B) (n:Nat):Cw (dg B n):=by
 have h:=AB hB (FN (B:=B) Yo n);rw [AR hB] at h;exact h
theorem FG {B:Nat} (hB:1<B) {xs:List Nat} (h:All B xs) (hc:Cw xs):dg B (val B xs)=xs:=by
 rw [<- AB hB h];exact hc
theorem Au {B:Nat} (hB:1<B) {n k:Nat} (h:n<B ^ k):(dg B n).length<=k:=by
 rcases Ul k (dg B n).length with hk | hk
 · exfalso;have hc:=NP hB n;have hv:=AR hB n;have hs:=AC B (dg B n) k Yo
   have hd:val B ((dg B n).drop k)=0:=by
    rcases TQ (val B ((dg B n).drop k)) with h0 | h0
    · exact h0
    · have:B ^ k*1<=B ^ k*val B ((dg B n).drop k):=TY _ h0;omega
   have ht:val B (dg B n)=val B ((dg B n).take k):=by rw [hs,hd];simp
   have h1:strip (dg B n)=strip ((dg B n).take k):=by
    rw [AB hB (FN (by omega) n),AB hB ((FN (by omega) n).take k),ht]
   have h2:=Al ((dg B n).take k);rw [<- h1,hc,TU] at h2;omega
 · exact hk
theorem Cj {B:Nat} (hB:1<B) {n k:Nat} (h:(dg B n).length<=k):n<B ^ k:=by
 have h1:=Bc (FN (B:=B) Yo n);rw [AR hB] at h1;exact TV h1 (Ua Yo h)
theorem Bi {B:Nat} (hB:1<B) {m n:Nat} (h:m<=n):(dg B m).length<=(dg B n).length:=
 Au hB (Ug h (Cj hB (TL _)))
def atD (xs:List Nat) (i:Nat):Nat:=xs.getD i 0
theorem BW {xs:List Nat} {i:Nat} (h:i<xs.length):atD xs i=xs[i]:=by
 unfold atD;rw [TS,List.getElem?_eq_getElem h];rfl
theorem Ck {xs:List Nat} {i:Nat} (h:xs.length<=i):atD xs i=0:=by
 unfold atD;rw [TS,List.getElem?_eq_none h];rfl
def vt (B:Nat) (xs:List Nat):Nat->Nat
 | 0=>0
 | i+1=>vt B xs i+B ^ i*atD xs i
theorem N6 (B:Nat) (xs:List Nat) (i:Nat):vt B xs i=val B (xs.take i):=by
 induction i with
 | zero=>simp [vt,val]
 | succ i ih=>
  rw [vt,ih]
  rcases Ul i xs.length with h | h
  · rw [BW h,Uc h,Cr,TU,U8 (by omega)]
  · rw [Ck h,Ud h,Ud (by omega)];simp
theorem BV (B:Nat) (xs:List Nat) {i:Nat} (h:xs.length<=i):vt B xs i=val B xs:=by
 rw [N6,Ud h]
theorem IT (n B:Nat):n % B+B*(n / B)=n:=Wa n B
theorem Jx {B:Nat} {xs ys zs:List Nat} {i c:Nat} (hl:zs.length=i) (h:val B zs+B ^ i*c=vt B xs i+vt B ys i):
 val B (zs++[(atD xs i+atD ys i+c) % B])+B ^ (i+1)*((atD xs i+atD ys i+c) / B)=vt B xs (i+1)+vt B ys (i+1):=by
 have e:=IT (atD xs i+atD ys i+c) B;rw [Cr,hl,vt,vt,UD,Uf,Vc,<- T9,e,T9,T9];omega
theorem JD {B:Nat} {xs ys zs:List Nat} {i c:Nat} (hB:0<B) (hx:atD xs i<B) (hy:atD ys i<B) (hc:c<=1) (hl:zs.length=i) (h:val B zs+vt B ys i=vt B xs i+B ^ i*c):
 val B (zs++[(atD xs i+B - atD ys i - c) % B])+vt B ys (i+1)=vt B xs (i+1)+B ^ (i+1)*(if atD xs i<atD ys i+c then 1 else 0):=by
 have e:(atD xs i+B - atD ys i - c) % B+atD ys i+c=atD xs i+B*(if atD xs i<atD ys i+c then 1 else 0):=by
  split
  · rw [VP (by omega)];omega
  · rw [show atD xs i+B - atD ys i - c=(atD xs i - atD ys i - c)+B from by omega,Nat.add_mod_right,VP (by omega)];omega
 have e2:=congrArg (B ^ i*·) e;simp only [T9] at e2;rw [Cr,hl,vt,vt,UD,Uf];omega
theorem Ir (zs:List Nat) (n z:Nat) (h:zs.length<n):(zs++List.replicate (n - zs.length) 0).set zs.length z=(zs++[z])++List.replicate (n - (zs++[z]).length) 0:=by
 rw [UM _ _ (TL _),VM,show n - zs.length=(n - (zs++[z]).length)+1 from by simp;omega,List.replicate_succ];simp
theorem El {zs xs:List Nat} (z:Nat) (h:zs.length<xs.length):(zs++xs.drop zs.length).set zs.length z=(zs++[z])++xs.drop (zs++[z]).length:=by
 rw [UM _ _ (TL _),VM,UU h,TM,TR];rfl
theorem G6 {zs xs:List Nat} (h:zs.length<xs.length):(zs++xs.drop zs.length)[zs.length]?=some (atD xs zs.length):=by
 rw [List.getElem?_append_right (TL _),VM,UU h,BW h];rfl
end Pl
end
section
open Go Go.RowKit Go.Lib
def Ak (t:TypeId) (w w':World):Prop:=∀ (k:Nat) (cs:Array Value) (m:Nat × Nat),w.heap[k]?=some (Obj.cells cs t m)->w'.heap[k]?=w.heap[k]?
section
variable {t:TypeId} {w w' w'':World} {B size n:Nat} {v:Value} {xs:List Value}
theorem CK {k:Nat} {o:Obj} (h:w.heap[k]?=some o):k<w.heap.size:=by
 rcases Ul k w.heap.size with hlt | hge
 · exact hlt
 · rw [Array.getElem?_eq_none hge] at h;cases h
theorem Ak.refl (t:TypeId) (w:World):Ak t w w:=fun _ _ _ _=>rfl
theorem Ak.trans (h:Ak t w w') (k:Ak t w' w''):Ak t w w'':=fun i cs m hi=>by
 have h1:=h i cs m hi;rw [<- h1];exact k i cs m (h1.trans hi)
theorem Ak.below (h:Below w.heap.size w w'):Ak t w w':=fun k _ _ hk=>h.block k (CK hk)
theorem Ak.grown {row:Option Nat} (hg:w.grownBy w' row) (hr:∀ g,row=some g->∃ cs e m,w.heap[g]?=some (.cells cs e m)/\e≠t):Ak t w w':=fun k cs m hk=>by
 refine hg.block k (CK hk) (fun e=>?_);obtain ⟨cs',e',m',h1,h2⟩:=hr k e.symm;rw [hk] at h1;injection h1 with h1
 injection h1 with _ h3 _
 exact h2 h3.symm
theorem Ak.setCell {g:Nat} {cs:Array Value} {e:TypeId} {m:Nat × Nat} (hg:w.heap[g]?=some (.cells cs e m)) (hne:e≠t) {p:Addr} (hp:p.block=g) (u:Value):Ak t w (w.setCell p u):=fun k cs' m' hk=>by
 refine Below.heap_setCell w p u k (fun e'=>?_);subst e';rw [hp,hg] at hk;injection hk with hk
 injection hk with _ h3 _
 exact hne h3
theorem AQ (h:w.ownsRow B t size v n xs) (hk:Ak t w w'):w'.ownsRow B t size v n xs:=by
 obtain ⟨h1,h2⟩:=h;refine ⟨h1,?_⟩
 rcases h2 with h2 | ⟨g,cap,cur,hv,hg,hh,r⟩
 · exact Or.inl h2
 · exact Or.inr ⟨g,cap,cur,hv,hg,(hk g _ _ hh).trans hh,r⟩
theorem CN {B':Nat} (h:w.ownsRow B t size v n xs) (hB:B'<=B):w.ownsRow B' t size v n xs:=by
 obtain ⟨h1,h2⟩:=h;refine ⟨h1,?_⟩
 rcases h2 with h2 | ⟨g,cap,cur,hv,hg,r⟩
 · exact Or.inl h2
 · exact Or.inr ⟨g,cap,cur,hv,TP hB hg,r⟩
theorem G9 (h:w.ownsRow B t size v n xs):∀ g,v.ownBlock=some g->∃ cs e m,w.heap[g]?=some (.cells cs e m)/\e=t:=by
 intro g hg
 rcases h.2 with ⟨rfl,_⟩ | ⟨g',cap,cur,rfl,_,hh,_⟩
 · simp [Value.ownBlock] at hg
 · have:g'=g:=by simpa [Value.ownBlock] using hg
   subst this;exact ⟨cur,t,(0,0),hh,rfl⟩
theorem Kx (h:w.ownsRow B t size v n xs):∀ g,v.ownBlock=some g->B<=g:=fun g hg=>(h.lt g hg).1
theorem BX {t':TypeId} (h:w.ownsRow B t' size v n xs) (hg:w.grownBy w' v.ownBlock) (hne:t'≠t):Ak t w w':=
 .grown hg fun g e=>by
  obtain ⟨cs,e,m,h1,h2⟩:=G9 h g e;exact ⟨cs,e,m,h1,by rw [h2];exact hne⟩
end
theorem FP (w:World) (cs:Array Value) (e:TypeId):∀ j u,cs.toList[j]?=some u->(w.alloc (.cells cs e)).cell? ((⟨w.heap.size,0,none⟩:Addr).add j)=some u:=by
 intro j u hj;have:(⟨w.heap.size,0,none⟩:Addr).add j=⟨w.heap.size,j,none⟩:=by unfold Addr.add;split<;>simp_all
 rw [this,World.cell?_alloc_new]
 simpa using hj
theorem CL {w:World} {b o:Nat} {sp:Option Nat} {v:Value} (h:w.cell? ⟨b,o,sp⟩=some v):b<w.heap.size:=by
 rcases Ul b w.heap.size with hlt | hge
 · exact hlt
 · simp [World.cell?,Array.getElem?_eq_none hge] at h
theorem JL {w:World} {p:Addr} {v:Value} (h:w.cell? p=some v):p.block<w.heap.size:=by
 obtain ⟨b,o,sp⟩:=p;exact CL h
end
section
open Go Go.RowKit Go.Lib
theorem CG {w:World} {B:Nat} {t:TypeId} {size n:Nat} {v:Value} {xs:List Value} (h:w.ownsRow B t size v n xs) (hn:0<n):
 ∃ g cap,v=.slice (some ⟨g,0,none⟩) n cap/\B<=g/\n<=cap/\cap<=maxLen/\g<w.heap.size/\(∀ (j:Nat) (u:Value),xs[j]?=some u->w.cell? ⟨g,j,none⟩=some u)/\(∀ j,w.frozen? ⟨g,j,none⟩=false):=by
 rcases h.2 with ⟨_,h0⟩ | ⟨g,cap,cur,hv,hb,hh,h1,h2,h3,h4⟩
 · omega
 · refine ⟨g,cap,hv,hb,h1,h2,CK hh,fun j u hj=>?_,fun j=>by simp [World.frozen?,hh]⟩;rw [cell_of_row w g j cur t _ hh,<- Array.getElem?_toList];rw [<- h4] at hj;rw [List.getElem?_take] at hj
   split at hj
   · exact hj
   · cases hj
theorem Fh {w:World} {B:Nat} {t:TypeId} {size n:Nat} {v:Value} {xs:List Value} (h:w.ownsRow B t size v n xs):∃ A cap,v=.slice A n cap/\n<=maxLen:=by
 rcases h.2 with ⟨hv,h0⟩ | ⟨g,cap,cur,hv,hb,hh,h1,h2,h3,h4⟩
 · exact ⟨none,0,by rw [hv,h0],Yo⟩
 · exact ⟨_,cap,hv,Yo⟩
theorem AT {w:World} {B:Nat} {t:TypeId} {size n cap g:Nat} {xs:List Value} (h:w.ownsRow B t size (.slice (some ⟨g,0,none⟩) n cap) n xs) {j:Nat} (u:Value):
 (w.setCell ⟨g,j,none⟩ u).ownsRow B t size (.slice (some ⟨g,0,none⟩) n cap) n (xs.set j u):=by
 obtain ⟨h1,h2⟩:=h;refine ⟨by rw [Uh];exact h1,?_⟩
 rcases h2 with ⟨h2,_⟩ | ⟨g',cap',cur,hv,hg,hh,a,b,c,d⟩
 · cases h2
 · injection hv with hv _ hc
   injection hv with hv
   injection hv with hv
   subst hv;subst hc;refine .inr ⟨g,cap,cur.setIfInBounds j u,rfl,hg,?_,a,b,by simpa using c,?_⟩
   · simp [World.setCell,Array.getElem?_modify,hh]
   · rw [Array.toList_setIfInBounds,List.take_set,d]
theorem F7 {w w':World} {B:Nat} {t:TypeId} {size n:Nat} {v:Value} {xs:List Value} {row:Option Nat} (h:w.ownsRow B t size v n xs) (hg:w.grownBy w' row) (hr:∀ k,row=some k->k<B):w'.ownsRow B t size v n xs:=by
 obtain ⟨h1,h2⟩:=h;refine ⟨h1,?_⟩
 rcases h2 with h2 | ⟨g,cap,cur,hv,hB,hh,r⟩
 · exact Or.inl h2
 · exact Or.inr ⟨g,cap,cur,hv,hB,(hg.block g (CK hh) (fun e=>by have:=hr g e.symm;omega)).trans hh,r⟩
theorem JP {w:World} {B:Nat} {t:TypeId} {size n cap g:Nat} {xs:List Value} (h:w.ownsRow B t size (.slice (some ⟨g,0,none⟩) n cap) n xs):∀ j u,xs[j]?=some u->w.cell? ((⟨g,0,none⟩:Addr).add j)=some u:=h.cells (g:=g) rfl
theorem BC {B:Nat} {a w:World} (h:Below B a w) (q:Nat):Below B a (w.drewN q):=⟨h.os,h.tape,h.output,h.size,h.block⟩
theorem Cf {B:Nat} {a w:World} {q:Nat} (h:Below B (a.drewN q) w):Below B a w:=⟨h.os,h.tape,h.output,h.size,h.block⟩
theorem Yb {a b c:World} (h:Below a.heap.size a b) (k:Below b.heap.size b c):Below a.heap.size a c:=h.trans (k.mono h.size)
end
section
open Go Go.RowKit Go.Lib Pl
def WB:Nat:=18446744073709551616
theorem Bz:WB=18446744073709551616:=rfl
theorem Ay:0<WB:=by decide
theorem Aw:1<WB:=by decide
attribute [irreducible] WB
def wis (xs:List Nat):List Value:=xs.map fun (x:Nat)=>Value.int .u64 (x:Int)
theorem AU (xs:List Nat):(wis xs).length=xs.length:=Uz _
theorem Da (xs ys:List Nat):wis xs++wis ys=wis (xs++ys):=by simp [wis]
theorem CU {xs:List Nat} {j:Nat} {x:Nat} (h:xs[j]?=some x):(wis xs)[j]?=some (.int .u64 (x:Int)):=by simp [wis,h]
theorem G8 (xs:List Nat) (n:Nat):(wis xs).take n=wis (xs.take n):=by simp [wis,List.map_take]
theorem Ix (xs:List Nat) (n:Nat) (x:Nat):(wis xs).set n (.int .u64 (x:Int))=wis (xs.set n x):=by simp [wis,List.map_set]
theorem Eg (xs:List Nat):∀ u∈wis xs,u.oneCell'=true:=by
 intro u hu;obtain ⟨x,_,rfl⟩:=UP.1 hu;rfl
def Rd (w:World) (A:Option Addr) (xs:List Nat):Prop:=
 All WB xs/\(xs=[]∨∃ b o,A=some ⟨b,o,none⟩/\∀ (j x:Nat),xs[j]?=some x->w.cell? ⟨b,o+j,none⟩=some (.int .u64 (x:Int)))
def Ow (w:World) (B:Nat) (v:Value) (xs:List Nat):Prop:=All WB xs/\w.ownsRow B 146 1 v xs.length (wis xs)
section
variable {w w':World} {A:Option Addr} {xs:List Nat} {B:Nat} {v:Value}
theorem Rd.nil (w:World) (A:Option Addr):Rd w A []:=⟨All.nil,.inl rfl⟩
theorem Rd.at_ (h:Rd w A xs) {j:Nat} (hj:j<xs.length):∃ b o,A=some ⟨b,o,none⟩/\(∀ (j x:Nat),xs[j]?=some x->w.cell? ⟨b,o+j,none⟩=some (.int .u64 (x:Int))):=by
 rcases h.2 with rfl | h
 · simp at hj
 · exact h
theorem Rd.keep (h:Rd w A xs) (hb:Below w.heap.size w w'):Rd w' A xs:=by
 refine ⟨h.1,h.2.imp id ?_⟩;rintro ⟨b,o,hA,hc⟩;exact ⟨b,o,hA,fun j x hj=>(hb.cell (p:=⟨b,o+j,none⟩) (CL (hc j x hj))).trans (hc j x hj)⟩
theorem Rd.drewN (h:Rd w A xs) (q:Nat):Rd (w.drewN q) A xs:=h
theorem Rd.take (h:Rd w A xs) (n:Nat):Rd w A (xs.take n):=by
 refine ⟨h.1.take n,?_⟩
 rcases h.2 with rfl | ⟨b,o,hA,hc⟩
 · exact .inl (by simp)
 · refine .inr ⟨b,o,hA,fun j x hj=>hc j x ?_⟩;rw [List.getElem?_take] at hj
   split at hj
   · exact hj
   · cases hj
theorem Rd.strip (h:Rd w A xs):Rd w A (Pl.strip xs):=by rw [Cg];exact h.take _
theorem Rd.drop {b o:Nat} (h:Rd w (some ⟨b,o,none⟩) xs) (n:Nat):Rd w (some ⟨b,o+n,none⟩) (xs.drop n):=by
 refine ⟨h.1.drop n,?_⟩
 rcases h.2 with rfl | ⟨b',o',hA,hc⟩
 · exact .inl (by simp)
 · injection hA with hA
   injection hA with h1 h2
   subst h1;subst h2;refine .inr ⟨b,o+n,rfl,fun j x hj=>?_⟩;rw [List.getElem?_drop] at hj;rw [Vc];exact hc _ x hj
theorem Ow.slice (h:Ow w B v xs):∃ A c,v=.slice A xs.length c/\xs.length<=c/\c<=maxLen:=by
 rcases h.2.2 with ⟨hv,h0⟩ | ⟨g,cap,cur,hv,hb,hh,h1,h2,h3,h4⟩
 · exact ⟨none,0,by rw [hv,h0],Yo,Yd⟩
 · exact ⟨_,cap,hv,h1,h2⟩
theorem Ow.rd {n c:Nat} (h:Ow w B (.slice A n c) xs):Rd w A xs:=by
 refine ⟨h.1,?_⟩
 rcases h.2.2 with ⟨hv,h0⟩ | ⟨g,cap,cur,hv,hb,hh,h1,h2,h3,h4⟩
 · exact .inl (TN h0)
 · injection hv with hv hn hc
   refine .inr ⟨g,0,hv,fun j x hj=>?_⟩;have:=JP (xs:=wis xs) (g:=g) (n:=xs.length) (cap:=cap) ⟨h.2.1,.inr ⟨g,cap,cur,rfl,hb,hh,h1,h2,h3,h4⟩⟩ j _ (CU hj);have e:(⟨g,0,none⟩:Addr).add j=⟨g,0+j,none⟩:=by unfold Addr.add;split<;>simp_all
   rwa [e] at this
theorem Ow.keep (h:Ow w B v xs) (hb:Below w.heap.size w w'):Ow w' B v xs:=⟨h.1,AQ h.2 (Ak.below hb)⟩
theorem Ow.mono {B':Nat} (h:Ow w B v xs) (hB:B'<=B):Ow w B' v xs:=⟨h.1,CN h.2 hB⟩
theorem Ow.drewN (h:Ow w B v xs) (q:Nat):Ow (w.drewN q) B v xs:=h
theorem Ow.nil (w:World) (B:Nat):Ow w B (.slice none 0 0) []:=⟨All.nil,World.ownsRow_nil _ _ _ _⟩
theorem Ow.take {n c:Nat} (h:Ow w B (.slice A n c) xs) {k:Nat} (hk:k<=xs.length):Ow w B (.slice A k c) (xs.take k):=by
 have hl:(xs.take k).length=k:=by simp;omega
 refine ⟨h.1.take k,?_⟩;rw [hl];refine ⟨by simp [wis];omega,?_⟩
 rcases h.2.2 with ⟨hv,h0⟩ | ⟨g,cap,cur,hv,hb,hh,h1,h2,h3,h4⟩
 · injection hv with hv hn hc
   obtain rfl:k=0:=by omega
   exact .inl ⟨by rw [hv,hc],rfl⟩
 · injection hv with hv hn hc
   refine .inr ⟨g,c,cur,by rw [hv],hb,hh,Yo,Yo,by rw [hc];exact h3,?_⟩;rw [<- G8,<- h4,List.take_take,Vk,Vk,U8 hk]
theorem Ow.strip {n c:Nat} (h:Ow w B (.slice A n c) xs):Ow w B (.slice A (Pl.strip xs).length c) (Pl.strip xs):=by
 have:=h.take (Al xs)
 rwa [<- Cg] at this
theorem Ow.lt (h:Ow w B v xs):∀ g,v.ownBlock=some g->B<=g/\g<w.heap.size:=h.2.lt
theorem Ow.set_ {g n c:Nat} (h:Ow w B (.slice (some ⟨g,0,none⟩) n c) xs) (hn:n=xs.length) {j:Nat} {x:Nat} (hx:x<WB):Ow (w.setCell ⟨g,j,none⟩ (.int .u64 (x:Int))) B (.slice (some ⟨g,0,none⟩) n c) (xs.set j x):=by
 subst hn;refine ⟨h.1.set j hx,?_⟩;rw [Uh,<- Ix];exact AT h.2 _
theorem Ow.at_ {n c:Nat} (h:Ow w B (.slice A n c) xs) {j:Nat} (hj:j<xs.length):∃ g,A=some ⟨g,0,none⟩/\n=xs.length/\B<=g/\g<w.heap.size/\xs.length<=c/\c<=maxLen/\(∀ (j x:Nat),xs[j]?=some x->w.cell? ⟨g,j,none⟩=some (.int .u64 (x:Int)))/\∀ j,w.frozen? ⟨g,j,none⟩=false:=by
 obtain ⟨g,cap,hv,h1,h2,h3,h4,h5,h6⟩:=CG h.2 Yo;injection hv with hv hn hc
 exact ⟨g,hv,hn,h1,h4,Yo,Yo,fun j x hx=>h5 j _ (CU hx),h6⟩
end
theorem Bf:(Tryz.prog.info? 146).map (fun i=>(i.zero,i.size,i.bytes))=some (some (.int .u64 0),1,8):=by kernel_rfl
end
section
open Go Go.RowKit Go.Proofs Pl
set_option maxHeartbeats 400000 in
theorem AG (A:Option Addr) (c:Nat) (xs:List Nat) (w:World) (hx:Rd w A xs) (hl:xs.length<=c) (hc:c<=maxLen):
 Calls Tryz.prog 221 #[.slice A xs.length c] w fun e w'=>e=.returned (.slice A (strip xs).length c)/\w=w':=by
 unfold maxLen at hc;go_enter Tryz.func221,Tryz.ntmps221;go_wp2;go_loop [3] (fun n=>∃ k:Nat,k<=xs.length/\n=.int .i64 k/\Hid (strip xs=strip (xs.take k))) (fun n=>(intOf n).toNat)
 case atStart=>exact ⟨xs.length,TL _,rfl,by show _=_;rw [VV]⟩
 case round=>
  obtain ⟨k,hk,rfl,hs⟩:=hrel
  cases k with
  | zero=>
   have hfin:Hid ((strip xs).length=0):=by show _=_;rw [hs.out];rfl
   go_wp2;go_ret;exact ⟨by rw [hfin.out];rfl,rfl⟩
  | succ m=>
   obtain ⟨b,o,rfl,hcell⟩:=hx.at_ (j:=m) Yo;have hm:=hcell m _ (List.getElem?_eq_getElem Yo);have hss:=C5 (xs.take m) xs[m];rw [<- Uc (by omega)] at hss;rw [Hid,hss] at hs;clear hss hcell hx;by_cases h0:xs[m]=0
   · rw [if_pos h0] at hs;rw [h0] at hm;have HS:=Lib.hid hs;clear hs h0;go_wp2;go_round
     case rel=>exact ⟨m,Yo,by go_num,HS⟩
     case measure=>simp [intOf]
   · rw [if_neg h0] at hs;have h0':((xs[m]:Int)==0)=false:=by simp;omega
     have hfin:Hid ((strip xs).length=m+1):=by show _=_;rw [hs];simp;omega
     clear hs h0;go_wp2;go_ret;exact ⟨by rw [hfin.out];rfl,rfl⟩
theorem AW {xs:List Nat} (h:All WB xs) (i:Nat):atD xs i<WB:=h.getD Ay i
set_option maxHeartbeats 400000 in
theorem SE (A:Option Addr) (c:Nat) (xs:List Nat) (i:Int) (w:World) (hx:Rd w A xs) (hl:xs.length<=maxLen) (hi:0<=i):
 Calls Tryz.prog 250 #[.slice A xs.length c,.int .i64 i] w fun e w'=>e=.returned (.int .u64 (atD xs i.toNat:Int))/\w=w':=by
 unfold maxLen at hl;obtain ⟨n,rfl⟩:=Int.eq_ofNat_of_zero_le hi;rw [Vy];by_cases hn:n<xs.length
 · obtain ⟨b,o,rfl,hcell⟩:=hx.at_ hn;have hm:=hcell n _ (List.getElem?_eq_getElem hn);have hv:atD xs n=xs[n]:=by unfold atD;rw [TS,List.getElem?_eq_getElem hn];rfl
   have HV:=Lib.hid hv;clear hv hx hcell hi;go_enter Tryz.func250,Tryz.ntmps250;go_wp2;go_ret;exact ⟨by rw [HV.out];rfl,rfl⟩
 · have hv:atD xs n=0:=by unfold atD;rw [TS,List.getElem?_eq_none (by omega)];rfl
   have HV:=Lib.hid hv;clear hv hx hi;go_enter Tryz.func250,Tryz.ntmps250;go_wp2;go_ret;exact ⟨by rw [HV.out];rfl,rfl⟩
theorem EO {w:World} {A:Option Addr} {xs:List Nat} (h:Rd w A xs) (ad:Addr) (hA:A=some ad):∀ j u,(wis xs)[j]?=some u->w.cell? (ad.add j)=some u:=by
 intro j u hj
 have hlt:j<xs.length:=by
  have:=(List.getElem?_eq_some_iff.1 hj).1
  rwa [AU] at this
 obtain ⟨b,o,hA',hc⟩:=h.at_ hlt;rw [hA] at hA';injection hA' with hA'
 subst hA';have e:(⟨b,o,none⟩:Addr).add j=⟨b,o+j,none⟩:=by unfold Addr.add;split<;>simp_all
 rw [e,hc j _ (List.getElem?_eq_getElem hlt)];rw [CU (List.getElem?_eq_getElem hlt)] at hj;exact hj
set_option maxHeartbeats 400000 in
theorem Do (A:Option Addr) (c:Nat) (xs:List Nat) (w:World) (hx:Rd w A xs) (hlen:xs.length*8<=140737488355328):
 Calls Tryz.prog 242 #[.slice A xs.length c] w fun e w'=>∃ v,e=.returned v/\Ow w' w.heap.size v xs/\Yg w w':=by
 cases A with
 | none=>
  have h0:xs=[]:=by
   rcases hx.2 with h | ⟨b,o,h,_⟩
   · exact h
   · cases h
  subst h0;exact (Tryz.slices_Clone_nil_f242 0 c w).mono fun e w' ⟨h1,h2⟩=>⟨_,h1,by rw [h2];exact Ow.nil _ _,by rw [h2];exact Below.refl _ _⟩
 | some ad=>
  obtain ⟨i0,hi0,hz0,hz1,hz2⟩:=info_parts Bf;have hcells:=EO hx ad rfl;have hall:=hx.1;clear hx;have H1:=Lib.hid hcells;have H2:=Lib.hid hall;clear hcells hall;have hnil:=fun W=>Lib.run_eql_slice_nil (P:=Tryz.prog) W 32 146 (some ad) xs.length c 0 0 Tryz.underlying32;go_enter Tryz.func242,Tryz.ntmps242;go_wp2_with (at_builtin;refine wpList_append_own _ rfl (.tmp 5) (.tmp 6) 32 rfl w.heap.size 146 i0 _ 1 8 Tryz.underlying32 hi0 hz0 hz1 hz2 rfl Yd _ 0 [] rfl ?ho ad xs.length c (wis xs) rfl (by rw [AU];omega) ?hc (Eg xs) (by unfold maxLen;omega) Yo (by simp) ?_)
  case ho=>
   have h0:=World.ownsRow_made (base:=w.heap.size) (e:=146) (size:=1) w #[] 0 (TL _) Yd rfl;exact h0
  case hc=>exact fun j u hj=>(Below.cell ((Below.refl w.heap.size w).alloc (TL _) _) (JL (H1.out j u hj))).trans (H1.out j u hj)
  · intro v w1 hown hg _;go_wp2_with fail;go_ret;refine ⟨v,rfl,⟨H2.out,?_⟩,((Below.refl _ _).alloc (TL _) _).grown hg (by simp) ?_⟩
    · simpa using hown
    · intro k hk;simp [Value.ownBlock] at hk;omega
end
section
open Go Go.RowKit Go.Proofs Pl
theorem Ff (x y c:Nat) (hx:x<WB) (hy:y<WB) (hc:c<=1) (w:World):
 (callFunc 249 #[.int .u64 (x:Int),.int .u64 (y:Int),.int .u64 (c:Int)]).run Tryz.prog w=
  .ok (.value (.tuple #[.int .u64 (((x+y+c) % WB:Nat):Int),.int .u64 (((x+y+c) / WB:Nat):Int)])) w:=by
 unfold WB at*;rw [run_callFunc_extern Tryz.func249 (by kernel_rfl) (by kernel_rfl) (by kernel_rfl) (e:=add64Entry) (by kernel_rfl),run_add64 x y c (by omega) (by omega) (by omega) (by omega)];simp only [Result.andThen]
 congr 5<;>omega
theorem Fq (x y b:Nat) (hb:b<=1) (w:World):
 (callFunc 252 #[.int .u64 (x:Int),.int .u64 (y:Int),.int .u64 (b:Int)]).run Tryz.prog w=
  .ok (.value (.tuple #[.int .u64 (((x+WB - y - b) % WB:Nat):Int),.int .u64 ((if x<y+b then 1 else 0:Nat):Int)])) w:=by
 unfold WB at*;rw [run_callFunc_extern Tryz.func252 (by kernel_rfl) (by kernel_rfl) (by kernel_rfl) (e:=sub64Entry) (by kernel_rfl),run_sub64 x y b hb];rfl
theorem LJ {P:Program} {f:FuncId} {args:Array Value} {w:World} {v:Value} (h:Calls P f args w fun e w'=>e=.returned v/\w=w'):Calls P f args w fun e w'=>e=.returned v/\w'=w:=
 h.mono fun _ _ ⟨a,b⟩=>⟨a,b.symm⟩
theorem NX (A:Option Addr) (c:Nat) (xs:List Nat) (i:Nat) (w:World) (hx:Rd w A xs) (hl:xs.length<=maxLen):
 Calls Tryz.prog 250 #[.slice A xs.length c,.int .i64 (i:Int)] w fun e w'=>e=.returned (.int .u64 (atD xs i:Int))/\w=w':=by
 have:=SE A c xs i w hx hl Yo
 rwa [Vy] at this
theorem Cm (n:Nat):(madeCells (Value.int .u64 0).cells (n*1)).toList=wis (List.replicate n 0):=by
 rw [Vk];apply List.ext_getElem
 · simp [madeCells,wis]
 · intro i h1 h2;have e:i % 1=0:=Nat.mod_one i;simp [madeCells,wis,Value.cells,e]
theorem DG (A0 B0:Option Addr) (c0 d0:Nat) (xs0 ys0:List Nat) (w:World) (hx0:Rd w A0 xs0) (hy0:Rd w B0 ys0) (hlx0:xs0.length<=c0) (hcx0:c0<=maxLen) (hly0:ys0.length<=d0) (hcy0:d0<=maxLen) (hlen0:xs0.length+1<=17592186044416) (hlen20:ys0.length+1<=17592186044416):
 Calls Tryz.prog 219 #[.slice A0 xs0.length c0,.slice B0 ys0.length d0] w fun e w'=>∃ v,e=.returned v/\Ow w' w.heap.size v (dg WB (val WB xs0+val WB ys0))/\Yg w w':=by
 unfold maxLen at hcx0 hcy0;obtain ⟨i0,hi0,hz0,hz1,hz2⟩:=info_parts Bf;go_enter Tryz.func219,Tryz.ntmps219;go_upto_if 12 with (fail)
 go_cut [0,1] (fun a b w1=>∃ (A B:Option Addr) (c d:Nat) (xs ys:List Nat),a=.slice A xs.length c/\b=.slice B ys.length d/\Rd w A xs/\Rd w B ys/\xs.length<=c/\c<=9223372036854775807/\ys.length<=d/\d<=9223372036854775807/\ys.length<=xs.length/\xs.length+1<=17592186044416/\Hid (val WB xs+val WB ys=val WB xs0+val WB ys0)/\w=w1)
 case first=>
  by_cases hle:xs0.length<ys0.length
  · go_wp2_with fail;go_meet;exact ⟨_,_,_,_,ys0,xs0,rfl,rfl,hy0,hx0,hly0,Yo,hlx0,Yo,Yo,hlen20,VL _ _,rfl⟩
  · go_wp2_with fail;go_meet;exact ⟨_,_,_,_,xs0,ys0,rfl,rfl,hx0,hy0,hlx0,Yo,hly0,Yo,Yo,hlen0,rfl,rfl⟩
 case rest=>
 obtain ⟨A,B,c,d,xs,ys,rfl,rfl,hx,hy,hlx,hcx,hly,hcy,hle,hlen,hsum,rfl⟩:=hcut;clear hx0 hy0 hlx0 hcx0 hly0 hcy0 hlen0 hlen20;go_wp2_with (at_make;refine wpList_make_full _ rfl (.tmp 17) (.tmp 17) 32 rfl w.heap.size 146 i0 _ 1 Tryz.underlying32 hi0 hz0 hz1 .i64 .i64 _ _ (xs.length+1) rfl rfl (by simp) (by simp) (by rw [hz2];omega) (by unfold maxLen;omega) (TL _) ?_;intro w1 hown0 hg0);rw [Cm] at hown0;have hb1:Yg w w1:=(Below.refl _ _).grown hg0 (TL _) (by simp);have hO:Ow w1 w.heap.size (.slice (some ⟨w.heap.size,0,none⟩) (xs.length+1) (xs.length+1)) (List.replicate (xs.length+1) 0):=⟨All.replicate Ay _,by rw [Uk];exact hown0⟩;clear hown0 hg0;go_loopw [6,21] (fun c i wr=>∃ (zs:List Nat) (q:Nat),i=.int .i64 zs.length/\zs.length<=xs.length/\c=.int .u64 (q:Int)/\q<=1/\Ow wr w.heap.size (.slice (some ⟨w.heap.size,0,none⟩) (xs.length+1) (xs.length+1)) (zs++List.replicate (xs.length+1 - zs.length) 0)/\Hid (val WB zs+WB ^ zs.length*q=vt WB xs zs.length+vt WB ys zs.length)/\Yg w wr) (fun _ i _=>xs.length - (intOf i).toNat)
 case atStart=>exact ⟨[],0,rfl,by simp,rfl,Yo,hO,by show _=_;rfl,hb1⟩
 case round=>
  obtain ⟨zs,q,rfl,hz,rfl,hq,hO,hv,hbw⟩:=hrel;have hxr:=hx.keep hbw;have hyr:=hy.keep hbw;by_cases hlt:zs.length<xs.length
  · obtain ⟨b,o,rfl,hcell⟩:=hxr.at_ hlt;have hm:=hcell _ _ (List.getElem?_eq_getElem hlt);obtain ⟨g,hg,-,hg1,hg2,-,-,hcs,hfr⟩:=hO.at_ (j:=zs.length) (by simp;omega);injection hg with hg
    injection hg with hg
    subst hg;have hc0:=hcs zs.length 0 (by rw [List.getElem?_append_right (TL _),VM,List.getElem?_replicate,if_pos (by omega)]);have hf0:=hfr zs.length;have hx0:xs[zs.length]<WB:=hx.1.get hlt;have hy0:atD ys zs.length<WB:=hy.1.getD Ay zs.length;have hat:=NX B d ys zs.length;clear hcs hfr;have hz':(atD xs zs.length+atD ys zs.length+q) % WB<WB:=UB _ Ay
    have hc':(atD xs zs.length+atD ys zs.length+q) / WB<=1:=by
     have:(atD xs zs.length+atD ys zs.length+q)<WB*2:=by rw [BW hlt];omega
     have:=UK this;omega
    have hset:=(hO.drewN 1).set_ (g:=w.heap.size) (j:=zs.length) (by simp;omega) hz';rw [Ir zs _ _ (by omega)] at hset;have hstep:=Jx (ys:=ys) rfl hv.out;have hbs:=(BC hbw 1).setCell (p:=⟨w.heap.size,zs.length,none⟩) (TL _) (.int .u64 (((atD xs zs.length+atD ys zs.length+q) % WB:Nat):Int));have hA:=Ff (atD xs zs.length) (atD ys zs.length) q (by rw [BW hlt];exact hx0) hy0 hq;rw [<- BW hlt] at hm;have HO:=Yh4 hset hstep hbs hc';have HYR:=Lib.hid hyr;have HAT:=Lib.hid hat;clear hO hx hy hyr hat hxr hcell hlen hi0 hz0 hz1 hz2 hset hstep hbs hc' hz' hbw hv hx0 hy0 hb1;go_upto_region 8 with (fail)
    go_region_with (go_at_call 250;refine (HAT.out _ (HYR.out.drewN 1) (by unfold maxLen;omega)).mono ?_;rintro e w' ⟨rfl,rfl⟩)
    all_goals
     clear hA hm HAT HYR hc0 hf0;go_wp2_with fail;go_roundw
     case rel=>exact ⟨_,_,by rw [TM];rfl,by simp;omega,rfl,HO.q3,HO.p0,by unfold Hid;simpa using HO.p1,HO.p2⟩
     case measure=>simp [intOf];omega
  · have hzl:zs.length=xs.length:=by omega
    obtain ⟨g,hg,-,hg1,hg2,-,-,hcs,hfr⟩:=hO.at_ (j:=zs.length) (by simp;omega);injection hg with hg
    injection hg with hg
    subst hg;have hc0:=hcs zs.length 0 (by rw [List.getElem?_append_right (TL _),VM,List.getElem?_replicate,if_pos (by omega)]);have hf0:=hfr zs.length;rw [hzl] at hc0 hf0;have hset:=hO.set_ (g:=w.heap.size) (j:=zs.length) (x:=q) (by simp;omega) (Ug hq Aw);rw [Ir zs _ _ (by omega),show xs.length+1 - (zs++[q]).length=0 from by simp;omega,List.replicate_zero,UA,hzl] at hset;have hbs:=hbw.setCell (p:=⟨w.heap.size,xs.length,none⟩) (TL _) (.int .u64 (q:Int))
    have hfin:dg WB (val WB (zs++[q]))=dg WB (val WB xs0+val WB ys0):=by
     rw [Cr,hv.out,BV _ _ (by omega),BV _ _ (by omega),hsum.out]
    have hlz:(zs++[q]).length=xs.length+1:=by simp;omega
    have hbare:=AG (some ⟨w.heap.size,0,none⟩) (xs.length+1) (zs++[q]) _ hset.rd Yo (by unfold maxLen;omega);rw [hlz] at hbare;have HB:=Lib.hid hbare;have hlt2:¬ zs.length<xs.length:=hlt;have HR:=Yh4 hset.strip hbs hfin (AB Aw hset.1);clear hzl hO hx hy hyr hxr hlen hi0 hz0 hz1 hz2 hset hbs hfin hbw hv hb1 hbare hlz hcs hfr;go_wp2_with (go_at_call 221;refine HB.out.mono ?_;rintro e w' ⟨rfl,rfl⟩);go_ret;exact ⟨_,rfl,by rw [<- HR.p2,<- HR.q3];exact HR.p0,HR.p1⟩
end
section
open Go Go.RowKit Go.Proofs Pl
theorem GW (A B:Option Addr) (c d:Nat) (xs ys:List Nat) (w:World) (hx:Rd w A xs) (hy:Rd w B ys) (hly:ys.length<=d) (hcy:d<=maxLen) (hle:ys.length<=xs.length) (hv0:val WB ys<=val WB xs) (hlen:xs.length*8<=140737488355328):
 Calls Tryz.prog 223 #[.slice A xs.length c,.slice B ys.length d] w fun e w'=>∃ v,e=.returned v/\Ow w' w.heap.size v (dg WB (val WB xs - val WB ys))/\Yg w w':=by
 unfold maxLen at hcy;have hcl:=Do A c xs w hx hlen;have HCL:=Lib.hid hcl;clear hcl;have HX:=Lib.hid hx.1;clear hx;have HV0:=Lib.hid hv0;clear hv0;go_enter Tryz.func223,Tryz.ntmps223;go_wp2_with (go_at_call 242;refine HCL.out.mono ?_;rintro e w1 ⟨v1,rfl,hO1,hb1⟩;obtain ⟨G,k,rfl,hk1,hk2⟩:=hO1.slice);unfold maxLen at hk2;go_loopw [6,12] (fun c i wr=>∃ (zs:List Nat) (q:Nat),i=.int .i64 zs.length/\zs.length<=xs.length/\c=.int .u64 (q:Int)/\q<=1/\Ow wr w.heap.size (.slice G xs.length k) (zs++xs.drop zs.length)/\Hid (val WB zs+vt WB ys zs.length=vt WB xs zs.length+WB ^ zs.length*q)/\Yg w wr) (fun _ i _=>xs.length - (intOf i).toNat)
 case atStart=>exact ⟨[],0,rfl,by simp,rfl,Yo,hO1,by show _=_;rfl,hb1⟩
 case round=>
  obtain ⟨zs,q,rfl,hz,rfl,hq,hO,hv,hbw⟩:=hrel;have hyr:=hy.keep hbw;have hlo:(zs++xs.drop zs.length).length=xs.length:=by simp;omega
  by_cases hlt:zs.length<xs.length
  · obtain ⟨g,rfl,-,hg1,hg2,-,-,hcs,hfr⟩:=hO.at_ (j:=zs.length) (by rw [hlo];exact hlt);have hm:=hcs zs.length _ (G6 hlt);have hf0:=hfr zs.length;have hx0:atD xs zs.length<WB:=HX.out.getD Ay zs.length;have hy0:atD ys zs.length<WB:=hy.1.getD Ay zs.length;have hat:=NX B d ys zs.length;have hset:=(hO.drewN 1).set_ (g:=g) hlo.symm (j:=zs.length) (x:=(atD xs zs.length+WB - atD ys zs.length - q) % WB) (UB _ Ay);rw [El _ hlt] at hset;have hstep:=JD Ay hx0 hy0 hq rfl hv.out;have hbs:=(BC hbw 1).setCell (p:=⟨g,zs.length,none⟩) hg1 (.int .u64 (((atD xs zs.length+WB - atD ys zs.length - q) % WB:Nat):Int));have hA:=Fq (atD xs zs.length) (atD ys zs.length) q hq;have hq':(if atD xs zs.length<atD ys zs.length+q then 1 else 0)<=1:=by split<;>omega
    obtain ⟨q',hqq⟩:∃ q',q'=(if atD xs zs.length<atD ys zs.length+q then 1 else 0):=⟨_,rfl⟩;rw [<- hqq] at hstep hA hq';have HO:=Yh4 hset hstep hbs hq';have HYR:=Lib.hid hyr;have HAT:=Lib.hid hat;clear hO hy hyr hat hlen hset hstep hbs hbw hv hx0 hy0 hb1 hcs hfr hlo hO1 hqq hq';go_upto_region 6 with (fail)
    go_region_with (go_at_call 250;refine (HAT.out _ (HYR.out.drewN 1) (by unfold maxLen;omega)).mono ?_;rintro e w' ⟨rfl,rfl⟩)
    all_goals
     clear hA hm HAT HYR hf0;go_wp2_with fail;go_roundw
     case rel=>exact ⟨_,_,by rw [TM];rfl,by simp;omega,rfl,HO.q3,HO.p0,by unfold Hid;simpa using HO.p1,HO.p2⟩
     case measure=>simp [intOf];omega
  · have hzl:zs.length=xs.length:=by omega
    have hO':Ow wr w.heap.size (.slice G xs.length k) zs:=by
     rw [UI (by omega),UA] at hO;exact hO
    have hfin:val WB zs=val WB xs - val WB ys:=by
     have h1:=hv.out;rw [BV _ _ (by omega),BV _ _ (by omega)] at h1;have h2:=Bc hO'.1;have h3:=HV0.out;have h4:q=0∨q=1:=Yo
     rcases h4 with rfl | rfl<;>omega
    have hbare:=AG G k zs wr hO'.rd Yo (by unfold maxLen;omega);rw [hzl] at hbare;have HB:=Lib.hid hbare;have hst:=hO'.strip;have hdg:=AB Aw hO'.1;rw [hfin] at hdg;have HR:=Yh3 hst hbw hdg;clear hO hO' hy hyr hlen hbw hv hb1 hbare hlo hst hdg hfin hzl hO1;go_wp2_with (go_at_call 221;refine HB.out.mono ?_;rintro e w' ⟨rfl,rfl⟩);go_ret;exact ⟨_,rfl,by rw [<- HR.q2];exact HR.p0,HR.p1⟩
end
section
namespace Pl
def Bk (a b:Nat):Int:=if a<b then -1 else if b<a then 1 else 0
theorem Fg {B:Nat} {P Q:List Nat} {i:Nat} (hP:All B P) (hl:P.length=Q.length) (hi:i<P.length) (hd:P.drop (i+1)=Q.drop (i+1)) (h:P[i]<Q[i]'Yo):val B P<val B Q:=by
 have e1:=AC B P i Yo;have e2:=AC B Q i Yo;rw [UU hi,AY,hd] at e1;rw [UU (show i<Q.length by omega),AY] at e2;have h1:=Bc (hP.take i);rw [TU,U8 (by omega)] at h1;have h2:B ^ i*(P[i]+1+B*val B (Q.drop (i+1)))<=B ^ i*(Q[i]'Yo+B*val B (Q.drop (i+1))):=TY _ Yo;rw [show P[i]+1+B*val B (Q.drop (i+1))=(P[i]+B*val B (Q.drop (i+1)))+1 from by omega,T9,Vk] at h2;omega
theorem DI {B:Nat} (hB:1<B) {P Q:List Nat} (hP:All B P) (hQ:All B Q) (cQ:Cw Q) (h:P.length<Q.length):val B P<val B Q:=by
 have h1:=Bc hP;have e:=FG hB hQ cQ
 rcases Ul (val B Q) (B ^ P.length) with h2 | h2
 · have:=Au hB h2;rw [e] at this;omega
 · omega
theorem Dg {B:Nat} (hB:1<B) {P Q:List Nat} (hP:All B P) (hQ:All B Q) (h:val B P<=val B Q):(strip P).length<=(strip Q).length:=by
 rw [AB hB hP,AB hB hQ];exact Bi hB h
end Pl
end
section
open Go Go.RowKit Go.Proofs Pl
theorem Du (A:Option Addr) (c:Nat) (xs:List Nat) (w:World) (hx:Rd w A xs) (hl:xs.length<=c) (hc:c<=maxLen) (hlen:xs.length*8<=140737488355328):
 Calls Tryz.prog 239 #[.slice A xs.length c] w fun e w'=>∃ v,e=.returned v/\Ow w' w.heap.size v (dg WB (val WB xs))/\Yg w w':=by
 have hb:=AG A c xs w hx hl hc;have hle:=Al xs;have hcl:=Do A c (strip xs) w hx.strip Yo;rw [AB Aw hx.1] at hcl hb;have HB:=Lib.hid hb;have HC:=Lib.hid hcl;clear hb hcl hlen hle hx;go_enter Tryz.func239,Tryz.ntmps239
 go_wp2_with (first
  | (go_at_call 221;refine HB.out.mono ?_;rintro e w' ⟨rfl,rfl⟩)
  | (go_at_call 242;refine HC.out.mono ?_;rintro e w' ⟨v,rfl,hO,hbw⟩))
 go_ret;exact ⟨v,rfl,hO,hbw⟩
theorem DC (A B:Option Addr) (c d:Nat) (xs ys:List Nat) (w:World) (hx:Rd w A xs) (hy:Rd w B ys) (hlx:xs.length<=c) (hcx:c<=maxLen) (hly:ys.length<=d) (hcy:d<=maxLen):
 Calls Tryz.prog 241 #[.slice A xs.length c,.slice B ys.length d] w fun e w'=>e=.returned (.int .i64 (Bk (val WB xs) (val WB ys)))/\∃ q,w'=w.drewN q:=by
 have hbx:=AG A c xs w hx hlx hcx;have hby:=AG B d ys w hy hly hcy;obtain ⟨P,hP⟩:∃ P,P=strip xs:=⟨_,rfl⟩;obtain ⟨Q,hQ⟩:∃ Q,Q=strip ys:=⟨_,rfl⟩;have rP:Rd w A P:=hP ▸ hx.strip;have rQ:Rd w B Q:=hQ ▸ hy.strip;have cP:Cw P:=hP ▸ DN xs;have cQ:Cw Q:=hQ ▸ DN ys;have vP:val WB xs=val WB P:=by rw [hP,AN]
 have vQ:val WB ys=val WB Q:=by rw [hQ,AN]
 have lP:P.length<=c:=by rw [hP];exact TP (Al xs) hlx
 have lQ:Q.length<=d:=by rw [hQ];exact TP (Al ys) hly
 rw [<- hP] at hbx;rw [<- hQ] at hby;have HBX:=Lib.hid hbx;have HBY:=Lib.hid hby;clear hbx hby hP hQ hx hy;unfold maxLen at*;by_cases hl:P.length=Q.length
 · have hlI:((P.length:Int) !=(Q.length:Int))=false:=by simp;omega
   have hlQ:Q.length<=P.length:=Yo;have hlP:P.length<=Q.length:=Yo;have HL:=Lib.hid hl;clear hl;go_enter Tryz.func241,Tryz.ntmps241;go_wp2_with fail;refine HBX.out.mono ?_;rintro e w' ⟨rfl,rfl⟩;go_wp2_with fail;refine HBY.out.mono ?_;rintro e w' ⟨rfl,rfl⟩;have HV:Hid (val WB xs=val WB P/\val WB ys=val WB Q):=⟨vP,vQ⟩;clear vP vQ;have HRP:=Lib.hid rP;have HRQ:=Lib.hid rQ;clear rP rQ;go_wp2_with fail;go_loopw [5] (fun i wr=>∃ k q:Nat,i=.int .i64 ((k:Int) - 1)/\k<=P.length/\Hid (P.drop k=Q.drop k)/\wr=w.drewN q) (fun i _=>(intOf i+1).toNat)
   case atStart=>exact ⟨P.length,0,rfl,TL _,by show _=_;rw [VW,UI (by omega)],rfl⟩
   case round=>
    obtain ⟨k,q,rfl,hk,hd,rfl⟩:=hrel
    cases k with
    | zero=>
     have hfin:Hid (Bk (val WB xs) (val WB ys)=0):=by
      show _=_;have e:P=Q:=hd.out;rw [HV.p0,HV.q1,e];simp [Bk]
     go_wp2_with fail;go_ret;exact ⟨by rw [hfin.out];rfl,q,rfl⟩
    | succ m=>
     have hm:m<P.length:=Yo;have hmQ:m<Q.length:=Yo;obtain ⟨b,o,rfl,hcell⟩:=HRP.out.at_ hm;obtain ⟨b',o',rfl,hcell'⟩:=HRQ.out.at_ hmQ;have e1:=hcell m _ (List.getElem?_eq_getElem hm);have e2:=hcell' m _ (List.getElem?_eq_getElem hmQ);clear hcell hcell';have hkm:(((m+1:Nat):Int) - 1)=(m:Int):=Yo;rw [hkm];clear hkm
     rcases Nat.lt_trichotomy P[m] Q[m] with h | h | h
     · have hlt:=Fg HRP.p0 HL.out hm hd.out h
       have hfin:Hid (Bk (val WB xs) (val WB ys)=-1):=by
        show _=_;rw [HV.p0,HV.q1];simp [Bk,hlt]
       have h':(P[m]:Int)<(Q[m]:Int):=Yo;clear hlt h;go_wp2_with fail;go_quiet (fail);go_wp2_with fail;go_ret;exact ⟨by rw [hfin.out];rfl,_,by simp;rfl⟩
     · have hd':Hid (P.drop m=Q.drop m):=by
        show _=_;rw [UU hm,UU hmQ,h,hd.out]
       have h1:¬ (P[m]:Int)<(Q[m]:Int):=Yo;have h2:¬ (Q[m]:Int)<(P[m]:Int):=Yo;clear h;go_wp2_with fail;go_quiet (fail);go_wp2_with fail;go_quiet (fail);go_wp2_with fail;go_roundw
       case rel=>exact ⟨m,_,rfl,Yo,hd',by first | rfl | (simp;rfl)⟩
       case measure=>simp [intOf]
     · have hlt:=Fg HRQ.p0 HL.out.symm hmQ hd.out.symm h
       have hfin:Hid (Bk (val WB xs) (val WB ys)=1):=by
        show _=_;rw [HV.p0,HV.q1,Bk,if_neg (by omega),if_pos hlt]
       have h1:¬ (P[m]:Int)<(Q[m]:Int):=Yo;have h2:(Q[m]:Int)<(P[m]:Int):=Yo;clear hlt h;go_wp2_with fail;go_quiet (fail);go_wp2_with fail;go_quiet (fail);go_wp2_with fail;go_ret;exact ⟨by rw [hfin.out];rfl,_,by simp;rfl⟩
 · have hlI:((P.length:Int) !=(Q.length:Int))=true:=by simp;omega
   rcases Nat.lt_or_gt_of_ne hl with h | h
   · have hlt:=DI Aw rP.1 rQ.1 cQ h
     have hfin:Hid (Bk (val WB xs) (val WB ys)=-1):=by
      show _=_;rw [vP,vQ];simp [Bk,hlt]
     clear hlt vP vQ hl rP rQ cP cQ;go_enter Tryz.func241,Tryz.ntmps241;go_wp2_with fail;refine HBX.out.mono ?_;rintro e w' ⟨rfl,rfl⟩;go_wp2_with fail;refine HBY.out.mono ?_;rintro e w' ⟨rfl,rfl⟩;go_wp2_with fail;go_ret;exact ⟨by rw [hfin.out];rfl,0,rfl⟩
   · have hlt:=DI Aw rQ.1 rP.1 cP h
     have hfin:Hid (Bk (val WB xs) (val WB ys)=1):=by
      show _=_;rw [vP,vQ,Bk,if_neg (by omega),if_pos hlt]
     have h2:¬ P.length<Q.length:=Yo;clear hlt vP vQ hl rP rQ cP cQ h;go_enter Tryz.func241,Tryz.ntmps241;go_wp2_with fail;refine HBX.out.mono ?_;rintro e w' ⟨rfl,rfl⟩;go_wp2_with fail;refine HBY.out.mono ?_;rintro e w' ⟨rfl,rfl⟩;go_wp2_with fail;go_ret;exact ⟨by rw [hfin.out];rfl,0,rfl⟩
def CQ (a b:Nat):Nat:=if a<b then 4 else 0
theorem IS (A B:Option Addr) (c d:Nat) (xs ys:List Nat) (w:World) (hx:Rd w A xs) (hy:Rd w B ys) (hlx:xs.length<=c) (hcx:c<=maxLen) (hly:ys.length<=d) (hcy:d<=maxLen) (hlen:xs.length*8<=140737488355328):
 Calls Tryz.prog 220 #[.slice A xs.length c,.slice B ys.length d] w fun e w'=>∃ v,e=.returned (.tuple #[v,.int .i64 (CQ (val WB xs) (val WB ys):Int)])/\Ow w' w.heap.size v (dg WB (val WB xs - val WB ys))/\Yg w w':=by
 have hcm:=DC A B c d xs ys w hx hy hlx hcx hly hcy;have HCM:=Lib.hid hcm;have hby:=fun q=>AG B d ys (w.drewN q) (hy.drewN q) hly hcy;have HBY:=Lib.hid hby;clear hcm hby;by_cases h:val WB xs<val WB ys
 · have e1:Hid (Bk (val WB xs) (val WB ys)=-1):=by show _=_;rw [Bk,if_pos h]
   have e2:Hid (CQ (val WB xs) (val WB ys)=4):=by show _=_;rw [CQ,if_pos h]
   have e3:Hid (dg WB (val WB xs - val WB ys)=[]):=by show _=_;rw [show val WB xs - val WB ys=0 from by omega];rfl
   clear h hx hy hlen hlx hcx hly hcy;go_enter Tryz.func220,Tryz.ntmps220;go_wp2_with (go_at_call 241;refine HCM.out.mono ?_;rintro e w' ⟨rfl,q,rfl⟩;rw [e1.out]);go_ret2;exact ⟨_,by rw [e2.out];rfl,by rw [e3.out];exact Ow.nil _ _,BC (Below.refl _ _) _⟩
 · have e1:0<=Bk (val WB xs) (val WB ys):=by unfold Bk;rw [if_neg h];split<;>decide
   have e2:Hid (CQ (val WB xs) (val WB ys)=0):=by show _=_;rw [CQ,if_neg h]
   have hsl:=Dg Aw hy.1 hx.1 Yo;have hls:=fun q=>GW A B c d xs (strip ys) (w.drewN q) (hx.drewN q) (hy.strip.drewN q) (TP (Al _) hly) hcy (TP hsl (Al _)) (by rw [AN];omega) hlen;rw [AN] at hls;have HLS:=Lib.hid hls;clear hls h hx hy hlen hlx hcx hly hcy hsl;go_enter Tryz.func220,Tryz.ntmps220
   go_wp2_with (first
    | (go_at_call 241;refine HCM.out.mono ?_;rintro e w' ⟨rfl,q,rfl⟩)
    | (go_at_call 221;refine (HBY.out _).mono ?_;rintro e w' ⟨rfl,rfl⟩)
    | (go_at_call 223;refine (HLS.out _).mono ?_;rintro e w' ⟨v,rfl,hO,hb⟩))
   go_ret2;exact ⟨_,by rw [e2.out];rfl,hO,Cf hb⟩
end
end Go.Proofs.YtlblnmmfphiobaaGreat
