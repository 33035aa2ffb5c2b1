import Derived.Test.YtlblnmmfphiobaaGreatPNA27
import Derived.Test.YtlblnmmfphiobaaGreatPNA28
set_option maxRecDepth 100000
set_option maxHeartbeats 8000000
set_option linter.unusedVariables false
set_option linter.unusedSimpArgs false
namespace Go.Proofs.YtlblnmmfphiobaaGreat
section
open Go Go.RowKit Go.Proofs Pl
def Co (l:LPx) (c:Nat):Bool:=CT l false c && CT l true c && decide (0<DJ (Cs l false c) (Cs l true c))
abbrev PSt:=LPx × List Ti × Bool
def CO (flags:List Bool) (s:PSt) (p:Nat × Nat × Bool):PSt:=
 if s.2.2=true then s else match AZ s.1 flags (p.1:Int) (p.2.1:Int) p.2.2 with
 | none=>s
 | some t=>(Ce s.1 p.2.1 p.2.2 (fq t.v),s.2.1++[t],Co (Ce s.1 p.2.1 p.2.2 (fq t.v)) p.2.1)
def Et (r c:Nat):List (Nat × Nat × Bool):=[(r,c,false),(r,c,true)]
def DY (r:Nat):Nat->List (Nat × Nat × Bool)
 | 0=>[]
 | c+1=>DY r c++Et r c
def CF (N:Nat):Nat->List (Nat × Nat × Bool)
 | 0=>[]
 | r+1=>CF N r++DY r N
def stX (flags:List Bool) (l:LPx) (ps:List (Nat × Nat × Bool)):PSt:=ps.foldl (CO flags) (l,[],false)
def AO (flags:List Bool) (l:LPx):PSt:=stX flags l (CF l.n.toNat (l.cols.length - l.n.toNat))
section
variable {flags:List Bool} {l:LPx} {ps qs:List (Nat × Nat × Bool)} {p:Nat × Nat × Bool} {s:PSt} {up:Bool} {N r c k R M:Nat}
theorem LS:stX flags l (ps++qs)=qs.foldl (CO flags) (stX flags l ps):=List.foldl_append
theorem Fd (h:s.2.2=true):CO flags s p=s:=by rw [CO,if_pos h]
theorem PE (h:(stX flags l ps).2.2=true):stX flags l (ps++qs)=stX flags l ps:=by
 rw [LS]
 induction qs with
 | nil=>rfl
 | cons q qs ih=>rw [UH,Fd h];exact ih
theorem Dc:stX flags l (ps++[p])=CO flags (stX flags l ps) p:=by rw [LS];rfl
theorem RU {l':LPx} {ts:List Ti} (h:stX flags l ps=(l',ts,false)) (ht:AZ l' flags (r:Int) (c:Int) up=none):stX flags l (ps++[(r,c,up)])=(l',ts,false):=by
 rw [Dc,h,CO,if_neg (by simp)];simp only [ht]
theorem Qb {l':LPx} {ts:List Ti} {t:Ti} (h:stX flags l ps=(l',ts,false)) (ht:AZ l' flags (r:Int) (c:Int) up=some t):stX flags l (ps++[(r,c,up)])=(Ce l' c up (fq t.v),ts++[t],Co (Ce l' c up (fq t.v)) c):=by
 rw [Dc,h,CO,if_neg (by simp)];simp only [ht]
theorem OU (h:c<=k):DY r c<+:DY r k:=by
 induction k with
 | zero=>
  obtain rfl:c=0:=by omega
  exact List.prefix_rfl
 | succ k ih=>
  by_cases e:c=k+1
  · rw [e];exact List.prefix_rfl
  · exact (ih Yo).trans (List.prefix_append _ _)
theorem OK (h:r<=R):CF N r<+:CF N R:=by
 induction R with
 | zero=>
  obtain rfl:r=0:=by omega
  exact List.prefix_rfl
 | succ R ih=>
  by_cases e:r=R+1
  · rw [e];exact List.prefix_rfl
  · exact (ih Yo).trans (List.prefix_append _ _)
def CA (N r c k:Nat):List (Nat × Nat × Bool):=CF N r++(DY r c++(Et r c).take k)
theorem Jy (hr:r<R) (hc:c<N):CA N r c k<+:CF N R:=by
 have h1:DY r c++(Et r c).take k<+:DY r N:=by
  have h2:DY r c++(Et r c).take k<+:DY r c++Et r c:=(List.prefix_append_right_inj _).2 (List.take_prefix _ _);exact h2.trans (OU (k:=N) (c:=c+1) Yo)
 have h3:CA N r c k<+:CF N (r+1):=(List.prefix_append_right_inj _).2 h1;exact h3.trans (OK Yo)
theorem PT:CA N r 0 0=CF N r:=by simp [CA,DY]
theorem SQ:CA N r c 2=CA N r (c+1) 0:=by simp [CA,DY,Et]
theorem RY:CA N r N 0=CF N (r+1):=by simp [CA,CF]
theorem SH:CA N r c 1=CA N r c 0++[(r,c,false)]:=by simp [CA,Et]
theorem Qh:CA N r c 2=CA N r c 1++[(r,c,true)]:=by simp [CA,Et]
theorem QY (h:(stX flags l ps).2.2=true) (hp:ps<+:qs):stX flags l qs=stX flags l ps:=by
 obtain ⟨t,rfl⟩:=hp;exact PE h
def OH (M:Nat) (flags:List Bool) (l:LPx):Prop:=∀ ps,ps<+:CF l.n.toNat (l.cols.length - l.n.toNat)->Dl M (stX flags l ps).1
end
section
variable {l:LPx} {c:Nat} {up:Bool} {f:Fx}
theorem J9:(Ce l c up f).n=l.n:=by cases up<;>rfl
theorem CE:(Ce l c up f).cols=l.cols:=by cases up<;>rfl
theorem FM:(Ce l c up f).cost=l.cost:=by cases up<;>rfl
theorem OE:(Ce l c up f).lo.length=l.lo.length/\(Ce l c up f).hi.length=l.hi.length/\(Ce l c up f).hasLo.length=l.hasLo.length/\(Ce l c up f).hasHi.length=l.hasHi.length:=by
 cases up<;>simp [Ce]
theorem GY {q:Rat} (hr:AA l) (hc:c<l.cols.length):AA (Ce l c up (fq q)):=by
 obtain ⟨e1,e2,e3,e4⟩:=OE (l:=l) (c:=c) (up:=up) (f:=fq q);refine ⟨by rw [J9,CE,FM,e1,e2,e3,e4];exact hr.1,fun k hk c0 bL bH fL fH fC h1 h2 h3 h4 h5 h6=>?_⟩;rw [CE] at h1 hk ⊢;rw [FM] at h6;rw [J9];obtain ⟨c',bL',bH',fL',fH',fC',g1,g2,g3,g4,g5,g6,g7⟩:=Cp hr hk;rw [h1] at g1;cases g1;rw [h6] at g6;cases g6;have hq:fq (fq q).q=fq q:=by rw [Ha]
 obtain ⟨p1,p2,p3,p4,p5,p6⟩:=g7
 cases up with
 | true=>
  have h2:l.hasLo[k]?=some bL:=h2;have h4:l.lo[k]?=some fL:=h4;have h3:(l.hasHi.set c true)[k]?=some bH:=h3;have h5:(l.hi.set c (fq q))[k]?=some fH:=h5;rw [h2] at g2;cases g2;rw [h4] at g4;cases g4;rw [List.getElem?_set] at h3 h5;by_cases e:c=k
  · rw [if_pos e] at h3 h5
    split at h3
    · split at h5
      · cases h3;cases h5
        exact ⟨p1,hq.symm,p3,p4,.inl rfl,p6⟩
      · cases h5
    · cases h3
  · rw [if_neg e] at h3 h5;rw [h3] at g3;cases g3;rw [h5] at g5;cases g5;exact ⟨p1,p2,p3,p4,p5,p6⟩
 | false=>
  have h3:l.hasHi[k]?=some bH:=h3;have h5:l.hi[k]?=some fH:=h5;have h2:(l.hasLo.set c true)[k]?=some bL:=h2;have h4:(l.lo.set c (fq q))[k]?=some fL:=h4;rw [h3] at g3;cases g3;rw [h5] at g5;cases g5;rw [List.getElem?_set] at h2 h4;by_cases e:c=k
  · rw [if_pos e] at h2 h4
    split at h2
    · split at h4
      · cases h2;cases h4
        exact ⟨hq.symm,p2,p3,.inl rfl,p5,p6⟩
      · cases h4
    · cases h2
  · rw [if_neg e] at h2 h4;rw [h2] at g2;cases g2;rw [h4] at g4;cases g4;exact ⟨p1,p2,p3,p4,p5,p6⟩
end
theorem Nz {l:LPx} {flags:List Bool} {row col:Int} {up:Bool} {t:Ti} (h:AZ l flags row col up=some t):t.col=col/\t.up=up:=by
 unfold AZ at h
 split at h
 · rename_i hz;unfold Dk at h
   split at h
   · cases h
   · split at h
     · cases h
     · unfold ML at h
       split at h
       · cases h
         exact ⟨by show ((col.toNat:Nat):Int)=col;omega,rfl⟩
       · cases h
 · cases h
theorem Ps {l:LPx} {flags:List Bool} {row col:Int} {up:Bool} {t:Ti} {M:Nat} (h:AZ l flags row col up=some t) (hs:SzM M l) (hf:Dl M l) (hM:0<M) (hMx:M<=10000000):Sz 1000000000 t.v:=by
 have hc:∀ c∈l.cols,c.length<=30:=fun c hc=>(hf.1.2.1 c hc).1;unfold AZ at h
 split at h
 · rename_i hz;unfold Dk at h
   split at h
   · cases h
   · split at h
     · cases h
     · rename_i st hst;have h1:=(EW hs hM hc hst).1;have hn:l.n.toNat<=14:=by have:=hz.1;unfold BG at this;have:=hf.1.1;omega
       have h2:=szK hMx hn;unfold ML at h
       split at h
       · cases h
         show Sz _ (MN _ up st.1);unfold MN
         split
         · exact (Hs h1 h2.1).mono h2.2
         · exact h1.mono h2.2
       · cases h
 · cases h
theorem EJ:(Tryz.prog.info? 39).map (fun i=>(i.zero,i.size,i.bytes))=some (some (.agg #[.int .i64 0,.bool false,.bool false,.slice none 0 0,.slice none 0 0,.slice none 0 0,.bool false]),7,104):=by kernel_rfl
structure Km where
 c:Int
 u:Bool
 b:Bool
 A:Option Addr
 l:Nat
 k:Nat
 B:Option Addr
 m:Nat
 d:Nat
 U:Option Addr
 n:Nat
 p:Nat
 r:Bool
def Km.cs (x:Km):List Value:=[.int .i64 x.c,.bool x.u,.bool x.b,.slice x.A x.l x.k,.slice x.B x.m x.d,.slice x.U x.n x.p,.bool x.r]
theorem Km.len (x:Km):x.cs.length=7:=rfl
theorem Km.one (x:Km):∀ u∈x.cs,u.oneCell'=true:=fun u hu=>by
 simp only [Km.cs,Ue,Vj,or_false] at hu
 rcases hu with rfl | rfl | rfl | rfl | rfl | rfl | rfl<;>rfl
def TgR (w0 w:World) (v:Value) (ts:List Ti):Prop:=∃ xs:List Km,Rr w w0.heap.size 39 7 Km.cs v xs/\Bd (fun x t=>x.c=t.col/\x.u=t.up/\x.r=t.rd/\Qr w0 w (.agg #[.bool x.b,.slice x.A x.l x.k,.slice x.B x.m x.d]) t.v/\Ub w0 w (.slice x.U x.n x.p) t.us) xs ts/\Yg w0 w
section
variable {w w' w0 w1:World} {v v0:Value} {ts:List Ti} {us:List Ux} {l l0:LPx}
theorem Ub.from (h:Ub w1 w v us) (hb:Below w0.heap.size w0 w1):Ub w0 w v us:=by
 obtain ⟨xs,h1,h2,h3⟩:=h;exact ⟨xs,h1.mono hb.size,h2.imp fun x t ht=>⟨ht.1,ht.2.1,ht.2.2.from hb⟩,Yb hb h3⟩
theorem TgR.nil (hb:Below w0.heap.size w0 w):TgR w0 w (.slice none 0 0) []:=⟨[],Rr.nil _ _ _ _ _,Bd.nil,hb⟩
theorem TgR.below (h:TgR w0 w v ts):Below w0.heap.size w0 w:=by obtain ⟨xs,h1,h2,h3⟩:=h;exact h3
theorem TgR.keepT (h:TgR w0 w v ts) (k1:Ak 39 w w') (k2:Ak 146 w w') (k3:Ak 46 w w') (hb:Below w0.heap.size w0 w'):TgR w0 w' v ts:=by
 obtain ⟨xs,h1,h2,h3⟩:=h;exact ⟨xs,h1.keepT k1,h2.imp fun x t ht=>⟨ht.1,ht.2.1,ht.2.2.1,ht.2.2.2.1.keepT k2 hb,ht.2.2.2.2.keepT k3 k2 hb⟩,hb⟩
theorem TgR.keep (h:TgR w0 w v ts) (hb:Below w.heap.size w w'):TgR w0 w' v ts:=h.keepT (Ak.below hb) (Ak.below hb) (Ak.below hb) (Yb h.below hb)
theorem TgR.from (h:TgR w1 w v ts) (hb:Below w0.heap.size w0 w1):TgR w0 w v ts:=by
 obtain ⟨xs,h1,h2,h3⟩:=h;exact ⟨xs,h1.mono hb.size,h2.imp fun x t ht=>⟨ht.1,ht.2.1,ht.2.2.1,ht.2.2.2.1.from hb,ht.2.2.2.2.from hb⟩,Yb hb h3⟩
theorem TgR.shape (h:TgR w0 w v ts):∃ A cap,v=.slice A ts.length cap:=by
 obtain ⟨xs,h1,h2,h3⟩:=h;obtain ⟨A,cap,e,-⟩:=h1.shape;exact ⟨A,cap,by rw [e,h2.1]⟩
def LPo (w0 w:World) (v0:Value) (l0:LPx) (v:Value) (l:LPx):Prop:=(LPw w0 w v l∨(v=v0/\l=l0/\LPv w0 v0 l0))/\Yg w0 w
theorem LPo.lpv (h:LPo w0 w v0 l0 v l):LPv w v l:=h.1.elim (fun h=>h.lpv) fun k=>by rw [k.1,k.2.1];exact k.2.2.keep h.2
theorem LPo.keepA (h:LPo w0 w v0 l0 v l) (k:∀ T,39≠T->Ak T w w') (hb:Below w0.heap.size w0 w'):LPo w0 w' v0 l0 v l:=by
 refine ⟨h.1.imp (fun h=>?_) id,hb⟩;obtain ⟨x,e,h1,⟨h2,h3,h4,h5,h6,h7⟩,-⟩:=h;exact ⟨x,e,h1,⟨h2.keepT (k _ Yd) (k _ Yd) (k _ Yd) hb,h3.keepT (k _ Yd),h4.keepT (k _ Yd),h5.keepT (k _ Yd) (k _ Yd) hb,h6.keepT (k _ Yd) (k _ Yd) hb,h7.keepT (k _ Yd) (k _ Yd) hb⟩,hb⟩
theorem LPo.keepL (h:LPo w0 w v0 l0 v l) (k:∀ T,26≠T->Ak T w w') (hb:Below w0.heap.size w0 w'):LPo w0 w' v0 l0 v l:=by
 refine ⟨h.1.imp (fun h=>?_) id,hb⟩;obtain ⟨x,e,h1,⟨h2,h3,h4,h5,h6,h7⟩,-⟩:=h;exact ⟨x,e,h1,⟨h2.keepT (k _ Yd) (k _ Yd) (k _ Yd) hb,h3.keepT (k _ Yd),h4.keepT (k _ Yd),h5.keepT (k _ Yd) (k _ Yd) hb,h6.keepT (k _ Yd) (k _ Yd) hb,h7.keepT (k _ Yd) (k _ Yd) hb⟩,hb⟩
theorem LPo.keep (h:LPo w0 w v0 l0 v l) (hb:Below w.heap.size w w'):LPo w0 w' v0 l0 v l:=h.keepA (fun T _=>Ak.below hb) (Yb h.2 hb)
theorem LPo.open {n:Nat} (h:LPo w0 w v0 l0 v l) (ha:l.cols.length=n) (hb:l.hasLo.length=n) (hc:l.hasHi.length=n) (hd:l.lo.length=n) (he:l.hi.length=n) (hf:l.cost.length=n):∃ aA ac bA bc cA cc dA dc eA ec fA fc,v=.agg #[.int .i64 l.n,.slice aA n ac,.slice bA n bc,.slice cA n cc,.slice dA n dc,.slice eA n ec,.slice fA n fc]:=by
 obtain ⟨aA,an,ac,bA,bn,bc,cA,cn,cc,dA,dn,dc,eA,en,ec,fA,fn,fc,e,hP,hla,hlb,hlc,hld,hle,hlf,hma,hmb,hmc,hmd,hme,hmf⟩:=h.lpv.open;obtain rfl:n=an:=by omega
 obtain rfl:n=bn:=by omega
 obtain rfl:n=cn:=by omega
 obtain rfl:n=dn:=by omega
 obtain rfl:n=en:=by omega
 obtain rfl:n=fn:=by omega
 exact ⟨_,_,_,_,_,_,_,_,_,_,_,_,e⟩
end
theorem Nh {w:World} {v:Value} {l:LPx} {c M:Nat} (h:LPv w v l) (hr:AA l) (hf:Dl M l) (hc:c<l.cols.length) (hM:0<M) (hMx:M<=10000000):
 Calls Tryz.prog 174 #[v,.int .i64 (c:Int)] w fun e w'=>e=.returned (.bool (Co l c))/\Yg w w':=by
 obtain ⟨_,bL,bH,fL,fH,_,-,g2,g3,g4,g5,-,-⟩:=Cp hr hc;have m1:=hf.1.2.2 fL (.inl (TO g4));have m2:=hf.1.2.2 fH (.inr (.inl (TO g5)));have e1:CT l false c=bL:=by simp [CT,TS,g2]
 have e2:CT l true c=bH:=by simp [CT,TS,g3]
 have e3:Cs l false c=fL.q:=by simp [Cs,TS,g4]
 have e4:Cs l true c=fH.q:=by simp [Cs,TS,g5]
 unfold Co;rw [e1,e2,e3,e4]
 cases bL<;>cases bH
 · exact J2 h g4 g5 g2 g3 hM Yo m1.1 m1.2 m2.1 m2.2
 · exact Kt h g4 g5 g2 g3 hM Yo m1.1 m1.2 m2.1 m2.2
 · exact K3 h g4 g5 g2 g3 hM Yo m1.1 m1.2 m2.1 m2.2
 · exact KI h g4 g5 g2 g3 hM Yo m1.1 m1.2 m2.1 m2.2
theorem Ds {α:Type} {P:List α->Prop} (h0:P []) (h1:∀ l a,P l->P (l++[a])) (l:List α):P l:=by
 have h:∀ l:List α,P l.reverse:=fun l=>by
  induction l with
  | nil=>exact h0
  | cons a l ih=>rw [List.reverse_cons];exact h1 _ _ ih
 rw [<- List.reverse_reverse l];exact h _
theorem LL (flags:List Bool) (l:LPx) (ps:List (Nat × Nat × Bool)):(stX flags l ps).2.1.length<=ps.length:=by
 induction ps using Ds with
 | h0=>exact TL _
 | h1 ps p ih=>
  rw [Dc,CO,TM,Ui]
  split
  · omega
  · split
    · omega
    · simp only [TM,Ui];omega
theorem OA (r c:Nat):(DY r c).length=c*2:=by
 induction c with
 | zero=>rfl
 | succ c ih=>rw [DY,TM,ih];show c*2+2=_;omega
theorem GQ (N R:Nat):(CF N R).length=R*(N*2):=by
 induction R with
 | zero=>simp [CF]
 | succ R ih=>rw [CF,TM,ih,OA,Vz]
theorem Hu {flags:List Bool} {l:LPx} {N R:Nat} (hr:AA l) (hN:N<=l.cols.length):∀ {ps:List (Nat × Nat × Bool)},ps<+:CF N R->AA (stX flags l ps).1/\(stX flags l ps).1.n=l.n/\(stX flags l ps).1.cols=l.cols:=by
 have hin:∀ p∈CF N R,p.2.1<N:=by
  have hc:∀ {r c:Nat},∀ p∈DY r c,p.2.1<c:=fun {r c}=>by
   induction c with
   | zero=>intro p hp;cases hp
   | succ c ih=>
    intro p hp;rw [DY,Uw] at hp
    rcases hp with hp | hp
    · have:=ih p hp;omega
    · simp only [Et,Ue,Vj,or_false] at hp
      rcases hp with rfl | rfl<;>simp
  induction R with
  | zero=>intro p hp;cases hp
  | succ R ih=>
   intro p hp;rw [CF,Uw] at hp
   rcases hp with hp | hp
   · exact ih p hp
   · exact hc p hp
 intro ps hp;have hin2:∀ p∈ps,p.2.1<N:=fun p h=>hin p (hp.subset h);clear hp hin
 induction ps using Ds with
 | h0=>exact ⟨hr,rfl,rfl⟩
 | h1 ps p ih=>
  obtain ⟨h1,h2,h3⟩:=ih fun p h=>hin2 p (VU _ h);have hp:=hin2 p (Wf _ (List.mem_singleton_self p));rw [Dc,CO]
  split
  · exact ⟨h1,h2,h3⟩
  · split
    · exact ⟨h1,h2,h3⟩
    · refine ⟨GY h1 (by rw [h3];omega),by simp only [J9];exact h2,by simp only [CE];exact h3⟩
def PI (w wr:World) (flags:List Bool) (l:LPx) (v0:Value) (N an g2 g4:Nat) (z:Value) (ps:List (Nat × Nat × Bool)):Prop:=∃ (l':LPx) (ts:List Ti) (aA:Option Addr) (ac:Nat) (bA:Option Addr) (bc:Nat) (cA:Option Addr) (cc:Nat) (dA:Option Addr) (dc:Nat) (eA:Option Addr) (ec:Nat) (fA:Option Addr) (fc:Nat) (U:Option Addr) (n cp:Nat),z=.slice U n cp/\stX flags l ps=(l',ts,false)/\LPo w wr v0 l (.agg #[.int .i64 (N:Int),.slice aA an ac,.slice bA an bc,.slice cA an cc,.slice dA an dc,.slice eA an ec,.slice fA an fc]) l'/\Bl wr 26 g2 [.int .i64 (N:Int),.slice aA an ac,.slice bA an bc,.slice cA an cc,.slice dA an dc,.slice eA an ec,.slice fA an fc]/\Bl wr 26 g4 [.int .i64 0,.slice none 0 0,.slice none 0 0,.slice none 0 0,.slice none 0 0,.slice none 0 0,.slice none 0 0]/\TgR w wr (.slice U n cp) ts/\Yg w wr
def Jj (w:World) (flags:List Bool) (l:LPx) (v0:Value) (e:Ending) (w':World):Prop:=∃ x y,e=.returned (.tuple #[x,y,.bool (AO flags l).2.2])/\LPo w w' v0 l x (AO flags l).1/\TgR w w' y (AO flags l).2.1/\Yg w w'
theorem RB {w w':World} {v0:Value} {flags:List Bool} {l l':LPx} {ts:List Ti} {b:Bool} {e:Ending} {x y:Value} (hp:AO flags l=(l',ts,b)) (he:e=.returned (.tuple #[x,y,.bool b])) (h1:LPo w w' v0 l x l') (h2:TgR w w' y ts) (h3:Below w.heap.size w w'):Jj w flags l v0 e w':=⟨x,y,by rw [hp];exact he,by rw [hp];exact h1,by rw [hp];exact h2,h3⟩
set_option maxHeartbeats 64000000 in
theorem RR {w:World} {v u:Value} {l:LPx} {flags:List Bool} {M:Nat} (h:LPv w v l) (hu:Ex w u flags) (hr:AA l) (hrun:OH M flags l) (hM:0<M) (hMx:M<=10000000):
 Calls Tryz.prog 91 #[v,u] w fun e w'=>Jj w flags l v e w':=by
 have hlp:=h;obtain ⟨aA,an,ac,bA,bn,bc,cA,cn,cc,dA,dn,dc,eA,en,ec,fA,fn,fc,rfl,hP,hla,hlb,hlc,hld,hle,hlf,hma,hmb,hmc,hmd,hme,hmf⟩:=h.open;obtain ⟨Fl,Fk,rfl,-,-⟩:=hu.shape;obtain ⟨m,hm⟩:∃ m,flags.length=m:=⟨_,rfl⟩;rw [hm] at hu ⊢;obtain ⟨N,hN⟩:∃ N:Nat,l.n=(N:Int):=⟨l.n.toNat,by have:=hr.1.1;omega⟩;obtain rfl:an=bn:=by rw [<- hla,<- hlb];exact hr.1.2.2.2.2.1.symm
 obtain rfl:an=cn:=by rw [<- hla,<- hlc];exact hr.1.2.2.2.2.2.1.symm
 obtain rfl:an=dn:=by rw [<- hla,<- hld];exact hr.1.2.2.1.symm
 obtain rfl:an=en:=by rw [<- hla,<- hle];exact hr.1.2.2.2.1.symm
 obtain rfl:an=fn:=by rw [<- hla,<- hlf];exact hr.1.2.2.2.2.2.2.symm
 have hf0:Dl M l:=hrun [] List.nil_prefix;have hna:an<=14:=by rw [<- hla];exact hf0.1.1
 have hn1:N<=an:=by have:=hr.1.2.1;rw [hla,hN] at this;omega
 obtain ⟨R,hR⟩:∃ R,R=an - N:=⟨_,rfl⟩;have HT:Hid (CF l.n.toNat (l.cols.length - l.n.toNat)=CF N R):=by rw [hN,hla,hR];rfl
 have HRUN:Hid (∀ ps,ps<+:CF N R->Dl M (stX flags l ps).1):=fun ps hp=>hrun ps (by rw [HT.out];exact hp)
 have HR:Hid (∀ ps,ps<+:CF N R->AA (stX flags l ps).1/\(stX flags l ps).1.n=(N:Int)/\(stX flags l ps).1.cols.length=an):=fun ps hp=>by
  obtain ⟨h1,h2,h3⟩:=Hu (flags:=flags) hr (by rw [hla];exact hn1) hp;exact ⟨h1,h2.trans hN,by rw [h3];exact hla⟩
 have HS:=Yh2 hlp hu;have HM:=Yh2 hM hMx;have HN:=Yh3 hn1 hna hR;rw [hN];obtain ⟨V0,hV0⟩:∃ x,Value.agg #[.int .i64 (N:Int),.slice aA an ac,.slice bA an bc,.slice cA an cc,.slice dA an dc,.slice eA an ec,.slice fA an fc]=x:=⟨_,rfl⟩;have HV0:=Lib.hid hV0;clear hV0 hP hlp hu hr hrun hM hMx hf0 hm hla hlb hlc hld hle hlf hma hmb hmc hmd hme hmf h;show Calls Tryz.prog 91 #[.agg #[.int .i64 (N:Int),.slice aA an ac,.slice bA an bc,.slice cA an cc,.slice dA an dc,.slice eA an ec,.slice fA an fc],.slice Fl m Fk] w (fun e w'=>Jj w flags l (.agg #[.int .i64 (N:Int),.slice aA an ac,.slice bA an bc,.slice cA an cc,.slice dA an dc,.slice eA an ec,.slice fA an fc]) e w');rw [show (fun e w'=>Jj w flags l (.agg #[.int .i64 (N:Int),.slice aA an ac,.slice bA an bc,.slice cA an cc,.slice dA an dc,.slice eA an ec,.slice fA an fc]) e w')=(fun e w'=>Jj w flags l V0 e w') from by rw [HV0.out]];go_enter Tryz.func91,Tryz.ntmps91;go_upto_region 1 with (fail)
 obtain ⟨hX,hZ,hB⟩:=box2 w 26 26 [.int .i64 (N:Int),.slice aA an ac,.slice bA an bc,.slice cA an cc,.slice dA an dc,.slice eA an ec,.slice fA an fc] [.int .i64 0,.slice none 0 0,.slice none 0 0,.slice none 0 0,.slice none 0 0,.slice none 0 0,.slice none 0 0];obtain ⟨g4,hg4⟩:∃ g,g=w.heap.size+1:=⟨_,rfl⟩;obtain ⟨g2,hg2⟩:∃ g,g=w.heap.size:=⟨_,rfl⟩;have HG:Hid (w.heap.size<=g2/\w.heap.size<=g4/\g2≠g4):=by rw [hg2,hg4];exact ⟨TL _,VF _ 1,Nat.ne_of_lt (Nat.lt_succ_self _)⟩
 rw [hg4.symm] at hZ ⊢;rw [hg2.symm] at hX ⊢;have HP0:Hid (PI w ((w.alloc (.cells #[.int .i64 (N:Int),.slice aA an ac,.slice bA an bc,.slice cA an cc,.slice dA an dc,.slice eA an ec,.slice fA an fc] 26)).alloc (.cells #[.int .i64 0,.slice none 0 0,.slice none 0 0,.slice none 0 0,.slice none 0 0,.slice none 0 0,.slice none 0 0] 26)) flags l V0 N an g2 g4 (.slice none 0 0) (CA N 0 0 0)):=⟨l,[],aA,ac,bA,bc,cA,cc,dA,dc,eA,ec,fA,fc,none,0,0,rfl,rfl,⟨.inr ⟨HV0.out,rfl,by have h:=HS.p0;rw [hN,HV0.out] at h;exact h⟩,hB⟩,hX,hZ,TgR.nil hB,hB⟩;have m0:=Bl.ld hX 0 rfl;have m1:=Bl.ld hX 1 rfl;have hw:IntKind.i64.wrap ((an:Int) - (N:Int))=(R:Int):=by rw [show (an:Int) - (N:Int)=(R:Int) by omega];exact IntWalk.i64_in _ Yo
 have hRb:R<=14:=Yo;clear hB hN hZ hg2 hg4 hR;generalize (w.alloc _).alloc _=W0 at HP0 m0 m1 hX ⊢;go_wp2_with fail;clear hw m0 m1 hX;go_loopw [19,5] (fun zi zj wr=>∃ (r:Nat) (z5:Value),z5=zj/\zi=.int .i64 (r:Int)/\r<=R/\Hid (PI w wr flags l V0 N an g2 g4 z5 (CA N r 0 0))) (fun zi _ _=>R - (intOf zi).toNat)
 case atStart=>exact ⟨0,_,rfl,rfl,Un _,HP0.out⟩
 case round=>
  obtain ⟨r,z5,rfl,rfl,hkr,Hr⟩:=hrel;by_cases hltr:r<R
  · skip;obtain ⟨l2,ts,aA,ac,bA,bc,cA,cc,dA,dc,eA,ec,fA,fc,U,n,cp,rfl,hst,hlpo,hbl,hres,htg,hbw⟩:=Hr.out;have Hr2:=(show Hid (PI w wr flags l V0 N an g2 g4 (.slice U n cp) (CA N r 0 0)) from Hr.out);have m0:=Bl.ld hbl 0 rfl;clear hst hlpo hres htg hbw hbl Hr;go_wp2_with fail;clear m0;go_loopw [24,5] (fun zi zj wr=>∃ (c:Nat) (z5:Value),z5=zj/\zi=.int .i64 (c:Int)/\c<=N/\Hid (PI w wr flags l V0 N an g2 g4 z5 (CA N r c 0))) (fun zi _ _=>N - (intOf zi).toNat)
    case atStart=>exact ⟨0,_,rfl,rfl,Un _,Hr2.out⟩
    case round=>
     obtain ⟨c,z5,rfl,rfl,hkc,Hc⟩:=hrel;by_cases hltc:c<N
     · skip;clear Hr2;go_wp2_with fail;go_loopw [28,5] (fun zi zj wr=>∃ (k:Nat) (z5:Value),z5=zj/\zi=.int .i64 (k:Int)/\k<=2/\Hid (PI w wr flags l V0 N an g2 g4 z5 (CA N r c k))) (fun zi _ _=>2 - (intOf zi).toNat)
       case atStart=>exact ⟨0,_,rfl,rfl,Un _,Hc.out⟩
       case round=>
        obtain ⟨k,z5,rfl,rfl,hkk,Hk⟩:=hrel;by_cases hltk:k<2
        · skip;have hk2:k=0∨k=1:=Yo;skip;obtain ⟨l2,ts,aA,ac,bA,bc,cA,cc,dA,dc,eA,ec,fA,fc,U,n,cp,rfl,hst,hlpo,hbl,hres,htg,hbw⟩:=Hk.out;have HST:=Lib.hid hst;clear hst;have H1:=Yh5 hlpo hbl hres htg hbw;clear hlpo hbl hres htg hbw;go_upto_region 9 with (fail)
          go_cut [10] (fun cc wx=>cc=.bool (decide (k=1))/\Hid (Yg wr wx))
          case first=>
           have hx0:∀ W,(Instr.index 241 (.agg #[.bool false,.bool true]) (.int .i64 0)).run Tryz.prog W=.ok (.bool false) W:=fun _=>rfl;have hx1:∀ W,(Instr.index 241 (.agg #[.bool false,.bool true]) (.int .i64 1)).run Tryz.prog W=.ok (.bool true) W:=fun _=>rfl
           rcases hk2 with rfl | rfl
           · skip;go_wp2_with fail;go_meet;exact ⟨by first | rfl | simp,Aj⟩
           go_wp2_with fail;go_meet;exact ⟨by first | rfl | simp,Aj⟩
          case rest=>
           obtain ⟨rfl,hwc⟩:=hcut;have H2:=Yh5 (H1.p0.keep hwc.out) (H1.p1.keep hwc.out) (H1.p2.keep hwc.out) (H1.p3.keep hwc.out) (Yb H1.q4 hwc.out);clear hwc H1;generalize wc=V1 at H2 ⊢;obtain ⟨up,hup⟩:∃ b,decide (k=1)=b:=⟨_,rfl⟩;rw [hup];have hpre:=Jy (k:=k) hltr hltc
           have hnx:CA N r c (k+1)=CA N r c k++[(r,c,up)]:=by
            rcases hk2 with rfl | rfl
            · rw [<- hup];exact SH
            · rw [<- hup];exact Qh
           have HNX:=Lib.hid hnx;have hpre2:=Jy (k:=k+1) hltr hltc;have HPR:=Yh2 hpre hpre2;clear hup hnx hpre hpre2;have HRT:Hid (AA l2/\l2.n=(N:Int)/\l2.cols.length=an):=by have h:=HR.out _ HPR.p0;rw [HST.out] at h;exact h
           have HFT:Hid (Dl M l2):=by have h:=HRUN.out _ HPR.p0;rw [HST.out] at h;exact h
           have m0:=Bl.ld H2.p1 0 rfl;have m1:=Bl.ld H2.p1 1 rfl;have m2:=Bl.ld H2.p1 2 rfl;have m3:=Bl.ld H2.p1 3 rfl;have m4:=Bl.ld H2.p1 4 rfl;have m5:=Bl.ld H2.p1 5 rfl;have m6:=Bl.ld H2.p1 6 rfl;obtain ⟨res,hres⟩:∃ x,AZ l2 flags (r:Int) (c:Int) up=x:=⟨_,rfl⟩;have HRES:=Lib.hid hres;have htv:=Hm (M:=M) H2.p0.lpv (HS.q1.keep H2.q4) HFT.out HM.p0 HM.q1 hres;clear hres;go_wp2_with fail;refine htv.mono ?_;rintro e w3 hD;clear htv m0 m1 m2 m3 m4 m5 m6
           rcases hD with ⟨hno,rfl,hb⟩ | ⟨t,vT,hyes,rfl,hT,hb⟩
           · as_aux_lemma=>
              have H3:=Yh5 (H2.p0.keep hb) (H2.p1.keep hb) (H2.p2.keep hb) (H2.p3.keep hb) (Yb H2.q4 hb);clear hb H2;have HS2:Hid (stX flags l (CA N r c (k+1))=(l2,ts,false)):=by rw [HNX.out];exact RU HST.out (HRES.out.trans hno)
              clear hno;unfold Ol;go_upto_region 11 with (fail)
              have hal:=Ya w3 (.cells #[.int .i64 0,.bool false,.bool false,.slice none 0 0,.slice none 0 0,.slice none 0 0,.bool false] 39);have H4:=Yh5 (H3.p0.keep hal) (H3.p1.keep hal) (H3.p2.keep hal) (H3.p3.keep hal) (Yb H3.q4 hal);clear hal H3;generalize w3.alloc _=W4 at H4 ⊢;go_wp2_with fail
              case roundEnd=>exact ⟨⟨k+1,_,rfl,by go_num,Yo,l2,ts,aA,ac,bA,bc,cA,cc,dA,dc,eA,ec,fA,fc,U,n,cp,rfl,HS2.out,H4.out⟩,by simp [intOf];omega⟩
           have HTC:Hid (t.col=(c:Int)/\t.up=up):=Nz (HRES.out.trans hyes);have HSZ:Hid (Sz 1000000000 t.v):=Ps (HRES.out.trans hyes) (LY H2.p0.lpv HFT.out HM.p0) HFT.out HM.p0 HM.q1;have HS2:Hid (stX flags l (CA N r c (k+1))=(Ce l2 c up (fq t.v),ts++[t],Co (Ce l2 c up (fq t.v)) c)):=by rw [HNX.out];exact Qb HST.out (HRES.out.trans hyes)
           clear hyes;obtain ⟨p,A,l_,k_,B,m_,d,U3,n3,cp3,rfl,hq,hub⟩:=hT;obtain ⟨tc,htc⟩:∃ x,x=t.col:=⟨_,rfl⟩;obtain ⟨tu,htu⟩:∃ x,x=t.up:=⟨_,rfl⟩;obtain ⟨tr,htr⟩:∃ x,x=t.rd:=⟨_,rfl⟩;rw [<- htc,<- htu,<- htr];have HTT:=Yh3 htc htu htr;clear htc htu htr;have H3:=Yh5 (H2.p0.keep hb) (H2.p1.keep hb) (H2.p2.keep hb) (H2.p3.keep hb) (Yb H2.q4 hb);have HQ:=Yh2 (hq.from H2.q4) (hub.from H2.q4);clear hb H2 hq hub;go_upto_region 11 with (fail)
           have hal:=Ya w3 (.cells #[.int .i64 tc,.bool tu,.bool p,.slice A l_ k_,.slice B m_ d,.slice U3 n3 cp3,.bool tr] 39);have H4:=Yh5 (H3.p0.keep hal) (H3.p1.keep hal) (H3.p2.keep hal) (H3.p3.keep hal) (Yb H3.q4 hal);have HQ4:=Yh3 (HQ.p0.keep hal) (HQ.q1.keep hal) (Bl.new w3 39 [.int .i64 tc,.bool tu,.bool p,.slice A l_ k_,.slice B m_ d,.slice U3 n3 cp3,.bool tr]);clear hal H3 HQ;generalize w3.heap.size=g11 at HQ4 ⊢;generalize w3.alloc _=W4 at H4 HQ4 ⊢;have m0:=Bl.ld H4.p1 0 rfl;have m1:=Bl.ld H4.p1 1 rfl;have m2:=Bl.ld H4.p1 2 rfl;have m3:=Bl.ld H4.p1 3 rfl;have m4:=Bl.ld H4.p1 4 rfl;have m5:=Bl.ld H4.p1 5 rfl;have m6:=Bl.ld H4.p1 6 rfl;have x0:=Bl.ld HQ4.q2 0 rfl;have x1:=Bl.ld HQ4.q2 1 rfl;have x2:=Bl.ld HQ4.q2 2 rfl;have x3:=Bl.ld HQ4.q2 3 rfl;have x4:=Bl.ld HQ4.q2 4 rfl;have x5:=Bl.ld HQ4.q2 5 rfl;have x6:=Bl.ld HQ4.q2 6 rfl;go_wp2_with fail;refine (GC (c:=c) (up:=up) (L:=1000000000) H4.p0.lpv HFT.out HRT.p0 HM.p0 HM.q1 (by rw [HRT.q2];have:=HN.p0;omega) (HQ4.p0.qv HSZ.out) Yd Yd).mono ?_;rintro e w5 ⟨xv,rfl,h5⟩;clear m0 x0 m1 x1 m2 x2 m3 x3 m4 x4 m5 x5 m6 x6;have hb:=h5.lpw.below;have HR5:Hid (AA (Ce l2 c up (fq t.v))/\(Ce l2 c up (fq t.v)).n=(N:Int)/\(Ce l2 c up (fq t.v)).cols.length=an):=by have h:=HR.out _ HPR.q1;rw [HS2.out] at h;exact h
           have HF5:Hid (Dl M (Ce l2 c up (fq t.v))):=by have h:=HRUN.out _ HPR.q1;rw [HS2.out] at h;exact h
           have hlo5:LPo w w5 V0 l xv (Ce l2 c up (fq t.v)):=⟨.inl (h5.lpw.from H4.q4),Yb H4.q4 hb⟩;obtain ⟨l5,hl5⟩:∃ x,x=Ce l2 c up (fq t.v):=⟨_,rfl⟩;rw [hl5.symm] at HS2 HR5 HF5 hlo5;clear h5 hl5;obtain ⟨aA5,ac5,bA5,bc5,cA5,cc5,dA5,dc5,eA5,ec5,fA5,fc5,rfl⟩:=hlo5.open HR5.q2 (by have h:=HR5.out;rw [<- h.2.2];exact h.1.1.2.2.2.2.1) (by have h:=HR5.out;rw [<- h.2.2];exact h.1.1.2.2.2.2.2.1) (by have h:=HR5.out;rw [<- h.2.2];exact h.1.1.2.2.1) (by have h:=HR5.out;rw [<- h.2.2];exact h.1.1.2.2.2.1) (by have h:=HR5.out;rw [<- h.2.2];exact h.1.1.2.2.2.2.2.2);rw [HR5.p1] at hlo5 ⊢;have Y:=H4.p1.keep hb;have f0:=Bl.fr Y 0;have f1:=Bl.fr Y 1;have f2:=Bl.fr Y 2;have f3:=Bl.fr Y 3;have f4:=Bl.fr Y 4;have f5:=Bl.fr Y 5;have f6:=Bl.fr Y 6;have r0:=Bl.ld Y 0 rfl;have r1:=Bl.ld Y 1 rfl;have r2:=Bl.ld Y 2 rfl;have r3:=Bl.ld Y 3 rfl;have r4:=Bl.ld Y 4 rfl;have r5:=Bl.ld Y 5 rfl;have r6:=Bl.ld Y 6 rfl;go_upto_region 13 with (fail)
           clear f0 r0 f1 r1 f2 r2 f3 r3 f4 r4 f5 r5 f6 r6;have kk:=fun T (h:26≠T)=>Y.keep7 h (.int .i64 (N:Int)) (.slice aA5 an ac5) (.slice bA5 an bc5) (.slice cA5 an cc5) (.slice dA5 an dc5) (.slice eA5 an ec5) (.slice fA5 an fc5);have hbz:=AJ (Yb H4.q4 hb) HG.p0 (.int .i64 (N:Int)) (.slice aA5 an ac5) (.slice bA5 an bc5) (.slice cA5 an cc5) (.slice dA5 an dc5) (.slice eA5 an ec5) (.slice fA5 an fc5);have H6:=Yh5 (hlo5.keepL kk hbz) (Y.set7 rfl (.int .i64 (N:Int)) (.slice aA5 an ac5) (.slice bA5 an bc5) (.slice cA5 an cc5) (.slice dA5 an dc5) (.slice eA5 an ec5) (.slice fA5 an fc5)) ((H4.p2.keep hb).other7 HG.q2 (.int .i64 (N:Int)) (.slice aA5 an ac5) (.slice bA5 an bc5) (.slice cA5 an cc5) (.slice dA5 an dc5) (.slice eA5 an ec5) (.slice fA5 an fc5)) ((H4.p3.keep hb).keepT (kk _ Yd) (kk _ Yd) (kk _ Yd) hbz) hbz;have HQ6:=Yh3 ((HQ4.p0.keep hb).keepT (kk _ Yd) hbz) ((HQ4.p1.keep hb).keepT (kk _ Yd) (kk _ Yd) hbz) ((kk _ Yd).bl (HQ4.q2.keep hb));clear hlo5 hb Y kk hbz H4 HQ4;unfold CD at H6 HQ6;generalize ((((((w5.setCell _ _).setCell _ _).setCell _ _).setCell _ _).setCell _ _).setCell _ _).setCell _ _=W6 at H6 HQ6 ⊢;obtain ⟨xs,hx1,hx2,-⟩:=id H6.p3
           have hxl:xs.length<=1048576:=by
            rw [hx2.1];have h1:=LL flags l (CA N r c k);rw [HST.out] at h1;have h2:=HPR.p0.length_le;rw [GQ] at h2;have h3:R*(N*2)<=14*(14*2):=UN (by have:=HN.out;omega) (UN (by have:=HN.out;omega) (TL 2));have h1:ts.length<=(CA N r c k).length:=h1;omega
           have HXS:=Yh3 hx1 hx2 hxl;clear hx1 hx2 hxl;have x0:=Bl.ld HQ6.q2 0 rfl;have x1:=Bl.ld HQ6.q2 1 rfl;have x2:=Bl.ld HQ6.q2 2 rfl;have x3:=Bl.ld HQ6.q2 3 rfl;have x4:=Bl.ld HQ6.q2 4 rfl;have x5:=Bl.ld HQ6.q2 5 rfl;have x6:=Bl.ld HQ6.q2 6 rfl;go_upto_region 14 with (at_builtin;refine IA (w0:=w) (f:=Km.cs) (x:=(⟨tc,tu,p,A,l_,k_,B,m_,d,U3,n3,cp3,tr⟩:Km)) Tryz.underlying50 EJ ⟨Yd,rfl,Yd⟩ Km.len Km.one rfl (.tmp 51) (.tmp 53) rfl rfl rfl (HXS.p0.keep (Ya _ _)) (Bl.new W6 _ _) HXS.q2 (Yb H6.q4 (Ya _ _)) ?_;intro u2 w7 k1 k2 k3 k4;obtain ⟨A2_,cp2_,hu2,-⟩:=Rr.shape k1;obtain ⟨n2_,hn2⟩:∃ n,(xs++[(⟨tc,tu,p,A,l_,k_,B,m_,d,U3,n3,cp3,tr⟩:Km)]).length=n:=⟨_,rfl⟩;rw [hn2] at hu2;subst hu2)
           have hbz:∀ T,39≠T->Ak T W6 w7:=fun T hT=>(Ak.below (Ya _ _)).trans (k3 T hT);have htg7:TgR w w7 (.slice A2_ n2_ cp2_) (ts++[t]):=⟨_,k1,(HXS.p1.imp fun x t ht=>⟨ht.1,ht.2.1,ht.2.2.1,ht.2.2.2.1.keepT (hbz _ Yd) k2,ht.2.2.2.2.keepT (hbz _ Yd) (hbz _ Yd) k2⟩).app ⟨HTT.p0,HTT.p1,HTT.q2,HQ6.p0.keepT (hbz _ Yd) k2,HQ6.p1.keepT (hbz _ Yd) (hbz _ Yd) k2⟩,k2⟩;have H7:=Yh5 (H6.p0.keepA hbz k2) ((hbz _ Yd).bl H6.p1) ((hbz _ Yd).bl H6.p2) htg7 k2;clear htg7 hbz k1 k2 k3 k4 HXS H6 HQ6 HTT x0 x1 x2 x3 x4 x5 x6;have m0:=Bl.ld H7.p1 0 rfl;have m1:=Bl.ld H7.p1 1 rfl;have m2:=Bl.ld H7.p1 2 rfl;have m3:=Bl.ld H7.p1 3 rfl;have m4:=Bl.ld H7.p1 4 rfl;have m5:=Bl.ld H7.p1 5 rfl;have m6:=Bl.ld H7.p1 6 rfl;obtain ⟨cx,hcx⟩:∃ b,Co l5 c=b:=⟨_,rfl⟩;have hcr:=Nh (c:=c) H7.p0.lpv HR5.p0 HF5.out (by rw [HR5.q2];have:=HN.p0;omega) HM.p0 HM.q1;rw [hcx] at hcr HS2;clear hcx;go_wp2_with fail;refine hcr.mono ?_;rintro e w8 ⟨rfl,hb⟩;clear hcr m0 m1 m2 m3 m4 m5 m6;have H8:=Yh5 (H7.p0.keep hb) (H7.p1.keep hb) (H7.p2.keep hb) (H7.p3.keep hb) (Yb H7.q4 hb);clear hb H7
           cases cx with
           | false=>
            as_aux_lemma=>
             go_wp2_with fail
             case roundEnd=>exact ⟨⟨k+1,_,rfl,by go_num,Yo,l5,ts++[t],aA5,ac5,bA5,bc5,cA5,cc5,dA5,dc5,eA5,ec5,fA5,fc5,A2_,n2_,cp2_,rfl,HS2.out,H8.out⟩,by simp [intOf];omega⟩
           | true=>
            as_aux_lemma=>
             have m0:=Bl.ld H8.p1 0 rfl;have m1:=Bl.ld H8.p1 1 rfl;have m2:=Bl.ld H8.p1 2 rfl;have m3:=Bl.ld H8.p1 3 rfl;have m4:=Bl.ld H8.p1 4 rfl;have m5:=Bl.ld H8.p1 5 rfl;have m6:=Bl.ld H8.p1 6 rfl;have Y:=H8.p2;have f0:=Bl.fr Y 0;have f1:=Bl.fr Y 1;have f2:=Bl.fr Y 2;have f3:=Bl.fr Y 3;have f4:=Bl.fr Y 4;have f5:=Bl.fr Y 5;have f6:=Bl.fr Y 6;have r0:=Bl.ld Y 0 rfl;have r1:=Bl.ld Y 1 rfl;have r2:=Bl.ld Y 2 rfl;have r3:=Bl.ld Y 3 rfl;have r4:=Bl.ld Y 4 rfl;have r5:=Bl.ld Y 5 rfl;have r6:=Bl.ld Y 6 rfl;go_wp2_with fail;clear m0 f0 r0 m1 f1 r1 m2 f2 r2 m3 f3 r3 m4 f4 r4 m5 f5 r5 m6 f6 r6;refine AP (Y.set7 rfl (.int .i64 (N:Int)) (.slice aA5 an ac5) (.slice bA5 an bc5) (.slice cA5 an cc5) (.slice dA5 an dc5) (.slice eA5 an ec5) (.slice fA5 an fc5)) (fun W2 hW=>by have d0:=hW 0 _ rfl;have d1:=hW 1 _ rfl;have d2:=hW 2 _ rfl;have d3:=hW 3 _ rfl;have d4:=hW 4 _ rfl;have d5:=hW 5 _ rfl;have d6:=hW 6 _ rfl;simp [results,Tryz.results91,go_sem,d0,d1,d2,d3,d4,d5,d6];try rfl) rfl ?_;have kk:=fun T (h:26≠T)=>Y.keep7 h (.int .i64 (N:Int)) (.slice aA5 an ac5) (.slice bA5 an bc5) (.slice cA5 an cc5) (.slice dA5 an dc5) (.slice eA5 an ec5) (.slice fA5 an fc5);have hbz:=AJ H8.q4 HG.p1 (.int .i64 (N:Int)) (.slice aA5 an ac5) (.slice bA5 an bc5) (.slice cA5 an cc5) (.slice dA5 an dc5) (.slice eA5 an ec5) (.slice fA5 an fc5);exact RB (by show stX flags l (CF l.n.toNat (l.cols.length - l.n.toNat))=_;rw [HT.out];exact (QY (by rw [HS2.out]) HPR.q1).trans HS2.out) rfl (H8.p0.keepL kk hbz) (H8.p3.keepT (kk _ Yd) (kk _ Yd) (kk _ Yd) hbz) hbz
        obtain rfl:k=2:=by omega
        have HE:Hid (PI w wr flags l V0 N an g2 g4 z5 (CA N r (c+1) 0)):=by have h:=Hk.out;rw [SQ] at h;exact h
        go_wp2_with fail
        case roundEnd=>exact ⟨⟨c+1,_,rfl,by go_num,Yo,HE.out⟩,by simp [intOf];omega⟩
     obtain rfl:c=N:=by omega
     have HE:Hid (PI w wr flags l V0 c an g2 g4 z5 (CA c (r+1) 0 0)):=by have h:=Hc.out;rw [RY] at h;rw [PT];exact h
     go_wp2_with fail
     case roundEnd=>exact ⟨⟨r+1,_,rfl,by go_num,Yo,HE.out⟩,by simp [intOf];omega⟩
  obtain rfl:r=R:=by omega
  obtain ⟨l2,ts,aA,ac,bA,bc,cA,cc,dA,dc,eA,ec,fA,fc,U,n,cp,rfl,hst,hlpo,hbl,hres,htg,hbw⟩:=Hr.out;have HST:=Lib.hid hst;clear hst Hr;have H1:=Yh5 hlpo hbl hres htg hbw;clear hlpo hbl hres htg hbw;have m0:=Bl.ld H1.p1 0 rfl;have m1:=Bl.ld H1.p1 1 rfl;have m2:=Bl.ld H1.p1 2 rfl;have m3:=Bl.ld H1.p1 3 rfl;have m4:=Bl.ld H1.p1 4 rfl;have m5:=Bl.ld H1.p1 5 rfl;have m6:=Bl.ld H1.p1 6 rfl;have Y:=H1.p2;have f0:=Bl.fr Y 0;have f1:=Bl.fr Y 1;have f2:=Bl.fr Y 2;have f3:=Bl.fr Y 3;have f4:=Bl.fr Y 4;have f5:=Bl.fr Y 5;have f6:=Bl.fr Y 6;have r0:=Bl.ld Y 0 rfl;have r1:=Bl.ld Y 1 rfl;have r2:=Bl.ld Y 2 rfl;have r3:=Bl.ld Y 3 rfl;have r4:=Bl.ld Y 4 rfl;have r5:=Bl.ld Y 5 rfl;have r6:=Bl.ld Y 6 rfl;go_wp2_with fail;clear m0 f0 r0 m1 f1 r1 m2 f2 r2 m3 f3 r3 m4 f4 r4 m5 f5 r5 m6 f6 r6;refine AP (Y.set7 rfl (.int .i64 (N:Int)) (.slice aA an ac) (.slice bA an bc) (.slice cA an cc) (.slice dA an dc) (.slice eA an ec) (.slice fA an fc)) (fun W2 hW=>by have d0:=hW 0 _ rfl;have d1:=hW 1 _ rfl;have d2:=hW 2 _ rfl;have d3:=hW 3 _ rfl;have d4:=hW 4 _ rfl;have d5:=hW 5 _ rfl;have d6:=hW 6 _ rfl;simp [results,Tryz.results91,go_sem,d0,d1,d2,d3,d4,d5,d6];try rfl) rfl ?_;have kk:=fun T (h:26≠T)=>Y.keep7 h (.int .i64 (N:Int)) (.slice aA an ac) (.slice bA an bc) (.slice cA an cc) (.slice dA an dc) (.slice eA an ec) (.slice fA an fc);have hbz:=AJ H1.q4 HG.p1 (.int .i64 (N:Int)) (.slice aA an ac) (.slice bA an bc) (.slice cA an cc) (.slice dA an dc) (.slice eA an ec) (.slice fA an fc);exact RB (by show stX flags l (CF l.n.toNat (l.cols.length - l.n.toNat))=_;rw [HT.out,<- PT];exact HST.out) rfl (H1.p0.keepL kk hbz) (H1.p3.keepT (kk _ Yd) (kk _ Yd) (kk _ Yd) hbz) hbz
end
end Go.Proofs.YtlblnmmfphiobaaGreat
