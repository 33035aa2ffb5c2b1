import Derived.Test.YtlblnmmfphiobaaGreatPNA4
import Derived.StillTail
import Derived.StillTactics
import Derived.StillTailTactics
import Derived.Lib.ItoaNum
import Derived.Lib.SlTrimSet
import Derived.Lib.Join
import Derived.Lib.ItoaMem
import Derived.Lib.Repeat
import Derived.Shelf.Strconv.Itoa3
import Derived.Lib.AppendIntMem
import Derived.Shelf.Strings.SlTrimAscii
set_option maxRecDepth 100000
set_option maxHeartbeats 8000000
set_option linter.unusedVariables false
set_option linter.unusedSimpArgs false
namespace Go.Proofs.YtlblnmmfphiobaaGreat
section
open Go Go.RowKit Go.Proofs Pl
theorem K5 {Q:List Nat} {n:Nat} (hQ:All WB Q) (hl:Q.length=n) (hn:2<=n) (hge:WB ^ (n - 1)<=val WB Q):
 ∃ s:Nat,s<64/\(∀ w:World,Calls Tryz.prog 244 #[.int .u64 (atD Q (n - 1):Int)] w fun e w'=>e=.returned (.int .i64 (s:Int))/\w=w')/\
  val WB Q*2 ^ s<WB ^ n/\WB ^ (n - 1)*WB<=2*(val WB Q*2 ^ s):=by
 have e:=AC WB Q (n - 1) Yo;have hd:=BJ WB Q (n - 1) Yo;rw [show n - 1+1=n from by omega,show Q.drop n=[] from UI (by omega),De,UQ,UE] at hd;rw [hd] at e;have hlt:=Ea (B:=WB) hQ (m:=n - 1) Yo;have htW:atD Q (n - 1)<WB:=LN hQ Ay _;obtain ⟨t,ht⟩:∃ t,t=atD Q (n - 1):=⟨_,rfl⟩;rw [<- ht] at e htW ⊢;have ht0:t≠0:=by rintro rfl;rw [UQ] at e;omega
 rw [BO] at htW;obtain ⟨b1,b2,b3⟩:=DW 64 t htW (TL _);obtain ⟨b4,b5⟩:=b3 ht0;obtain ⟨k,hk⟩:∃ k,k=Lib.bitLen t:=⟨_,rfl⟩;rw [<- hk] at b1 b2 b4 b5;have e64:WB=2 ^ k*2 ^ (64 - k):=by rw [BO,<- UF];congr 1;omega
 have hps:0<2 ^ (64 - k):=Ve Yd;have hB:0<WB ^ (n - 1):=Ve Ay;refine ⟨64 - k,Yo,?_,?_,?_⟩
 · intro w;refine (Tryz.bits_LeadingZeros64 (t:Int) w Yo Yo).mono fun e w' ⟨a,b⟩=>⟨?_,b.symm⟩;rw [a,Vy,<- hk]
   congr 2;omega
 · have h1:val WB Q<WB ^ (n - 1)*2 ^ k:=by
    have:WB ^ (n - 1)*(t+1)<=WB ^ (n - 1)*2 ^ k:=TY _ b1;rw [T9,Vk] at this;omega
   have h2:WB ^ n=WB ^ (n - 1)*2 ^ k*2 ^ (64 - k):=by
    rw [Uf,<- e64,<- UD];congr 1;omega
   rw [h2];exact Nat.mul_lt_mul_of_pos_right h1 hps
 · have h1:WB ^ (n - 1)*2 ^ (k - 1)<=val WB Q:=by
    have:WB ^ (n - 1)*2 ^ (k - 1)<=WB ^ (n - 1)*t:=TY _ b5;omega
   have h2:2 ^ k=2 ^ (k - 1)*2:=by rw [<- UD];congr 1;omega
   have e65:WB ^ (n - 1)*WB=2*(WB ^ (n - 1)*2 ^ (k - 1)*2 ^ (64 - k)):=by
    generalize WB ^ (n - 1)=X;rw [e64,h2];rw [Nat.mul_right_comm (2 ^ (k - 1)) 2,TX 2,Uf,Uf,Uf]
   rw [e65];exact TY _ (TW _ h1)
theorem IJ {n D:Nat} (hn:2<=n) (h1:D<WB ^ n) (h2:WB ^ (n - 1)*WB<=2*D):
 (dg WB D).length=n/\0<D/\WB<=2*atD (dg WB D) (n - 1)+2/\0<atD (dg WB D) (n - 1):=by
 have hB:0<WB ^ (n - 1):=Ve Ay;have hle:=Au Aw h1;have hB2:2<=WB:=Aw
 have hge:WB ^ (n - 1)<=D:=by
  have:WB ^ (n - 1)*2<=WB ^ (n - 1)*WB:=TY _ hB2;omega
 have hl:(dg WB D).length=n:=by
  rcases Ul (dg WB D).length n with h | h
  · have:=Cj Aw (n:=D) (k:=n - 1) Yo;omega
  · omega
 have e:=AC WB (dg WB D) (n - 1) Yo;have hd:=BJ WB (dg WB D) (n - 1) Yo;rw [show n - 1+1=n from by omega,show (dg WB D).drop n=[] from UI (by omega),De,UQ,UE] at hd;rw [hd,AR Aw] at e;have hlt:=Ea (B:=WB) (FN Ay D) (m:=n - 1) Yo
 have hn1:WB<2*atD (dg WB D) (n - 1)+2:=by
  refine Nat.lt_of_mul_lt_mul_left (a:=WB ^ (n - 1)) ?_
  have:WB ^ (n - 1)*(2*atD (dg WB D) (n - 1)+2)=2*(WB ^ (n - 1)*atD (dg WB D) (n - 1))+2*WB ^ (n - 1):=by
   rw [T9,VK,TX 2 (WB ^ (n - 1))]
  omega
 refine ⟨hl,Yo,Yo,?_⟩
 rcases TQ (atD (dg WB D) (n - 1)) with h | h
 · rw [h] at hn1;omega
 · exact h
end
section
open Go Go.RowKit Go.Proofs Pl
theorem G4 {xs:List Nat} {m j:Nat} (h:j<m):atD (xs.take m) j=atD xs j:=by
 simp [atD,TS,h]
theorem Ow.cell_of {w:World} {B g n c:Nat} {xs:List Nat} (h:Ow w B (.slice (some ⟨g,0,none⟩) n c) xs) {j:Nat} (hj:j<xs.length):w.cell? ⟨g,j,none⟩=some (.int .u64 (atD xs j:Int)):=by
 obtain ⟨g',hg,-,-,-,-,-,hcs,-⟩:=h.at_ hj;injection hg with hg
 injection hg with hg
 subst hg;exact hcs _ _ (AD hj)
theorem Rd.cell_of {w:World} {b:Nat} {xs:List Nat} (h:Rd w (some ⟨b,0,none⟩) xs) {j:Nat} (hj:j<xs.length):w.cell? ⟨b,j,none⟩=some (.int .u64 (atD xs j:Int)):=by
 obtain ⟨b',o',hg,hcs⟩:=h.at_ hj;injection hg with hg
 injection hg with h1 h2
 subst h1;subst h2;have:=hcs _ _ (AD hj)
 rwa [Vw] at this
theorem BU (n:Nat) (h:n<9223372036854775808):IntKind.i64.wrap (n:Int)=(n:Int):=by rw [IntKind.wrap_i64];omega
theorem KO {us V:List Nat} {k m D:Nat} (hus:All WB us) (hl:k+m+3<=us.length) (hV:V.length=m+2) (hVa:All WB V) (hVv:val WB V=D) (hD:D<WB ^ (m+2)) (hv2:WB<=2*atD V (m+1)+2) (hv3:0<atD V (m+1)) (h2:val WB (us.drop (k+1))<D):
 (CI (atD us (k+m+2)) (atD us (k+m+1)) (atD us (k+m)) (atD V (m+1)) (atD V m)=val WB ((us.drop k).take (m+3)) / D∨
  CI (atD us (k+m+2)) (atD us (k+m+1)) (atD us (k+m)) (atD V (m+1)) (atD V m)=val WB ((us.drop k).take (m+3)) / D+1)/\
 CI (atD us (k+m+2)) (atD us (k+m+1)) (atD us (k+m)) (atD V (m+1)) (atD V m)<WB/\
 ((us.drop k).take (m+3)).length=m+3/\us=us.take k++(us.drop k).take (m+3)++us.drop (k+m+3):=by
 have hla:((us.drop k).take (m+3)).length=m+3:=by rw [TU,UJ];omega
 obtain ⟨w1,w2,w3⟩:=Lo (n:=m+2) Ay hus Yo h2 hD;have hVe:=Sc WB hV;have hUe:=Pd WB hla;rw [G4 (by omega),G4 (by omega),G4 (by omega),GX,GX,GX,<- Vc,<- Vc] at hUe;rw [hVv] at hVe;have hall:All WB ((us.drop k).take (m+3)):=(hus.drop k).take _;have r:=IG (B:=WB) (P:=WB ^ m) (g:=CI (atD us (k+m+2)) (atD us (k+m+1)) (atD us (k+m)) (atD V (m+1)) (atD V m)) hVe (Ea hVa Yo) hUe (Ea hall Yo) (AW hVa _) (AW hus _) (AW hus _) hv3 hv2 Aw w2 rfl;refine ⟨r.1,r.2,hla,?_⟩
 conv=>lhs;rw [<- Us k us,<- Us (m+3) (us.drop k),VG]
 rw [TR,Vc]
end
section
open Go Go.RowKit Go.Proofs Pl
def Gz (B0 gw cw la1 k D U0 qd:Nat) (qs:List Nat) (W w':World):Prop:=
 ∃ us':List Nat,us'.length=la1/\Ow w' B0 (.slice (some ⟨gw,0,none⟩) la1 cw) us'/\(val WB us'+WB ^ k*(D*val WB ((qs.set k qd).drop k))=U0/\val WB (us'.drop k)<D)/\W.grownBy w' (some gw)
theorem Ng {n n1 m k N la1 cw:Nat} (hn1:n1=n - 1) (hm:n=m+2) (hk:k+1<=N) (hN:N=la1 - n) (hla:la1<=274877906945) (hcw:la1<=cw):
 ∃ i1 i2 i3 i4 L:Nat,(i1=k+m+2/\i2=k+m+1/\i3=k+m/\i4=k+m+3/\L=m+3/\n1=m+1/\i4<=la1/\k+L=i4)/\
  (((k+1:Nat):Int) - 1=(k:Int)/\(k:Int)+(n:Int)=(i1:Int)/\(i1:Int)+1=(i4:Int)/\(i1:Int) - 1=(i2:Int)/\(i1:Int) - 2=(i3:Int)/\(n:Int) - 1=(n1:Int)/\(n:Int) - 2=(m:Int))/\
  (i1<274877906950/\i2<274877906950/\i3<274877906950/\i4<274877906950/\n1<274877906950/\m<274877906950)/\
  (i1<la1/\i2<la1/\i3<la1/\i4<=cw/\k<=i4/\m<n/\n1<n/\k<N/\i4 - k=L/\¬ cw=k):=
 ⟨k+m+2,k+m+1,k+m,k+m+3,m+3,⟨rfl,rfl,rfl,rfl,rfl,Yo,Yo,Yo⟩,⟨Yo,Yo,Yo,Yo,Yo,Yo,Yo⟩,⟨Yo,Yo,Yo,Yo,Yo,Yo⟩,⟨Yo,Yo,Yo,Yo,Yo,Yo,Yo,Yo,Yo,Yo⟩⟩
theorem Kr {wr:World} {B0 gw cw la1 gv cv n n1 m N D U0 k i1 i2 i3 i4 L:Nat} {us qs V:List Nat} (hnum:i1=k+m+2/\i2=k+m+1/\i3=k+m/\i4=k+m+3/\L=m+3/\n1=m+1/\i4<=la1/\k+L=i4) (hm:n=m+2) (hkN:k<N)
 (hO:Ow wr B0 (.slice (some ⟨gw,0,none⟩) la1 cw) us) (hl1:us.length=la1) (hl2:qs.length=N) (hv1:val WB us+WB ^ (k+1)*(D*val WB (qs.drop (k+1)))=U0) (hv2:val WB (us.drop (k+1))<D)
 (hrv:Rd wr (some ⟨gv,0,none⟩) V) (hVv:val WB V=D) (hVl:V.length=n) (hV2:WB<=2*atD V n1+2) (hV3:0<atD V n1) (hD1:D<WB ^ n) (hD0:0<D)
 (hcw:la1<=cw) (hcw2:cw<=9223372036854775807) (hcv:n<=cv) (hcv2:cv<=9223372036854775807) (hne:gv≠gw):
 ∃ G qd:Nat,(wr.cell? ⟨gw,i1,none⟩=some (.int .u64 (atD us i1:Int))/\wr.cell? ⟨gw,i2,none⟩=some (.int .u64 (atD us i2:Int))/\wr.cell? ⟨gw,i3,none⟩=some (.int .u64 (atD us i3:Int))/\
     wr.cell? ⟨gv,n1,none⟩=some (.int .u64 (atD V n1:Int))/\wr.cell? ⟨gv,m,none⟩=some (.int .u64 (atD V m:Int)))/\qd<WB/\
  (∀ W:World,Calls Tryz.prog 247 #[.int .u64 (atD us i1:Int),.int .u64 (atD us i2:Int),.int .u64 (atD us i3:Int),.int .u64 (atD V n1:Int),.int .u64 (atD V m:Int)] W fun e w'=>e=.returned (.int .u64 (G:Int))/\∃ q,w'=W.drewN q)/\
  (∀ W:World,(∃ j,W=wr.drewN j)->Calls Tryz.prog 246 #[.slice (some ⟨gw,k,none⟩) L (cw - k),.slice (some ⟨gv,0,none⟩) n cv,.int .u64 (G:Int)] W fun e w'=>e=.returned (.int .u64 (qd:Int))/\Gz B0 gw cw la1 k D U0 qd qs wr w'):=by
 obtain ⟨h1,h2,h3,h4,h5,h6,h7,h8⟩:=hnum;subst h1;subst h2;subst h3;subst h4;subst h5;subst h6;subst hm;obtain ⟨g1,g2,g3,g4⟩:=KO (D:=D) hO.1 (k:=k) Yo hVl hrv.1 hVv hD1 hV2 hV3 hv2;have hgs:=Nc (atD us (k+m+2)) (atD us (k+m+1)) (atD us (k+m)) (atD V (m+1)) (atD V m);obtain ⟨G,hG⟩:∃ G,G=CI (atD us (k+m+2)) (atD us (k+m+1)) (atD us (k+m)) (atD V (m+1)) (atD V m):=⟨_,rfl⟩;rw [<- hG] at g1 g2 hgs;obtain ⟨a0,ha0⟩:∃ a0,a0=(us.drop k).take (m+3):=⟨_,rfl⟩;rw [<- ha0] at g1 g3 g4;have hLA:(us.take k).length=k:=by rw [TU];omega
 refine ⟨G,val WB a0 / D,⟨hO.cell_of Yo,hO.cell_of Yo,hO.cell_of Yo,hrv.cell_of Yo,hrv.cell_of Yo⟩,Yo,fun W=>hgs W hV3 (AW hrv.1 _) (AW hrv.1 _) (AW hO.1 _) (AW hO.1 _),?_⟩;rintro W ⟨j,rfl⟩;have hO':Ow wr B0 (.slice (some ⟨gw,0,none⟩) la1 cw) (us.take k++a0++us.drop (k+m+3)):=by rw [<- g4];exact hO
 have htk:=JC gw k (cw - k) la1 cw B0 gv 0 cv G (us.take k) a0 (us.drop (k+m+3)) V (wr.drewN j) (hO'.drewN j) hLA (by rw [g3,hVl]) (by rw [g3];omega) (by unfold maxLen;omega) (hrv.drewN j) hne (by rw [hVl];exact hcv) (by unfold maxLen;omega) g2 (by rw [hVv];exact hD0) (by rw [hVv];exact g1);rw [hVv,hVl,g3] at htk;refine htk.mono ?_;rintro e w' ⟨he,⟨a',hl,hva,hOa⟩,hgr⟩;have st:=Mj (B:=WB) (D:=D) (us:=us) (qs:=qs) (a':=a') (i:=k) (n:=m+2) (U0:=U0) Ay hO.1 Yo Yo hv1 hv2 hD1 Yo (by rw [hva,ha0]);refine ⟨he,us.take k++a'++us.drop (k+m+3),?_,hOa,?_,⟨hgr.os,hgr.tape,hgr.output,hgr.size,hgr.block⟩⟩
 · rw [TM,TM,hLA,UJ];omega
 · rw [ha0];exact st
theorem GG {W w':World} {b gw n c B0:Nat} {xs:List Nat} (h:Ow W B0 (.slice (some ⟨b,0,none⟩) n c) xs) (hg:W.grownBy w' (some gw)) (hne:b≠gw):Ow w' B0 (.slice (some ⟨b,0,none⟩) n c) xs:=
 ⟨h.1,h.2.kept hg (.inr (fun e=>hne (by simpa [Value.ownBlock] using e)))⟩
theorem KY {B0 gw cw la1 k D U0 qd b N Bq:Nat} {qs:List Nat} {W w':World} (h:Gz B0 gw cw la1 k D U0 qd qs W w') (hq:Ow W Bq (.slice (some ⟨b,0,none⟩) N N) qs) (hl:qs.length=N) (hne:gw<b) (hk:k<N):
 w'.cell? ⟨b,k,none⟩=some (.int .u64 (atD qs k:Int))/\w'.frozen? ⟨b,k,none⟩=false:=by
 obtain ⟨us',-,-,-,hg⟩:=h;have h1:=GG hq hg (Nat.ne_of_gt hne);obtain ⟨g',hg',-,-,-,-,-,-,hfr⟩:=h1.at_ (j:=k) Yo;injection hg' with hg'
 injection hg' with hg'
 subst hg';exact ⟨h1.cell_of Yo,hfr k⟩
theorem Pz {gw cw la1 k D U0 qd b N gv:Nat} {qs V:List Nat} {w1 wr w5:World} (h:Gz w1.heap.size gw cw la1 k D U0 qd qs wr w5) (hq:Ow wr b (.slice (some ⟨b,0,none⟩) N N) qs) (hl:qs.length=N) (hk:k<N) (hqW:qd<WB)
 (hrv:Rd wr (some ⟨gv,0,none⟩) V) (hbw:Yg w1 wr) (h1:gv<w1.heap.size) (h2:gw<b) (h3:w1.heap.size<=gw):
 ∃ us':List Nat,(us'.length=la1/\(qs.set k qd).length=N)/\Ow (w5.setCell ⟨b,k,none⟩ (.int .u64 (qd:Int))) w1.heap.size (.slice (some ⟨gw,0,none⟩) la1 cw) us'/\
  Ow (w5.setCell ⟨b,k,none⟩ (.int .u64 (qd:Int))) b (.slice (some ⟨b,0,none⟩) N N) (qs.set k qd)/\(val WB us'+WB ^ k*(D*val WB ((qs.set k qd).drop k))=U0/\val WB (us'.drop k)<D)/\
  Rd (w5.setCell ⟨b,k,none⟩ (.int .u64 (qd:Int))) (some ⟨gv,0,none⟩) V/\Yg w1 (w5.setCell ⟨b,k,none⟩ (.int .u64 (qd:Int))):=by
 obtain ⟨us',hl',hO,hv,hg⟩:=h;have hs:=Lib.grownBy_setCell w5 b k (.int .u64 (qd:Int));have hb5:Yg w1 w5:=hbw.grown hg hbw.size (fun j hj=>by injection hj with hj;subst hj;exact h3);refine ⟨us',⟨hl',by rw [Uh];exact hl⟩,GG hO hs Yo,(GG hq hg Yo).set_ hl.symm hqW,hv,(hrv.far hg Yo).far hs Yo,?_⟩;exact hb5.grown hs hb5.size (fun j hj=>by injection hj with hj;subst hj;omega)
theorem MF {us qs:List Nat} {D U0 a b s:Nat} (hqs:All WB qs) (hv:val WB us+WB ^ 0*(D*val WB (qs.drop 0))=U0/\val WB (us.drop 0)<D) (hU:U0=a*2 ^ s) (hD:D=b*2 ^ s) (hD0:0<D):
 strip qs=dg WB (a / b)/\val WB us / 2 ^ s=a % b:=by
 have hps:0<2 ^ s:=Ve Yd
 have hb:0<b:=by
  rcases TQ b with h | h
  · rw [hD,h,Wk] at hD0;omega
  · exact h
 obtain ⟨e1,e2⟩:=PZ hps hb hv.1 hv.2 hU hD;exact ⟨by rw [AB Aw hqs,e1],by rw [e2,Nat.mul_div_cancel _ hps]⟩
end
section
open Go
section
variable {P:Program} {ops:Array Oper} {md:Region.Mode} {w:World}
def I6 (ops:Array Oper):List Nat->List Oper->Prop
 | [],[]=>True
 | i::is,o::os=>ops[i]?=some o/\I6 ops is os
 | _,_=>False
def EU (md:Region.Mode) (ops:Array Oper):List Nat->Array Bool->Bool
 | [],L=>(Region.ready md ops L).isEmpty
 | t::ts,L=>decide (Region.ready md ops L=[t]) && EU md ops ts (L.setIfInBounds t true)
def Iz (md:Region.Mode) (ops:Array Oper) (n:Nat) (ts:List Nat):List Nat->Array Bool->Bool
 | [],L=>EU md ops ts L
 | i::is,L=>decide (i<n) && (Region.ready md ops L).contains i && Region.free md ops L i && Iz md ops n ts is (L.setIfInBounds i true)
def GL (md:Region.Mode) (ops:Array Oper) (n:Nat) (L0:Array Bool):Bool:=
 ((List.range n).all fun i=>L0.getD i false || (List.range (n+1)).any fun j=>decide (i<j) && !L0.getD j true && Region.waitsFor md ops j i) &&
 ((List.range ops.size).all fun t=>decide (t<=n) || L0.getD t false || (List.range t).any fun s=>decide (n<=s) && !L0.getD s true && Region.waitsFor md ops t s) &&
 decide (n<ops.size) && !L0.getD n true
def LD (md:Region.Mode) (ops:Array Oper) (L:Array Bool):Bool:=
 decide (L.size=ops.size) && (List.range ops.size).all fun j=>!L.getD j false || match ops[j]? with
  | some o=>o.after.all fun e=>!Region.binds md e || L.getD e.on false
  | none=>true
structure EV (md:Region.Mode) (ops:Array Oper) (n:Nat) (L0 L:Array Bool):Prop where
 size:L.size=ops.size
 closed:∀ j o,ops[j]?=some o->L.getD j false=true->∀ e∈o.after,Region.binds md e=true->L.getD e.on false=true
 above:∀ t,n<=t->t<ops.size->L0.getD t false=false->L.getD t true=false
theorem EV.step {n i:Nat} {L0 L:Array Bool} (h:EV md ops n L0 L) (hi:i∈Region.ready md ops L) (hn:i<n):EV md ops n L0 (L.setIfInBounds i true) where
 size:=by rw [Array.size_setIfInBounds];exact h.size
 closed:=by
  intro j o hj hl e he hb;refine getD_set_true ?_;by_cases hij:i=j
  · obtain ⟨_,o',ho',hall⟩:=mem_ready.1 hi;rw [hij] at ho';rw [Option.some.inj (hj.symm.trans ho')] at he;exact hall e he hb
  · exact h.closed j o hj (by rwa [getD_set_ne false hij] at hl) e he hb
 above:=fun t ht ht' hl=>by rw [getD_set_ne true (by omega)];exact h.above t ht ht' hl
theorem D9 {L:Array Bool} {i:Nat} (h:L.getD i true=false):L.getD i false=false:=getD_both h
theorem DH {L:Array Bool} {t s:Nat} (hw:Region.waitsFor md ops t s=true) (hs:L.getD s true=false):t ∉ Region.ready md ops L:=by
 intro hr;obtain ⟨_,o,ho,hall⟩:=mem_ready.1 hr;obtain ⟨o',ho',e,he,hb,hon⟩:=Region.waitsFor_spec hw;rw [Option.some.inj (ho'.symm.trans ho)] at he;have:=hall e he hb;rw [hon,D9 hs] at this
 cases this
theorem J8 {L:Array Bool} {n t s:Nat} {L0:Array Bool} (h:EV md ops n L0 L) (hw:Region.waitsFor md ops t s=true) (hs:L.getD s true=false) (ht:t<ops.size):L.getD t true=false:=by
 cases hl:L.getD t false with
 | false=>exact getD_in (by rw [h.size];exact ht) hl
 | true=>
  obtain ⟨o',ho',e,he,hb,hon⟩:=Region.waitsFor_spec hw;have:=h.closed t o' ho' hl e he hb;rw [hon,D9 hs] at this
  cases this
theorem RH {n:Nat} {L0 L:Array Bool} (hS:GL md ops n L0=true) (h:EV md ops n L0 L) (hL:∀ j,L0.getD j false=true->L.getD j false=true):
 ∀ (d i:Nat),n - i=d->i<n->L.getD i true=false->n ∉ Region.ready md ops L:=by
 intro d
 induction d using Nat.strongRecOn with
 | _ d ih=>
  intro i hd hi hun;simp only [GL,TZ,decide_eq_true_eq] at hS;have h1:=UO.1 hS.1.1.1 i (UY.2 hi)
  rcases Wb _ _ ▸ h1 with h1 | h1
  · have:=hL i h1;rw [D9 hun] at this
    cases this
  · obtain ⟨j,hj,hj2⟩:=VE.1 h1;simp only [TZ,decide_eq_true_eq] at hj2;have hjn:j<=n:=by have:=UY.1 hj;omega
    rcases Ul j n with hlt | hge
    · exact ih (n - j) Yo j rfl hlt (J8 h hj2.2 hun Yo)
    · have:j=n:=by omega
      subst this;exact DH hj2.2 hun
theorem Ju {n:Nat} {L0 L:Array Bool} (hS:GL md ops n L0=true) (h:EV md ops n L0 L) (hL:∀ j,L0.getD j false=true->L.getD j false=true) {i:Nat} (hi:i<n) (hun:L.getD i true=false):
 ∀ j∈Region.ready md ops L,j<n:=by
 intro j hj
 rcases Ul j n with hlt | hge
 · exact hlt
 exfalso;obtain ⟨hju,o,ho,_⟩:=mem_ready.1 hj;have hjs:j<ops.size:=(Array.getElem?_eq_some_iff.1 ho).1;by_cases hjn:j=n
 · subst hjn;exact RH hS h hL _ i rfl hi hun hj
 · have hS':=hS;simp only [GL,TZ,decide_eq_true_eq] at hS';have h1:=UO.1 hS'.1.1.2 j (UY.2 hjs);simp only [Wb,decide_eq_true_eq] at h1
   rcases h1 with (h1 | h1) | h1
   · omega
   · have:=hL j h1;rw [D9 hju] at this
     cases this
   · obtain ⟨s,hs,hs2⟩:=VE.1 h1;simp only [TZ,decide_eq_true_eq,Vp] at hs2;have hss:=UY.1 hs;exact DH hs2.2 (h.above s hs2.1.1 Yo (D9 hs2.1.2)) hj
theorem J7 {n i:Nat} {oi:Oper} {v:Value} {R:Array Bool->Act->Prop} {L0:Array Bool} (hi:ops[i]?=some oi) (hsel:Region.noSelect ops=true) (hS:GL md ops n L0=true) (hin:i<n)
 (hR:∀ L a,R L a->∀ j∈Region.ready md ops L,n<=j):
 ∀ (f:Nat) (L:Array Bool) (a:Act),EV md ops n L0 L->(∀ j,L0.getD j false=true->L.getD j false=true)->
  (∀ j oj,ops[j]?=some oj->j≠i->L.getD j true=false->(∀ e∈oj.after,Region.binds md e=true->e.on≠i)->oi.apart ops oj=true)->
  i∈Region.ready md ops L->YieldsAt P ops w oi v a->
  wpAnyL P md ops w n R f (L.setIfInBounds i true) (a.put oi.dst v)->wpAnyL P md ops w n R (f+1) L a:=by
 intro f
 induction f with
 | zero=>
  intro L a hE hL _ hr hy H;refine ⟨List.ne_nil_of_mem hr,fun j hj=>?_⟩;have hlt:=Ju hS hE hL hin (mem_ready.1 hr).1 j hj
  rcases Decidable.em (j=i) with rfl | hne
  · exact ⟨hlt,hy.stOp hi H⟩
  · exact absurd (hR _ _ H j (ready_mono hj hne)) Yo
 | succ f ih=>
  intro L a hE hL hfree hr hy H;refine ⟨List.ne_nil_of_mem hr,fun j hj=>?_⟩;have hlt:=Ju hS hE hL hin (mem_ready.1 hr).1 j hj
  rcases Decidable.em (j=i) with rfl | hne
  · exact ⟨hlt,hy.stOp hi H⟩
  refine ⟨hlt,?_⟩;have h1:=(H.2 j (ready_mono hj hne)).2;obtain ⟨hju,oj,hoj,hall⟩:=mem_ready.1 hj
  have hno:∀ e∈oj.after,Region.binds md e=true->e.on≠i:=by
   intro e he hb heq;have:=hall e he hb;rw [heq,D9 (mem_ready.1 hr).1] at this
   cases this
  have h2:=stOp_put hoj (hfree j oj hoj hne hju hno) (fun cs b=>Region.noSelect_spec hsel i oi cs b hi) (fun cs b=>Region.noSelect_spec hsel j oj cs b hoj) hy h1;refine stOp_mono (fun a' h3=>?_) h2;refine ih _ a' (hE.step hj hlt) (fun k hk=>getD_set_true (hL k hk)) ?_ (ready_mono hr (Ne.symm hne)) h3.1 ?_
  · intro k ok hk hki hun hno';refine hfree k ok hk hki ?_ hno'
    rcases Decidable.em (j=k) with rfl | hjk
    · exact hju
    · rwa [getD_set_ne true hjk] at hun
  · rw [Array.setIfInBounds_comm _ _ hne];exact h3.2
theorem K0 {n:Nat} {ts:List Nat} (hts:∀ t∈ts,n<=t) {L:Array Bool} (h:EU md ops ts L=true):∀ j∈Region.ready md ops L,n<=j:=by
 intro j hj
 cases ts with
 | nil=>rw [EU,List.isEmpty_iff] at h;rw [h] at hj;cases hj
 | cons t ts=>
  simp only [EU,TZ,decide_eq_true_eq] at h;rw [h.1] at hj;rw [Uj.1 hj];exact hts t (by simp)
theorem Ho {Q:Exit->Act->World->Prop}:∀ (ts:List Nat) (tl:List Oper) (L:Array Bool) (a:Act) (w:World),I6 ops ts tl->EU md ops ts L=true->wpList P ops Q tl a w->wpAny P md ops Q ts.length L a w
 | [],[],L,a,w,_,hB,h=>⟨by simpa [EU] using hB,h⟩
 | t::ts,o::tl,L,a,w,hN,hB,h=>by
  obtain ⟨ho,hN⟩:=hN;simp only [EU,TZ,decide_eq_true_eq] at hB;refine ⟨fun h1=>absurd (hB.1.symm.trans h1) (by simp),fun i hi=>?_⟩;rw [hB.1] at hi;obtain rfl:=Uj.1 hi;have hw:wpOp P ops Q i (wpList P ops Q tl) a w:=by unfold wpOp;simp only [ho];exact h
  exact wpOp_mono (fun a' w' h'=>Ho ts tl _ a' w' hN hB.2 h') hw
 | [],_::_,_,_,_,hN,_,_=>hN.elim
 | _::_,[],_,_,_,hN,_,_=>hN.elim
theorem Gm {n:Nat} {ts:List Nat} (hts:∀ t∈ts,n<=t) {R:Act->Prop} {L0:Array Bool} (hsel:Region.noSelect ops=true) (hS:GL md ops n L0=true):
 ∀ (is:List Nat) (hl:List Oper) (L:Array Bool) (a:Act),I6 ops is hl->EV md ops n L0 L->(∀ j,L0.getD j false=true->L.getD j false=true)->Iz md ops n ts is L=true->wpStill P ops w R hl a->
  wpAnyL P md ops w n (fun L' a'=>EU md ops ts L'=true/\R a') is.length L a
 | [],[],L,a,_,_,_,hB,h=>⟨hB,h⟩
 | i::is,o::hl,L,a,hN,hE,hL,hB,h=>by
  obtain ⟨ho,hN⟩:=hN;simp only [Iz,TZ,decide_eq_true_eq] at hB;obtain ⟨⟨⟨hin,hr⟩,hf⟩,hB⟩:=hB;have hr':i∈Region.ready md ops L:=by simpa using hr
  obtain ⟨v,hy,hK⟩:=yieldsAt_of_stOp ho (show stOp P ops w i (wpStill P ops w R hl) a by unfold stOp;simp only [ho];exact h)
  exact J7 ho hsel hS hin (fun L' a' h'=>K0 hts h'.1) is.length L a hE hL (Region.free_spec ho hf) hr' hy
   (Gm hts hsel hS is hl _ _ hN (hE.step hr' hin) (fun k hk=>getD_set_true (hL k hk)) hB hK)
 | [],_::_,_,_,hN,_,_,_,_=>hN.elim
 | _::_,[],_,_,hN,_,_,_,_=>hN.elim
theorem Fu {Q:Exit->Act->World->Prop} {a:Act} {L0:Array Bool} {f:Nat} (n:Nat) (is ts:List Nat) (hl tl:List Oper) (hN:I6 ops is hl) (hM:I6 ops ts tl)
 (hB:(Region.noSelect ops && GL md ops n L0 && LD md ops L0 && Iz md ops n ts is L0 && (ts.all fun t=>decide (n<=t)) && decide (f=is.length+ts.length))=true)
 (h:wpStill P ops w (fun a'=>wpList P ops Q tl a' w) hl a):wpAny P md ops Q f L0 a w:=by
 simp only [TZ,decide_eq_true_eq] at hB;obtain ⟨⟨⟨⟨⟨hsel,hS⟩,hC⟩,hF⟩,hT⟩,rfl⟩:=hB;have hts:∀ t∈ts,n<=t:=fun t ht=>by simpa using UO.1 hT t ht
 simp only [LD,TZ,decide_eq_true_eq] at hC
 have hE:EV md ops n L0 L0:=by
  refine ⟨hC.1,fun j o hj hl e he hb=>?_,fun t _ ht hl=>getD_in (by rw [hC.1];exact ht) hl⟩;have h1:=UO.1 hC.2 j (UY.2 (Array.getElem?_eq_some_iff.1 hj).1);rw [hl,hj] at h1;simp only [Bool.not_true,Bool.false_or] at h1;have h2:=VC.1 h1 e he
  simpa [hb] using h2
 exact wpAny_of_head (Q':=Q) (g:=ts.length) (fun L' a' h'=>Ho ts tl L' a' w hM h'.1 h'.2) _ _ _ (Gm hts hsel hS is hl L0 a hN hE (fun _ h=>h) hF h)
end
end
section
open Go Go.RowKit Go.Proofs Pl
theorem Ow.cap {w:World} {B:Nat} {v:Value} {xs:List Nat} (h:Ow w B v xs) (h0:0<xs.length):∃ g c,v=.slice (some ⟨g,0,none⟩) xs.length c/\B<=g/\g<w.heap.size/\xs.length<=c/\c<=maxLen:=by
 obtain ⟨A,c,rfl,hc,hm⟩:=h.slice;obtain ⟨g,rfl,-,hg,hg2,-⟩:=h.at_ h0;exact ⟨g,c,rfl,hg,hg2,hc,hm⟩
theorem Jd (A B:Option Addr) (c d:Nat) (xs ys:List Nat) (w:World) (hx:Rd w A xs) (hy:Rd w B ys) (hA:A=none->c=0) (hlx:xs.length<=c) (hcx:c<=maxLen) (hly:ys.length<=d) (hcy:d<=maxLen)
 (hge:val WB ys<=val WB xs) (h2:2<=(strip ys).length) (hlen:xs.length<=274877906944):
 Calls Tryz.prog 218 #[.slice A xs.length c,.slice B ys.length d] w fun e w'=>Gf w (val WB xs) (val WB ys) e w':=by
 have hbx:=AG A c xs w hx hlx hcx;have hby:=AG B d ys w hy hly hcy;have hlx2:=Al xs;have hly2:=Al ys;have hnla:=Dg Aw hy.1 hx.1 hge;have hcmp:=DC A B c d (strip xs) (strip ys) w hx.strip hy.strip Yo hcx Yo hcy;have hQd:=AB Aw hy.1;obtain ⟨Q,hQ⟩:∃ Q,Q=strip ys:=⟨_,rfl⟩;obtain ⟨P,hP⟩:∃ P,P=strip xs:=⟨_,rfl⟩;have rP:Rd w A P:=hP ▸ hx.strip;have rQ:Rd w B Q:=hQ ▸ hy.strip;have vP:val WB P=val WB xs:=by rw [hP,AN]
 have vQ:val WB Q=val WB ys:=by rw [hQ,AN]
 obtain ⟨sg,hs⟩:∃ sg,sg=Bk (val WB xs) (val WB ys):=⟨_,rfl⟩;have hsI:¬ sg<0:=by rw [hs,Bk];split<;>(try split)<;>omega
 rw [<- hP,<- hQ,vP,vQ,<- hs] at hcmp;rw [<- hP] at hbx hlx2 hnla;rw [<- hQ] at hby hly2 hnla h2 hQd;obtain ⟨n,hn⟩:∃ n,n=Q.length:=⟨_,rfl⟩;obtain ⟨la,hla⟩:∃ la,la=P.length:=⟨_,rfl⟩;rw [<- hn] at h2 hly2 hnla hby hcmp;rw [<- hla] at hbx hlx2 hnla hcmp
 have hgeQ:WB ^ (n - 1)<=val WB Q:=by
  rcases Ul (val WB Q) (WB ^ (n - 1)) with h | h
  · exfalso;have h3:=Au Aw h;rw [vQ,<- hQd] at h3;omega
  · exact h
 obtain ⟨s,hs64,hLZ,hD1,hD2⟩:=K5 rQ.1 hn.symm h2 hgeQ;obtain ⟨D,hD⟩:∃ D,D=val WB Q*2 ^ s:=⟨_,rfl⟩;rw [<- hD] at hD1 hD2;obtain ⟨hV1,hD0,hV2,hV3⟩:=IJ h2 hD1 hD2
 have hshb:=fun q:Nat=>Ly B d Q s (w.drewN q) (rQ.drewN q) (by
  rintro rfl
  rcases rQ.2 with h | ⟨b,o,h,_⟩
  · rw [h] at hn;simp at hn;omega
  · cases h) Yo hcy Yo Yo
 rw [<- hD,<- hn] at hshb;obtain ⟨V,hV⟩:∃ V,V=dg WB D:=⟨_,rfl⟩;have hVv:val WB V=D:=by rw [hV,AR Aw]
 rw [<- hV] at hV1 hV2 hV3 hshb;have hsha:=fun (W:World) (h:Rd W A P)=>Ly A c P s W h hA Yo hcx Yo Yo;obtain ⟨U0,hU0⟩:∃ U0,U0=val WB P*2 ^ s:=⟨_,rfl⟩;obtain ⟨U,hU⟩:∃ U,U=dg WB U0:=⟨_,rfl⟩;rw [<- hU0,<- hU,<- hla] at hsha;have hps:0<2 ^ s:=Ve Yd;have hU0l:U0<WB ^ la*2 ^ s:=by rw [hU0,hla];exact Nat.mul_lt_mul_of_pos_right (Bc rP.1) hps
 have hUl:U.length<=la+1:=by
  rw [hU];refine Au Aw (TV hU0l ?_);rw [UD];refine TY _ ?_;rw [BO];exact Ua Yd Yo
 have hU0p:0<U.length:=by
  rcases TQ U.length with h | h
  · exfalso;rw [hU] at h;have h3:=(BL Aw U0).1 (TN h);have h4:0<val WB P*2 ^ s:=Nat.mul_pos (by have:=Ve (n:=n - 1) Ay;omega) hps;omega
  · exact h
 have hPD:WB ^ (n - 1)*2 ^ s<=D:=by rw [hD];exact TW _ hgeQ
 obtain ⟨bq,oq,rfl,hqc⟩:=rQ.at_ (j:=n - 1) Yo;obtain ⟨n1,hn1⟩:∃ n1,n1=n - 1:=⟨_,rfl⟩;have hqc1:=hqc (n - 1) _ (AD Yo);rw [<- hn1] at hqc1 hLZ hPD hV2 hV3;have hn1I:(n:Int) - 1=(n1:Int):=Yo;have hn1l:n1<n:=Yo;have hnz:((n:Int)==0)=false:=by simp;omega
 have hno:((n:Int)==1)=false:=by simp;omega
 obtain ⟨la1,hla1⟩:∃ la1,la1=la+1:=⟨_,rfl⟩;have hla1I:(la:Int)+1=(la1:Int):=Yo;obtain ⟨lu,hlu⟩:∃ lu,lu=U.length:=⟨_,rfl⟩;obtain ⟨m0,hm0⟩:∃ m0,m0=la1 - lu:=⟨_,rfl⟩;have hm0I:(la1:Int) - (lu:Int)=(m0:Int):=Yo;obtain ⟨N,hN⟩:∃ N,N=la1 - n:=⟨_,rfl⟩;have hNI:(la1:Int) - (n:Int)=(N:Int):=Yo;have hla40:la1<=274877906945:=Yo;have hN40:N<=274877906945:=Yo;have hN0:0<N:=Yo;have HBX:=Lib.hid hbx;have HBY:=Lib.hid hby;have HC:=Lib.hid hcmp;have HSB:=Lib.hid hshb;have HSA:=Lib.hid hsha;have HLZ:=Lib.hid hLZ;have HPR:=Lib.hid rP;have HV:=Yh6 hVv hV1 hV2 hV3 hD1 hD0;have HU:=Yh4 (show val WB U=U0 from by rw [hU,AR Aw]) hU0l hlu hU0p;have HP:=Yh5 vP vQ hU0 hD hPD;have HL:=Yh4 hla1 hm0 hN hn1;have HUL:=Lib.hid (show lu<=la1 by omega);unfold maxLen at*;clear hbx hby hx hy hlx hly hge hlx2 hly2 hcmp hQd hQ hP rP rQ vP vQ hs hn hla hgeQ hLZ hD1 hD2 hD hV1 hD0 hV2 hV3 hV hVv hshb hsha hU0 hU hU0l hUl hU0p hPD hqc hla1 hlu hm0 hN hn1 hps hA;obtain ⟨i0,hi0,hz0,hz1,hz2⟩:=info_parts Bf;go_enter Tryz.func218,Tryz.ntmps218;go_wp2_with fail;refine HBX.out.mono ?_;rintro e w' ⟨rfl,rfl⟩;go_wp2_with fail;refine HBY.out.mono ?_;rintro e w' ⟨rfl,rfl⟩;go_wp2_with fail;refine HC.out.mono ?_;rintro e w' ⟨rfl,q0,rfl⟩;go_wp2_with fail;refine (HLZ.out _).mono ?_;rintro e w' ⟨rfl,rfl⟩;go_wp2_with fail;refine (HSB.out q0).mono ?_;rintro e w1 ⟨v,rfl,hOV,hb1⟩;have hb1':Yg w w1:=Cf hb1;obtain ⟨gv,cv,hv,hgv1,hgv2,hcv1,hcv2⟩:=hOV.cap (by rw [HV.p1];omega);have hgv1:w.heap.size<=gv:=hgv1;rw [HV.p1] at hv hcv1;subst hv;have hrv:=hOV.rd;have HOV:=Yh3 hrv hgv1 hgv2;have HB1:=Lib.hid hb1';clear hOV hb1 hb1' hgv1 hgv2 hrv;go_wp2_with fail;refine (HSA.out w1 (HPR.out.keep HB1.out)).mono ?_;rintro e w2 ⟨v2,rfl,hOU,hb2⟩;obtain ⟨gu,cu,hu,hgu1,hgu2,hcu1,hcu2⟩:=hOU.cap HU.q3;rw [<- HU.p2] at hu hcu1;subst hu;obtain ⟨v3,w3,hrun,hO3,hg3⟩:=FE (m:=m0) w2 hOU HU.p2 hb2.size (by have:=HL.p1;have:=HUL.out;omega);have hrun3:=hrun;have hb3:Yg w1 w3:=hb2.grown hg3 hb2.size (fun j hj=>by injection hj with hj;subst hj;exact hgu1);obtain ⟨us0,hus0⟩:∃ us0,us0=U++List.replicate m0 0:=⟨_,rfl⟩
 have hul:us0.length=la1:=by
  rw [hus0,TM,Uk,<- HU.p2];have:=HL.p1;have:=HUL.out;omega
 have huv:val WB us0=U0:=by rw [hus0,BR,Ch,UQ,UE,HU.p0]
 rw [<- hus0] at hO3;obtain ⟨gw,cw,hw3,hgw1,hgw2,hcw1,hcw2⟩:=hO3.cap (by rw [hul];omega);rw [hul] at hw3 hcw1;subst hw3;have HRUN:=Lib.hid hrun;have HO3:=Yh6 hO3 hul huv hb3 hgw1 hgw2;clear hOU hb2 hO3 hg3 hb3 hus0 hul huv hrun hrun3 hgu1 hgu2 hgw1 hgw2;unfold maxLen at hcw2 hcv2 hcu2;go_wp2_with (first | (at_builtin;refine Lib.wpList_append_run _ rfl _ _ _ _ rfl _ _ rfl rfl _ _ HRUN.out ?_) | (at_make;refine wpList_make_full _ rfl (.tmp 82) (.tmp 82) 32 rfl w3.heap.size 146 i0 _ 1 Tryz.underlying32 hi0 hz0 hz1 .i64 .i64 _ _ N rfl rfl (by simp) (by simp) (by rw [hz2];omega) (by unfold maxLen;omega) (TL _) ?_;intro w4 hown0 hg4));rw [Cm] at hown0;have hOq:Ow w4 w3.heap.size (.slice (some ⟨w3.heap.size,0,none⟩) N N) (List.replicate N 0):=⟨All.replicate Ay _,by rw [Uk];exact hown0⟩;have hb4:Yg w3 w4:=(Below.refl _ _).grown hg4 (TL _) (by simp);have HQ4:=Yh2 hOq hb4;clear hown0 hg4 hi0 hz0 hz1 hz2 hOq hb4;obtain ⟨m,hm⟩:∃ m,n=m+2:=⟨n - 2,Yo⟩;have hgvw:gv<w1.heap.size:=HOV.q2;have hgw1:w1.heap.size<=gw:=HO3.p4;have hgw3:gw<w3.heap.size:=HO3.q5;have HM:=Lib.hid hm;clear hm
 have h0:Hid (val WB us0+WB ^ N*(D*val WB ((List.replicate N 0).drop N))=U0/\val WB (us0.drop N)<D):=by
  refine ⟨?_,?_⟩
  · rw [UI (by simp),De,UQ,UQ,UE];exact HO3.p2
  · have l1:=HL.p0;have l3:=HL.p2;refine MA (L:=la) (n:=n) (P:=2 ^ s) Ay HO3.p0.1 (by rw [HO3.p1,l1]) Yo Yo (by rw [HO3.p2];exact HU.p1) ?_;rw [<- HL.q3];exact HP.q4
 go_loopw [16] (fun i wr=>∃ (k:Nat) (us qs:List Nat),i=.int .i64 ((k:Int) - 1)/\k<=N/\Hid (us.length=la1/\qs.length=N)/\Ow wr w1.heap.size (.slice (some ⟨gw,0,none⟩) la1 cw) us/\Ow wr w3.heap.size (.slice (some ⟨w3.heap.size,0,none⟩) N N) qs/\Hid (val WB us+WB ^ k*(D*val WB (qs.drop k))=U0/\val WB (us.drop k)<D)/\Rd wr (some ⟨gv,0,none⟩) V/\Yg w1 wr) (fun i _=>(intOf i+1).toNat)
 case atStart=>
  have hb3:Yg w3 w4:=HQ4.q1;exact ⟨N,us0,List.replicate N 0,rfl,TL _,⟨HO3.p1,Uk⟩,HO3.p0.keep hb3,HQ4.p0,h0,(HOV.p0.keep HO3.p3).keep hb3,Yb HO3.p3 hb3⟩
 case round=>
  obtain ⟨k0,us,qs,rfl,hk,hll,hO,hOq,hv,hrv,hbw⟩:=hrel
  cases k0 with
  | zero=>
   have hw0:(((0:Nat):Int) - 1)=-1:=Yo;rw [hw0];clear hw0;have HO:=Yh3 hO hbw hv.out;have HOQ:=Yh2 hOq hll.out;clear hO hbw hv hOq hll hrv;have hsr:=QQ (some ⟨gw,0,none⟩) cw us s wr HO.p0.rd (by intro h;cases h) (by rw [HOQ.p1];exact hcw1) (by unfold maxLen;omega) Yo (by rw [HOQ.p1];omega);rw [HOQ.p1] at hsr;have HSR:=Lib.hid hsr;clear hsr;go_wp2_with fail;refine HSR.out.mono ?_;rintro e w5 ⟨v5,rfl,hO5,hb5⟩;have hq5:=HOQ.p0.keep hb5;have hbr:=AG (some ⟨w3.heap.size,0,none⟩) N qs w5 hq5.rd (by rw [HOQ.q2];exact TL _) (by unfold maxLen;omega);rw [HOQ.q2] at hbr;have HBR:=Lib.hid hbr;have H5:=Yh3 hO5 hb5 hq5;clear hbr hO5 hb5 hq5;go_wp2_with fail;refine HBR.out.mono ?_;rintro e w' ⟨rfl,rfl⟩;go_wp2_with fail;go_ret3;obtain ⟨d1,d2⟩:=MF HOQ.p0.1 HO.q2 HP.p2 HP.p3 HV.q5;have bw:Yg w wr:=Yb HB1.out HO.p1;have hst:=H5.q2.strip;rw [d1,HP.p0,HP.p1] at hst;have hO5:=H5.p0;rw [d2,HP.p0,HP.p1] at hO5;refine ⟨_,_,rfl,?_,hO5.mono bw.size,Yb bw H5.p1⟩;rw [d1,HP.p0,HP.p1];exact hst.mono (TP HB1.out.size HO3.p3.size)
  | succ k=>
   have hm:=HM.out;obtain ⟨i1,i2,i3,i4,L,hnum,⟨hkm,h1I,h4I,h2I,h3I,hnI1,hmI⟩,⟨m1,m2,m3,m4,m5,m6⟩,⟨b1,b2,b3,b4,b5,b6,b7,b8,b9,b10⟩⟩:=Ng HL.q3 hm hk HL.p2 hla40 hcw1;obtain ⟨G,qd,⟨u1,u2,u3,v1,v2⟩,hqW,hgs,htk⟩:=Kr hnum hm b8 hO hll.p0 hll.q1 hv.p0 hv.q1 hrv HV.p0 HV.p1 HV.p2 HV.p3 HV.p4 HV.q5 hcw1 hcw2 hcv1 hcv2 (Nat.ne_of_lt (TV hgvw hgw1));have HG:=Lib.hid hgs;have HT:=Lib.hid htk;have HS:=Yh3 hqW hll.out hbw;have HOQ:=Lib.hid hOq;have HRV:=Lib.hid hrv;have HO:=Lib.hid hO;clear hll hm hnum hgs htk hqW hO hOq hrv hbw hv;rw [hkm];have hw1:=BU i1 (Vg m1 Yd);have hw2:=BU i2 (Vg m2 Yd);have hw3:=BU i3 (Vg m3 Yd);have hw4:=BU i4 (Vg m4 Yd);have hw5:=BU n1 (Vg m5 Yd);have hw6:=BU m (Vg m6 Yd);clear hkm m1 m2 m3 m4 m5 m6;go_upto_region 18 with (fail)
   refine wp_region_any (by kernel_rfl) ?_;change wpAny _ _ _ _ _ _ _ (World.drew _);refine wpAny_take (i:=0) (v:=?v0) rfl (by kernel_rfl) (by kernel_rfl) (by kernel_rfl) (fun _ _ _ h=>h) (Or.inl ⟨by rfl,?h0⟩) ?r0
   case h0=>intro w;go_simp;try with_reducible rfl
   refine wpAny_take (i:=1) (v:=?v1) rfl (by kernel_rfl) (by kernel_rfl) (by kernel_rfl) (fun _ _ _ h=>h) (Or.inl ⟨by rfl,?h1⟩) ?r1
   case h1=>intro w;go_simp;try with_reducible rfl
   refine wpAny_take (i:=2) (v:=?v2) rfl (by kernel_rfl) (by kernel_rfl) (by kernel_rfl) (fun _ _ _ h=>h) (Or.inl ⟨by rfl,?h2⟩) ?r2
   case h2=>intro w;go_simp;try with_reducible rfl
   refine wpAny_take (i:=3) (v:=?v3) rfl (by kernel_rfl) (by kernel_rfl) (by kernel_rfl) (fun _ _ _ h=>h) (Or.inl ⟨by rfl,?h3⟩) ?r3
   case h3=>intro w;go_simp;try with_reducible rfl
   refine wpAny_take (i:=4) (v:=?v4) rfl (by kernel_rfl) (by kernel_rfl) (by kernel_rfl) (fun _ _ _ h=>h) (Or.inl ⟨by rfl,?h4⟩) ?r4
   case h4=>intro w;go_simp;try with_reducible rfl
   refine wpAny_take (i:=5) (v:=?v5) rfl (by kernel_rfl) (by kernel_rfl) (by kernel_rfl) (fun _ _ _ h=>h) (Or.inl ⟨by rfl,?h5⟩) ?r5
   case h5=>intro w;go_simp;try with_reducible rfl
   refine wpAny_take (i:=6) (v:=?v6) rfl (by kernel_rfl) (by kernel_rfl) (by kernel_rfl) (fun _ _ _ h=>h) (Or.inl ⟨by rfl,?h6⟩) ?r6
   case h6=>intro w;go_simp;try with_reducible rfl
   refine wpAny_take (i:=7) (v:=?v7) rfl (by kernel_rfl) (by kernel_rfl) (by kernel_rfl) (fun _ _ _ h=>h) (Or.inl ⟨by rfl,?h7⟩) ?r7
   case h7=>intro w;go_simp;try with_reducible rfl
   refine wpAny_take (i:=8) (v:=?v8) rfl (by kernel_rfl) (by kernel_rfl) (by kernel_rfl) (fun _ _ _ h=>h) (Or.inl ⟨by rfl,?h8⟩) ?r8
   case h8=>intro w;go_simp;try with_reducible rfl
   refine wpAny_take (i:=9) (v:=?v9) rfl (by kernel_rfl) (by kernel_rfl) (by kernel_rfl) (fun _ _ _ h=>h) (Or.inl ⟨by rfl,?h9⟩) ?r9
   case h9=>intro w;go_simp;try with_reducible rfl
   refine Fu 40 [10,11,12,13,14,15,16,17,18,19,20,21,22,23,24,25,26,27,28,29,30,31,32,33,34,35,36,37,38,39] [40,41,42,43] [_,_,_,_,_,_,_,_,_,_,_,_,_,_,_,_,_,_,_,_,_,_,_,_,_,_,_,_,_,_] [_,_,_,_] ⟨rfl,rfl,rfl,rfl,rfl,rfl,rfl,rfl,rfl,rfl,rfl,rfl,rfl,rfl,rfl,rfl,rfl,rfl,rfl,rfl,rfl,rfl,rfl,rfl,rfl,rfl,rfl,rfl,rfl,rfl,trivial⟩ ⟨rfl,rfl,rfl,rfl,trivial⟩ (by kernel_rfl) ?_
   repeat still_step
   refine wpStill_nil ?_;go_wp2_with fail;refine (HG.out _).mono ?_;rintro e w' ⟨rfl,q,rfl⟩;go_wp2_with fail;refine (HT.out _ (by exact ⟨1+q,rfl⟩)).mono ?_;rintro e w5 ⟨rfl,hnx⟩;obtain ⟨c5,f5⟩:=KY hnx HOQ.out HS.p1.2 hgw3 b8;have HNX:=Lib.hid hnx;clear hnx;go_wp2_with fail;obtain ⟨us',p1,p2,p3,p4,p5,p6⟩:=Pz HNX.out HOQ.out HS.p1.2 b8 HS.p0 HRV.out HS.q2 hgvw hgw3 hgw1;go_roundw
   case rel=>exact ⟨k,us',qs.set k qd,rfl,Yo,p1,p2,p3,p4,p5,p6⟩
   case measure=>simp [intOf]
end
section
open Go Go.RowKit Go.Proofs Pl
def Ot (w:World) (a b:Nat) (e:Ending) (w':World):Prop:=
 ∃ q r,e=.returned (.tuple #[q,r,.int .i64 (if b=0 then 3 else 0)])/\Ow w' w.heap.size q (dg WB (a / b))/\Ow w' w.heap.size r (if b=0 then [] else dg WB (a % b))/\Yg w w'
theorem Dz (A B:Option Addr) (c d:Nat) (xs ys:List Nat) (w:World) (hx:Rd w A xs) (hy:Rd w B ys) (hA:A=none->c=0) (hlx:xs.length<=c) (hcx:c<=maxLen) (hly:ys.length<=d) (hcy:d<=maxLen) (hlen:xs.length<=274877906944):
 Calls Tryz.prog 218 #[.slice A xs.length c,.slice B ys.length d] w fun e w'=>Ot w (val WB xs) (val WB ys) e w':=by
 have hf:∀ e w',Gf w (val WB xs) (val WB ys) e w'->val WB ys≠0->Ot w (val WB xs) (val WB ys) e w':=by
  rintro e w' ⟨q,r,he,hq,hr,hb⟩ h0;exact ⟨q,r,by rw [he,if_neg h0],hq,by rw [if_neg h0];exact hr,hb⟩
 by_cases h0:val WB ys=0
 · refine (J0 A B c d xs ys w hx hy hlx hcx hly hcy h0).mono ?_;rintro e w' ⟨rfl,rfl⟩;exact ⟨_,_,by rw [if_pos h0],by rw [h0,Nat.div_zero,BP];exact Ow.nil _ _,by rw [if_pos h0];exact Ow.nil _ _,Below.refl _ _⟩
 by_cases hlt:val WB xs<val WB ys
 · exact (Jo A B c d xs ys w hx hy hlx hcx hly hcy hlt Yo).mono fun e w' h=>hf e w' h h0
 have hn0:(strip ys).length≠0:=fun h=>h0 (Cv.1 h);by_cases h1:(strip ys).length=1
 · exact (Jt A B c d xs ys w hx hy hlx hcx hly hcy Yo h1 hlen).mono fun e w' h=>hf e w' h h0
 · exact (Jd A B c d xs ys w hx hy hA hlx hcx hly hcy Yo Yo hlen).mono fun e w' h=>hf e w' h h0
theorem P8 (A B:Option Addr) (c d:Nat) (xs ys:List Nat) (w:World) (hx:Rd w A xs) (hy:Rd w B ys) (hlx:xs.length<=c) (hcx:c<=maxLen) (hly:ys.length<=d) (hcy:d<=maxLen) (hlenx:xs.length<=274877906944) (hleny:ys.length<=274877906944):
 Calls Tryz.prog 217 #[.slice A xs.length c,.slice B ys.length d] w fun e w'=>∃ v,e=.returned v/\Ow w' w.heap.size v (dg WB (Nat.gcd (val WB xs) (val WB ys)))/\Yg w w':=by
 have htx:=Du A c xs w hx hlx hcx Yo;have hty:=fun W (h:Rd W B ys)=>Du B d ys W h hly hcy Yo;have hlx3:(dg WB (val WB xs)).length<=274877906944:=by rw [<- AB Aw hx.1];exact TP (Al _) hlenx
 have hly3:(dg WB (val WB ys)).length<=274877906944:=by rw [<- AB Aw hy.1];exact TP (Al _) hleny
 obtain ⟨a,ha⟩:∃ a,a=val WB xs:=⟨_,rfl⟩;obtain ⟨b,hb⟩:∃ b,b=val WB ys:=⟨_,rfl⟩;rw [<- ha] at htx hlx3 ⊢;rw [<- hb] at hty hly3 ⊢;have HTX:=Lib.hid htx;have HTY:=Lib.hid hty;have HY:=Lib.hid hy;have HL:=Yh2 hlx3 hly3;clear htx hty hx hy hlx hly hcx hcy hlenx hleny hlx3 hly3 ha hb;go_enter Tryz.func217,Tryz.ntmps217;go_wp2_with fail;refine HTX.out.mono ?_;rintro e w1 ⟨v1,rfl,hO1,hb1⟩;have HO1:=Yh2 hO1 hb1;clear hO1 hb1;go_wp2_with fail;refine (HTY.out w1 (HY.out.keep HO1.q1)).mono ?_;rintro e w2 ⟨v2,rfl,hO2,hb2⟩;have HO2:=Yh2 hO2 hb2;clear hO2 hb2;go_wp2_with fail
 go_loopg [5,6] b (fun k x y wr=>∃ (m:Nat) (la lb c d:Nat) (A B:Option Addr),x=.slice A la c/\y=.slice B lb d/\la<=c/\c<=maxLen/\lb<=d/\d<=maxLen/\Hid ((dg WB m).length=la/\(dg WB k).length=lb/\Nat.gcd m k=Nat.gcd a b/\la<=274877906944/\lb<=274877906944)/\
  Hid (Ow wr w.heap.size (.slice A la c) (dg WB m)/\Ow wr w.heap.size (.slice B lb d) (dg WB k)/\Yg w wr))
 case atStart=>
  obtain ⟨A1,c1,rfl,h1,h2⟩:=HO1.p0.slice;obtain ⟨A2,c2,rfl,h3,h4⟩:=HO2.p0.slice;exact ⟨a,_,_,c1,c2,A1,A2,rfl,rfl,h1,h2,h3,h4,⟨rfl,rfl,rfl,HL.p0,HL.q1⟩,(HO1.p0.keep HO2.q1),HO2.p0.mono HO1.q1.size,Yb HO1.q1 HO2.q1⟩
 case round=>
  obtain ⟨m,la,lb,c1,d1,A1,B1,rfl,rfl,h1,h2,h3,h4,hv,hO⟩:=hrel;by_cases h0:lb=0
  · subst h0;go_wp2_with fail;go_ret;have hk:gk=0:=(BL Aw gk).1 (TN hv.p1);refine ⟨_,rfl,?_,hO.q2⟩;have hg:=hv.p2;rw [hk,Nat.gcd_zero_right] at hg;rw [<- hg];exact hO.p0
  · have hdm:=Dz A1 B1 c1 d1 (dg WB m) (dg WB gk) wr hO.p0.rd hO.p1.rd hO.p0.none_cap (by rw [hv.p0];exact h1) h2 (by rw [hv.p1];exact h3) h4 (by rw [hv.p0];exact hv.p3);rw [hv.p0,hv.p1,AR Aw,AR Aw] at hdm
    have hk0:gk≠0:=by
     rintro rfl;have:=hv.p1;rw [BP] at this;exact h0 this.symm
    have hpos:(0:Int)<(lb:Int):=Yo;have HDM:=Lib.hid hdm;clear hdm h1 h2;go_wp2_with fail;refine HDM.out.mono ?_;rintro e w3 ⟨q,r,he,hq,hr,hb3⟩;rw [if_neg hk0] at he hr;subst he;obtain ⟨A3,c3,rfl,h5,h6⟩:=hr.slice;have H3:=Yh2 hr hb3;have HK:=Lib.hid hk0;clear hq hr hb3 hk0;go_wp2_with fail;have hlt:=UB m (U9 HK.out);go_roundg (m % gk)
    case measure=>exact hlt
    case rel=>
     refine ⟨gk,lb,(dg WB (m % gk)).length,d1,c3,B1,A3,rfl,rfl,h3,h4,h5,h6,⟨hv.p1,rfl,?_,hv.q4,?_⟩,hO.p1.keep H3.q1,H3.p0.mono hO.q2.size,Yb hO.q2 H3.q1⟩
     · rw [<- hv.p2,Nat.gcd_comm m gk,Nat.gcd_rec gk m,Nat.gcd_comm]
     · have:=Bi Aw (VZ hlt);have h9:=hv.p1;have h10:=hv.q4;omega
end
section
namespace Pl
def nb (n:Nat):Nat:=if n=0 then 0 else n.log2+1
theorem Qc:nb 0=0:=rfl
theorem EE {n:Nat}:nb n=0↔n=0:=by unfold nb;split<;>simp_all
theorem TC (n:Nat):n<2 ^ nb n:=by
 unfold nb
 split
 · subst n;decide
 · exact Nat.lt_log2_self
theorem TA {n:Nat} (h:n≠0):2 ^ (nb n - 1)<=n:=by
 unfold nb;rw [if_neg h,VQ];exact Nat.log2_self_le h
theorem Jc {n k:Nat} (h:n<2 ^ k):nb n<=k:=by
 rcases TQ n with rfl | hp
 · rw [Qc];omega
 · have:=TA (n:=n) Yo
   rcases Ul k (nb n) with hlt | hge
   · have h2:2 ^ k<=2 ^ (nb n - 1):=Ua Yd Yo;omega
   · exact hge
theorem MJ {n k:Nat} (h0:n≠0) (h1:n<2 ^ k) (h2:2 ^ (k - 1)<=n) (hk:0<k):nb n=k:=by
 have a:=Jc h1;have b:=TC n
 rcases Ul (nb n) k with hlt | hge
 · have h3:2 ^ nb n<=2 ^ (k - 1):=Ua Yd Yo;omega
 · omega
theorem OY {B t r n k e:Nat} (hB:B=2 ^ e) (hn:n=r+B ^ k*t) (hr:r<B ^ k) (ht:t≠0) (b:Nat) (h1:t<2 ^ b) (h2:2 ^ (b - 1)<=t) (hb:0<b):nb n=k*e+b:=by
 have hp:B ^ k=2 ^ (k*e):=by rw [hB,<- Nat.pow_mul,TX]
 have hpos:0<B ^ k:=by rw [hp];exact Ve Yd
 have ha:B ^ k*(t+1)<=B ^ k*2 ^ b:=TY _ h1;have hb2:B ^ k*2 ^ (b - 1)<=B ^ k*t:=TY _ h2;have e1:2 ^ (k*e+b)=B ^ k*2 ^ b:=by rw [hp,UF]
 have e2:2 ^ (k*e+b - 1)=B ^ k*2 ^ (b - 1):=by rw [hp,<- UF];congr 1;omega
 have ht1:B ^ k*1<=B ^ k*t:=TY _ Yo;rw [T9] at ha;exact MJ Yo Yo Yo Yo
end Pl
end
section
open Go Go.RowKit Go.Proofs Pl
theorem Oy {P:List Nat} {m:Nat} (hP:All WB P) (hc:Cw P) (hl:P.length=m+1):
 ∃ b:Nat,0<b/\b<=64/\(∀ w:World,Calls Tryz.prog 240 #[.int .u64 (atD P m:Int)] w fun e w'=>e=.returned (.int .i64 (b:Int))/\w=w')/\nb (val WB P)=m*64+b:=by
 have e:=AC WB P m Yo;rw [BJ WB P m (by omega),UI (by omega),De,UQ,UE] at e;have ht:=AW hP m;have hr:=Ea hP (m:=m) Yo
 have h0:atD P m≠0:=by
  intro h;rw [h,UQ,UE] at e;rw [<- e] at hr;have h1:=Au Aw hr;rw [FG Aw hP hc] at h1;omega
 obtain ⟨b1,b2,b3⟩:=DW 64 (atD P m) (by rw [<- BO];exact ht) (TL _);obtain ⟨b4,b5⟩:=b3 h0;refine ⟨Lib.bitLen (atD P m),Yo,b2,fun w=>?_,OY BO e hr h0 _ b1 b5 Yo⟩;have hw:(atD P m:Int)<=18446744073709551615:=by have:=Bz;omega
 exact (Tryz.bits_Len64 (atD P m:Int) w Yo hw).mono fun e w' ⟨a,b⟩=>⟨by rw [a,Vy],b.symm⟩
theorem OB (A:Option Addr) (c:Nat) (xs:List Nat) (w:World) (hx:Rd w A xs) (hlx:xs.length<=c) (hcx:c<=maxLen) (hlen:xs.length<=1099511627776):
 Calls Tryz.prog 215 #[.slice A xs.length c] w fun e w'=>e=.returned (.int .i64 (nb (val WB xs):Int))/\∃ q,w'=w.drewN q:=by
 have hb:=AG A c xs w hx hlx hcx;have hle:=Al xs;obtain ⟨P,hP⟩:∃ P,P=strip xs:=⟨_,rfl⟩;have rP:Rd w A P:=hP ▸ hx.strip;have vP:val WB P=val WB xs:=by rw [hP,AN]
 have cP:Cw P:=hP ▸ DN xs;rw [<- hP] at hb hle;rw [<- vP]
 cases hl:P.length with
 | zero=>
  rw [hl] at hb;have hz:nb (val WB P)=0:=by rw [TN hl];rfl
  rw [hz];have HB:=Lib.hid hb;clear hb hx hlx hcx hlen hle hP rP vP cP hl hz;go_enter Tryz.func215,Tryz.ntmps215;go_wp2_with fail;refine HB.out.mono ?_;rintro e w' ⟨rfl,rfl⟩;go_wp2_with fail;go_ret;exact ⟨rfl,0,rfl⟩
 | succ m=>
  obtain ⟨b,hb0,hb64,hlen64,hnb⟩:=Oy rP.1 cP hl;rw [hnb];rw [hl] at hb;obtain ⟨bb,o,rfl,hcs⟩:=rP.at_ (j:=m) Yo;have hm:=hcs m _ (AD Yo);have hn1:((m+1:Nat):Int) - 1=(m:Int):=Yo;have hn0:(((m+1:Nat):Int)==0)=false:=by simp;omega
  obtain ⟨n,hn⟩:∃ n,n=m+1:=⟨_,rfl⟩;rw [<- hn] at hb hn1 hn0;have hmn:m<n:=Yo;have hmb:m<1099511627776:=Yo;have HB:=Lib.hid hb;have HL:=Lib.hid hlen64;clear hb hx hlx hcx hlen hle hP rP vP cP hl hnb hlen64 hcs hn;go_enter Tryz.func215,Tryz.ntmps215;go_wp2_with fail;refine HB.out.mono ?_;rintro e w' ⟨rfl,rfl⟩;go_wp2_with fail;refine (HL.out _).mono ?_;rintro e w' ⟨rfl,rfl⟩;go_wp2_with fail;go_ret;refine ⟨?_,0,rfl⟩
  congr 2
end
section
namespace Pl
open Go Go.Lib
def digB (c:UInt8):Bool:=decide (48<=c.toNat) && decide (c.toNat<=57)
end Pl
end
section
namespace Pl
open Go Go.Lib
def P19:Nat:=10000000000000000000
attribute [irreducible] P19
theorem Dx (ss:List (List UInt8)) (h:∀ s∈ss,s.length<=20):ss.flatten.length<=20*ss.length:=by
 induction ss with
 | nil=>simp
 | cons s ss ih=>
  have h1:=h s (by simp);have h2:=ih fun t ht=>h t (by simp [ht]);rw [List.flatten_cons,TM,U7];omega
end Pl
end
section
open Go Go.RowKit Go.Proofs Pl
theorem size_toArray (l:List UInt8):(⟨l.toArray⟩:ByteArray).size=l.length:=by simp [ByteArray.size]
theorem SJ (w:World) (x:Nat) (hx:x<WB):Rd (w.alloc (.cells #[.int .u64 (x:Int)] 146)) (some ⟨w.heap.size,0,none⟩) [x]:=by
 refine ⟨All.cons hx All.nil,.inr ⟨_,_,rfl,fun j y hj=>?_⟩⟩;have:=FP w (wis [x]).toArray 146 j _ (by simpa using CU hj);have e:(⟨w.heap.size,0,none⟩:Addr).add j=⟨w.heap.size,0+j,none⟩:=by unfold Addr.add;split<;>simp_all
 rwa [e] at this
end
end Go.Proofs.YtlblnmmfphiobaaGreat
