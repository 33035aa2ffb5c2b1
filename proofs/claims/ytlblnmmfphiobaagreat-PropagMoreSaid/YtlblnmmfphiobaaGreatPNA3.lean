import Derived.Test.YtlblnmmfphiobaaGreatPNA2
import Derived.Laws.BitsAllLaws
import Derived.Deep.CutBlock
import Derived.Deep.LoopGhost
set_option maxRecDepth 100000
set_option maxHeartbeats 8000000
set_option linter.unusedVariables false
set_option linter.unusedSimpArgs false
namespace Go.Proofs.YtlblnmmfphiobaaGreat
section
namespace Pl
def En (D yn1 yn0 u d q r:Nat):Prop:=q*yn1+r=u/\(u*D+d) / (yn1*D+yn0)<=q
section
variable {D yn1 yn0 u d q r:Nat}
theorem Hj (h1:0<yn1) (hd:d<D):En D yn1 yn0 u d (u / yn1) (u % yn1):=by
 refine ⟨by rw [TX];exact Uu u yn1,?_⟩
 rcases TQ (yn1*D+yn0) with h0 | h0
 · rw [h0,Nat.div_zero];exact Un _
 · have e:(u*D+d) / (yn1*D+yn0)<=(u*D+d) / (yn1*D):=Nat.div_le_div_left (VF _ _) (Nat.mul_pos h1 Yo);refine TP e ?_;rw [TX yn1 D,<- Nat.div_div_eq_div_mul,TX u D,Wc (by omega),Vi hd,UE];exact TL _
theorem Me (h:En D yn1 yn0 u d q r):q*(yn1*D+yn0)+D*r=u*D+q*yn0:=by
 rw [<- h.1,T9,Uq,TX D r,Uf];omega
theorem Q4 (hu:u<yn1*D+yn0) (hd:d<D):(u*D+d) / (yn1*D+yn0)<D:=by
 apply UK;have:(u+1)*D<=(yn1*D+yn0)*D:=TW _ hu;rw [Uq] at this;omega
theorem Hf (h:En D yn1 yn0 u d q r) (hu:u<yn1*D+yn0) (hd:d<D) (ht:D<=q∨D*r+d<q*yn0):0<q/\En D yn1 yn0 u d (q - 1) (r+yn1):=by
 have hlt:=Q4 hu hd;have he:=Me h
 have hq:(u*D+d) / (yn1*D+yn0)<q:=by
  rcases ht with h1 | h1
  · exact TV hlt h1
  · rw [Nat.div_lt_iff_lt_mul (by omega)];omega
 have hq0:0<q:=Ug (Un _) hq;refine ⟨hq0,?_,Nat.le_sub_one_of_lt hq⟩
 have e:q*yn1=(q - 1)*yn1+yn1:=by
  conv=>lhs;rw [show q=(q - 1)+1 from by omega,Uq,Nat.one_mul]
 have:=h.1;omega
theorem Fy (h:En D yn1 yn0 u d q r) (hy:0<yn1*D+yn0) (ht:q*yn0<=D*r+d):q=(u*D+d) / (yn1*D+yn0):=by
 have he:=Me h
 have:q<=(u*D+d) / (yn1*D+yn0):=by
  rw [Wh hy];omega
 exact Nat.le_antisymm this h.2
theorem Gs (h:En D yn1 yn0 u d q r) (hu:u<yn1*D+yn0) (h0:yn0<D) (hr:D<=r):q=(u*D+d) / (yn1*D+yn0):=by
 refine Fy h Yo ?_
 have h1:q<D:=by
  rcases Ul q D with h1 | h1
  · exact h1
  · have:D*yn1<=q*yn1:=TW _ h1;have e:=h.1;rw [TX D yn1] at this;omega
 have h2:q*yn0<=D*D:=UN Yo Yo;have h3:D*D<=D*r:=TY _ hr;omega
end
end Pl
end
section
namespace Pl
theorem RX {D Y U a b:Nat} (hY:0<Y):
 ((U*D+a)*D+b) / Y=(U*D+a) / Y*D+((U*D+a) % Y*D+b) / Y/\((U*D+a)*D+b) % Y=((U*D+a) % Y*D+b) % Y:=by
 have e:=Uu (U*D+a) Y
 have e2:(U*D+a)*D+b=Y*((U*D+a) / Y*D)+((U*D+a) % Y*D+b):=by
  conv=>lhs;rw [<- e]
  rw [Uq,Uf];omega
 rw [e2];exact ⟨by rw [Wc hY],by rw [Nat.mul_add_mod]⟩
theorem QV {N y k:Nat} (hk:0<k):(N*k) / (y*k)=N / y/\(N*k) % (y*k)=(N % y)*k:=
 ⟨Nat.mul_div_mul_right _ _ hk,VR k N y⟩
theorem Jl {hi lo s:Nat} (hs:s<=64):(hi*2 ^ s+lo / 2 ^ (64 - s))*2 ^ 64+lo*2 ^ s % 2 ^ 64=(hi*2 ^ 64+lo)*2 ^ s:=by
 have e:2 ^ 64=2 ^ (64 - s)*2 ^ s:=by rw [<- UF];congr 1;omega
 have e1:lo*2 ^ s % 2 ^ 64=lo % 2 ^ (64 - s)*2 ^ s:=by rw [e,VR]
 have e2:=Uu lo (2 ^ (64 - s));rw [e1,Uq,Uq,Nat.mul_right_comm hi,Vc]
 congr 1
 conv=>rhs;rw [<- e2,Uq]
 congr 1
 rw [e,<- Uf,TX (lo / 2 ^ (64 - s))]
theorem MS (D u v:Nat):(u*D+v / D)*D+v % D=u*(D*D)+v:=by
 rw [Uq,Uf,Vc,TX (v / D),Uu]
end Pl
end
section
open Go Go.RowKit Go.Proofs Pl
def DB:Nat:=4294967296
theorem KE:0<DB:=by decide
theorem Tv:DB*DB=WB:=by unfold DB WB;rfl
theorem F2:DB=4294967296:=rfl
theorem BO:WB=2 ^ 64:=by unfold WB;rfl
theorem DW:∀ (f x:Nat),x<2 ^ f->f<=64->x<2 ^ Lib.bitLen x/\Lib.bitLen x<=f/\(x≠0->1<=Lib.bitLen x/\2 ^ (Lib.bitLen x - 1)<=x):=by
 intro f
 induction f with
 | zero=>
  intro x h _;have:x=0:=by simpa using h
  subst this;exact ⟨Yd,Yd,fun h=>absurd rfl h⟩
 | succ f ih=>
  intro x h hf;by_cases h0:x=0
  · subst h0;have e:Lib.bitLen 0=0:=by decide
    rw [e];exact ⟨Yd,Yo,fun h=>absurd rfl h⟩
  · have h64:x<2 ^ 64:=TV h (Ua Yd hf);rw [Lib.bitLen_half x h0 h64];rw [UD] at h;obtain ⟨a,b,c⟩:=ih (x / 2) Yo Yo;refine ⟨?_,Yo,fun _=>⟨Yo,?_⟩⟩
    · rw [VL,UD];omega
    · rw [VY];by_cases h1:x / 2=0
      · have e:Lib.bitLen (x / 2)=0:=by rw [h1];decide
        rw [e];simp;omega
      · obtain ⟨c1,c2⟩:=c h1;have:2 ^ Lib.bitLen (x / 2)=2 ^ (Lib.bitLen (x / 2) - 1)*2:=by rw [<- UD];congr 1;omega
        omega
theorem KG (x:Nat) (h:x<WB):bits .and .u64 (x:Int) 4294967295=((x % DB:Nat):Int):=by
 unfold WB at h;have e:=u64_and_nat x 4294967295 h Yd
 have e2:x &&& 4294967295=x % DB:=by
  have:=Nat.and_two_pow_sub_one_eq_mod x 32
  simpa [DB] using this
 rw [e2] at e;exact e
theorem M7 (hi lo y:Nat) (h1:hi<y) (h2:y<WB) (h3:lo<WB):
 ∃ s Y yn1 yn0 H1 L1 U V un1 un0:Nat,s<64/\
  (∀ w:World,Calls Tryz.prog 244 #[.int .u64 (y:Int)] w fun e w'=>e=.returned (.int .i64 (s:Int))/\w=w')/\
  IntKind.u64.wrap ((y:Int)*2 ^ s)=(Y:Int)/\(Y:Int) / 4294967296=(yn1:Int)/\bits .and .u64 (Y:Int) 4294967295=(yn0:Int)/\
  IntKind.u64.wrap ((hi:Int)*2 ^ s)=(H1:Int)/\(lo:Int) / 2 ^ (64 - s)=(L1:Int)/\bits .or .u64 (H1:Int) (L1:Int)=(U:Int)/\
  IntKind.u64.wrap ((lo:Int)*2 ^ s)=(V:Int)/\(V:Int) / 4294967296=(un1:Int)/\bits .and .u64 (V:Int) 4294967295=(un0:Int)/\
  yn0<DB/\un1<DB/\un0<DB/\yn1<DB/\DB<=2*yn1/\U<yn1*DB+yn0/\(U*DB+un1)*DB+un0=(hi*WB+lo)*2 ^ s/\yn1*DB+yn0=Y/\Y=y*2 ^ s/\Y<WB:=by
 have hw:∀ n:Nat,n<WB->IntKind.u64.wrap (n:Int)=(n:Int):=wrap_u64;rw [BO] at h2 h3;obtain ⟨b1,b2,b3⟩:=DW 64 y h2 (TL _);obtain ⟨b4,b5⟩:=b3 Yo;obtain ⟨k,hk⟩:∃ k,k=Lib.bitLen y:=⟨_,rfl⟩;rw [<- hk] at b1 b2 b4 b5;obtain ⟨s,hs⟩:∃ s,s=64 - k:=⟨_,rfl⟩;have e64:2 ^ 64=2 ^ k*2 ^ s:=by rw [<- UF];congr 1;omega
 have e63:2 ^ 63=2 ^ (k - 1)*2 ^ s:=by rw [<- UF];congr 1;omega
 have hps:0<2 ^ s:=Ve Yd;have hY:y*2 ^ s<2 ^ 64:=by rw [e64];exact Nat.mul_lt_mul_of_pos_right b1 hps
 have hY2:2 ^ 63<=y*2 ^ s:=by rw [e63];exact TW _ b5
 have hH:hi*2 ^ s+2 ^ s<=y*2 ^ s:=by
  have:(hi+1)*2 ^ s<=y*2 ^ s:=TW _ h1
  rwa [Uq,Nat.one_mul] at this
 have hL:lo / 2 ^ (64 - s)<2 ^ s:=by
  apply UK;rw [<- UF,show 64 - s+s=64 from by omega];exact h3
 have hV:lo*2 ^ s % 2 ^ 64<2 ^ 64:=UB _ Yd;refine ⟨s,y*2 ^ s,y*2 ^ s / DB,y*2 ^ s % DB,hi*2 ^ s,lo / 2 ^ (64 - s),hi*2 ^ s+lo / 2 ^ (64 - s),lo*2 ^ s % 2 ^ 64,lo*2 ^ s % 2 ^ 64 / DB,lo*2 ^ s % 2 ^ 64 % DB,Yo,?_,?_,?_,?_,?_,?_,?_,?_,?_,?_,UB _ KE,?_,UB _ KE,?_,?_,?_,?_,?_,rfl,by rw [BO];exact hY⟩
 · intro w;refine (Tryz.bits_LeadingZeros64 (y:Int) w Yo Yo).mono fun e w' ⟨a,b⟩=>⟨?_,b.symm⟩;rw [a,Vy,<- hk,hs]
   congr 2;omega
 · have:=hw (y*2 ^ s) (by rw [BO];exact hY);rw [<- this];congr 1
 · rw [F2];omega
 · exact KG _ (by rw [BO];exact hY)
 · have:=hw (hi*2 ^ s) (by rw [BO];omega);rw [<- this];congr 1
 · simp
 · have e:=u64_or_nat (hi*2 ^ s) (lo / 2 ^ (64 - s)) Yo Yo;rw [nat_join s (hi*2 ^ s) (lo / 2 ^ (64 - s)) (Nat.mul_mod_left _ _) hL] at e;exact e
 · rw [IntKind.wrap_u64];simp
 · rw [F2];omega
 · exact KG _ (by rw [BO];exact hV)
 · rw [F2];omega
 · rw [F2];omega
 · rw [F2];omega
 · have e:=Uu (y*2 ^ s) DB;rw [TX DB] at e;omega
 · have e:=Jl (hi:=hi) (lo:=lo) (s:=s) Yo;rw [BO,<- e];generalize hi*2 ^ s+lo / 2 ^ (64 - s)=u;generalize lo*2 ^ s % 2 ^ 64=v;rw [MS,Tv,BO]
 · have e:=Uu (y*2 ^ s) DB;rw [TX DB] at e;exact e
end
section
open Go Go.RowKit Go.Proofs Pl
theorem C7 (n:Nat):IntKind.u64.wrap (n:Int)=((n % WB:Nat):Int):=by
 rw [IntKind.wrap_u64];unfold WB;simp
theorem Sh {yn1 yn0 U d q r:Nat} (h:En DB yn1 yn0 U d q r) (hp:0<yn1):q<=U:=by
 have:=h.1;have h2:q*1<=q*yn1:=TY _ hp;omega
theorem Hy {yn1 yn0 U d:Nat} (hp:0<yn1) (hy:yn1<DB) (hU:U<WB) (hd:d<DB):
 ∃ q m r:Nat,IntKind.u64.wrap ((U:Int) / (yn1:Int))=(q:Int)/\IntKind.u64.wrap ((q:Int)*(yn1:Int))=(m:Int)/\IntKind.u64.wrap ((U:Int) - (m:Int))=(r:Int)/\En DB yn1 yn0 U d q r/\r<DB:=by
 have e:=Uu U yn1;rw [TX] at e;have hm:=UB U hp;have hle:U / yn1<=U:=Vh _ _;have hh:=Hj (D:=DB) (yn0:=yn0) (u:=U) (d:=d) hp hd;refine ⟨U / yn1,U / yn1*yn1,U % yn1,wrap_u64 (U / yn1) Yo,wrap_u64 (U / yn1*yn1) Yo,?_,hh,Yo⟩;have:(U:Int) - ((U / yn1*yn1:Nat):Int)=((U % yn1:Nat):Int):=by omega
 rw [this];exact wrap_u64 _ Yo
theorem Ii {yn1 yn0 U d q r:Nat} (h:En DB yn1 yn0 U d q r) (hr:r<DB) (h0:yn0<DB) (h1:yn1<DB) (hp:0<yn1) (hU:U<yn1*DB+yn0) (hW:yn1*DB+yn0<WB) (hd:d<DB):
 (q=(U*DB+d) / (yn1*DB+yn0)/\¬ (4294967296:Int)<=(q:Int)/\∃ m m2 m3:Nat,IntKind.u64.wrap ((q:Int)*(yn0:Int))=(m:Int)/\IntKind.u64.wrap (4294967296*(r:Int))=(m2:Int)/\IntKind.u64.wrap ((m2:Int)+(d:Int))=(m3:Int)/\¬ m3<m)
 ∨(∃ q' r':Nat,IntKind.u64.wrap ((q:Int) - 1)=(q':Int)/\IntKind.u64.wrap ((r:Int)+(yn1:Int))=(r':Int)/\q'<q/\En DB yn1 yn0 U d q' r'/\
  ((4294967296:Int)<=(q:Int)∨(¬ (4294967296:Int)<=(q:Int)/\∃ m m2 m3:Nat,IntKind.u64.wrap ((q:Int)*(yn0:Int))=(m:Int)/\IntKind.u64.wrap (4294967296*(r:Int))=(m2:Int)/\IntKind.u64.wrap ((m2:Int)+(d:Int))=(m3:Int)/\m3<m))/\
  (((4294967296:Int)<=(r':Int)/\q'=(U*DB+d) / (yn1*DB+yn0))∨(r'<DB/\¬ (4294967296:Int)<=(r':Int)))):=by
 have hq:=Sh h hp;have hD:=F2;have hWe:WB=18446744073709551616:=by unfold WB;rfl
 have key:∀ hlt:q<DB,IntKind.u64.wrap ((q:Int)*(yn0:Int))=((q*yn0:Nat):Int)/\IntKind.u64.wrap (4294967296*(r:Int))=((DB*r:Nat):Int)/\IntKind.u64.wrap (((DB*r:Nat):Int)+(d:Int))=((DB*r+d:Nat):Int):=by
  intro hlt;have hmul:q*yn0<=(DB - 1)*(DB - 1):=UN Yo Yo;have hsq:(DB - 1)*(DB - 1)<WB:=by unfold DB WB;decide
  refine ⟨wrap_u64 (q*yn0) Yo,?_,?_⟩
  · have:=wrap_u64 (DB*r) (by rw [hD,hWe];omega);rw [<- this];congr 1
  · exact wrap_u64 (DB*r+d) (by rw [hD,hWe];omega)
 by_cases ht:DB<=q∨DB*r+d<q*yn0
 · obtain ⟨hq0,hh⟩:=Hf h hU hd ht;refine Or.inr ⟨q - 1,r+yn1,?_,wrap_u64 (r+yn1) (by rw [hWe];omega),Yo,hh,?_,?_⟩
   · have:=wrap_u64 (q - 1) Yo;rw [<- this];congr 1;omega
   · by_cases hqD:DB<=q
     · exact Or.inl Yo
     · obtain ⟨a,b,c⟩:=key Yo;refine Or.inr ⟨Yo,_,_,_,a,b,c,Yo⟩
   · by_cases hrD:DB<=r+yn1
     · exact Or.inl ⟨Yo,Gs hh hU h0 hrD⟩
     · exact Or.inr ⟨Yo,Yo⟩
 · have hqD:q<DB:=by omega
   obtain ⟨a,b,c⟩:=key hqD;exact Or.inl ⟨Fy h Yo Yo,Yo,_,_,_,a,b,c,Yo⟩
theorem LI {U d q Y:Nat} (hY:0<Y) (hW:Y<WB) (hq:q=(U*DB+d) / Y):
 ∃ A B C U2:Nat,IntKind.u64.wrap ((U:Int)*4294967296)=(A:Int)/\IntKind.u64.wrap ((A:Int)+(d:Int))=(B:Int)/\IntKind.u64.wrap ((q:Int)*(Y:Int))=(C:Int)/\IntKind.u64.wrap ((B:Int) - (C:Int))=(U2:Int)/\U2=(U*DB+d) % Y:=by
 have e:=Uu (U*DB+d) Y;rw [<- hq,TX] at e;have hm:=UB (U*DB+d) hY;have hWe:WB=18446744073709551616:=by unfold WB;rfl
 refine ⟨U*DB % WB,(U*DB % WB+d) % WB,q*Y % WB,(U*DB+d) % Y,C7 _,C7 (U*DB % WB+d),C7 (q*Y),?_,rfl⟩;rw [IntKind.wrap_u64,hWe];generalize (U*DB+d) % Y=R at*;generalize q*Y=P at*;generalize U*DB=Z at*;omega
theorem P9 {U un1 un0 q1 U2 q0 R' Y y s hi lo:Nat} (hYU:U<Y) (hd1:un1<DB) (hd0:un0<DB) (hN:(U*DB+un1)*DB+un0=(hi*WB+lo)*2 ^ s) (hYs:Y=y*2 ^ s) (hW:Y<WB)
 (hq1:q1=(U*DB+un1) / Y) (hU2:U2=(U*DB+un1) % Y) (hq0:q0=(U2*DB+un0) / Y) (hR:R'=(U2*DB+un0) % Y):
 ∃ A Q R:Nat,IntKind.u64.wrap ((q1:Int)*4294967296)=(A:Int)/\IntKind.u64.wrap ((A:Int)+(q0:Int))=(Q:Int)/\(R':Int) / 2 ^ s=(R:Int)/\(hi*WB+lo) / y=Q/\(hi*WB+lo) % y=R:=by
 have hY:0<Y:=Yo;have hD:=F2;have hWe:WB=18446744073709551616:=by unfold WB;rfl
 have hps:0<2 ^ s:=Ve Yd
 have l1:q1<DB:=by
  rw [hq1];apply UK;have:(U+1)*DB<=Y*DB:=TW _ hYU;rw [Uq] at this;omega
 have l2:U2<Y:=by rw [hU2];exact UB _ hY
 have l0:q0<DB:=by
  rw [hq0];apply UK;have:(U2+1)*DB<=Y*DB:=TW _ l2;rw [Uq] at this;omega
 obtain ⟨a,b⟩:=RX (D:=DB) (U:=U) (a:=un1) (b:=un0) hY;rw [<- hU2] at a b;rw [<- hq1,<- hq0] at a;rw [<- hR] at b;rw [hN,hYs] at a b;obtain ⟨c,d⟩:=QV (N:=hi*WB+lo) (y:=y) hps;rw [c] at a;rw [d] at b;refine ⟨q1*DB,q1*DB+q0,(hi*WB+lo) % y,?_,wrap_u64 (q1*DB+q0) (by rw [hD,hWe];omega),?_,a,rfl⟩
 · have:=wrap_u64 (q1*DB) (by rw [hD,hWe];omega);rw [<- this];congr 1
 · rw [<- b];have:(((hi*WB+lo) % y*2 ^ s:Nat):Int) / 2 ^ s=(((hi*WB+lo) % y*2 ^ s / 2 ^ s:Nat):Int):=by simp
   rw [this,Nat.mul_div_cancel _ hps]
end
section
open Go Go.RowKit Go.Proofs Pl
theorem Hq (hi lo y:Nat) (w:World) (h1:hi<y) (h2:y<WB) (h3:lo<WB):
 Calls Tryz.prog 261 #[.int .u64 (hi:Int),.int .u64 (lo:Int),.int .u64 (y:Int)] w fun e w'=>e=.returned (.tuple #[.int .u64 (((hi*WB+lo) / y:Nat):Int),.int .u64 (((hi*WB+lo) % y:Nat):Int)])/\∃ q,w'=w.drewN q:=by
 have hy0:((y:Int)==0)=false:=by simp;omega
 have hle:¬ y<=hi:=Yo;by_cases hz:hi=0
 · subst hz;have e1:Hid ((0*WB+lo) / y=lo / y/\(0*WB+lo) % y=lo % y):=by unfold Hid;rw [Wk,Vw];exact ⟨rfl,rfl⟩
   obtain ⟨Q,hQ⟩:∃ Q,Q=lo / y:=⟨_,rfl⟩;obtain ⟨R,hR⟩:∃ R,R=lo % y:=⟨_,rfl⟩
   have hq:IntKind.u64.wrap ((lo:Int) / (y:Int))=(Q:Int):=by
    rw [hQ];exact wrap_u64 (lo / y) (Ug (Vh _ _) h3)
   have hr:Hid ((R:Int)=(lo:Int) % (y:Int)):=by show _=_;rw [hR];rfl
   rw [<- hQ,<- hR] at e1;clear h2 h3 hQ hR;go_enter Tryz.func261,Tryz.ntmps261;go_wp2_with fail;go_quiet (fail);go_wp2_with fail;go_ret2;exact ⟨by rw [e1.p0,e1.q1,hr.out];rfl,_,rfl⟩
 · have hhi:((hi:Int)==0)=false:=by simp;omega
   obtain ⟨s,Y,yn1,yn0,H1,L1,U,V,un1,un0,f0,fz,r1,r2,r3,r4,r5,r6,r7,r8,r9,f1,f2,f3,f4,f5,f6,f7,f8,f9,f10⟩:=M7 hi lo y h1 h2 h3;have HZ:=Lib.hid fz;have hyn1:0<yn1:=by have:=KE;omega
   obtain ⟨q,m,r,g1,g2,g3,g4,g5⟩:=Hy (yn0:=yn0) (U:=U) (d:=un1) hyn1 f4 Yo f2;have hUY:U<Y:=Yo;have H1:=Yh2 g4 g5;have HF:=Yh9 f1 f2 f3 f4 f6 f7 f8 f9 f10;clear fz f1 f2 f3 f4 f5 f6 f7 f8 f9 f10 h1 h2 h3 hz g4 g5 hUY;go_enter Tryz.func261,Tryz.ntmps261;go_upto_block 0 with (go_at_call 244;refine (HZ.out _).mono ?_;rintro e w' ⟨rfl,rfl⟩)
   go_cut [15,16] (fun a b w1=>∃ q1 r1:Nat,a=.int .u64 (q1:Int)/\b=.int .u64 (r1:Int)/\Hid (q1=(U*DB+un1) / Y)/\w=w1)
   case first=>
    go_wp2_with fail;go_loopw [15,16] (fun a b wr=>∃ q1 r1:Nat,a=.int .u64 (q1:Int)/\b=.int .u64 (r1:Int)/\Hid (En DB yn1 yn0 U un1 q1 r1/\r1<DB)/\w=wr) (fun a b _=>(intOf a).toNat)
    case atStart=>exact ⟨q,r,rfl,rfl,H1,rfl⟩
    case round=>
     obtain ⟨q1,r1,rfl,rfl,hh,rfl⟩:=hrel
     rcases Ii hh.p0 hh.q1 HF.p0 HF.p3 hyn1 HF.p4 (by rw [HF.p6];exact HF.q8) HF.p1 with ⟨hfin,kq,m1,m2,m3,k1,k2,k3,k4⟩ | ⟨q',r',k1,k2,kq,hh',ht,hr'⟩
     · rw [HF.p6] at hfin;have HE:=Lib.hid hfin;have k5:¬ ((m3:Int)<(m1:Int)):=Yo;clear hfin hh;go_wp2_with fail;go_meet;exact ⟨q1,r1,rfl,rfl,HE,rfl⟩
     · rw [HF.p6] at hr';have HH:=Lib.hid hh';have HQ:=Lib.hid kq;clear hh hh' kq
       rcases ht with ht | ⟨ht,m1,m2,m3,k3,k4,k5,k6⟩
       · rcases hr' with ⟨hr,hfin⟩ | ⟨hr1,hr⟩
         · have HE:=Lib.hid hfin;clear hfin;go_wp2_with fail;go_meet;exact ⟨q',r',rfl,rfl,HE,rfl⟩
         · go_wp2_with fail;go_roundw
           case rel=>exact ⟨q',r',rfl,rfl,⟨HH.out,hr1⟩,by trivial⟩
           case measure=>have:=HQ.out;simp [intOf];omega
       · have k7:(m3:Int)<(m1:Int):=by omega
         rcases hr' with ⟨hr,hfin⟩ | ⟨hr1,hr⟩
         · have HE:=Lib.hid hfin;clear hfin;go_wp2_with fail;go_meet;exact ⟨q',r',rfl,rfl,HE,rfl⟩
         · go_wp2_with fail;go_roundw
           case rel=>exact ⟨q',r',rfl,rfl,⟨HH.out,hr1⟩,by trivial⟩
           case measure=>have:=HQ.out;simp [intOf];omega
   case rest=>
    obtain ⟨q1,r1,rfl,rfl,hq1,rfl⟩:=hcut;have hY0:0<Y:=by have:=HF.p4;have:=HF.p6;omega
    obtain ⟨A,B,C,U2,c1,c2,c3,c4,hU2⟩:=LI (d:=un1) hY0 HF.q8 hq1.out;have hU2Y:U2<Y:=by rw [hU2];exact UB _ hY0
    obtain ⟨q2,m',r2,g1,g2,g3,g4,g5⟩:=Hy (yn0:=yn0) (U:=U2) (d:=un0) hyn1 HF.p3 (Vg hU2Y HF.q8) HF.p2;have H2:=Yh2 g4 g5;have HU2:=Yh2 hU2 hU2Y;clear g4 g5 hU2 hU2Y hY0;go_upto_block 2 with (fail)
    go_cut [18,16] (fun a b w1=>∃ q1 r1:Nat,a=.int .u64 (q1:Int)/\b=.int .u64 (r1:Int)/\Hid (q1=(U2*DB+un0) / Y)/\w=w1)
    case first=>
     go_wp2_with fail;go_loopw [18,16] (fun a b wr=>∃ q1 r1:Nat,a=.int .u64 (q1:Int)/\b=.int .u64 (r1:Int)/\Hid (En DB yn1 yn0 U2 un0 q1 r1/\r1<DB)/\w=wr) (fun a b _=>(intOf a).toNat)
     case atStart=>exact ⟨q2,r2,rfl,rfl,H2,rfl⟩
     case round=>
      obtain ⟨q1,r1,rfl,rfl,hh,rfl⟩:=hrel
      rcases Ii hh.p0 hh.q1 HF.p0 HF.p3 hyn1 (by rw [HF.p6];exact HU2.q1) (by rw [HF.p6];exact HF.q8) HF.p2 with ⟨hfin,kq,m1,m2,m3,k1,k2,k3,k4⟩ | ⟨q',r',k1,k2,kq,hh',ht,hr'⟩
      · rw [HF.p6] at hfin;have HE:=Lib.hid hfin;have k5:¬ ((m3:Int)<(m1:Int)):=Yo;clear hfin hh;go_wp2_with fail;go_meet;exact ⟨q1,r1,rfl,rfl,HE,rfl⟩
      · rw [HF.p6] at hr';have HH:=Lib.hid hh';have HQ:=Lib.hid kq;clear hh hh' kq
        rcases ht with ht | ⟨ht,m1,m2,m3,k3,k4,k5,k6⟩
        · rcases hr' with ⟨hr,hfin⟩ | ⟨hr1,hr⟩
          · have HE:=Lib.hid hfin;clear hfin;go_wp2_with fail;go_meet;exact ⟨q',r',rfl,rfl,HE,rfl⟩
          · go_wp2_with fail;go_roundw
            case rel=>exact ⟨q',r',rfl,rfl,⟨HH.out,hr1⟩,by trivial⟩
            case measure=>have:=HQ.out;simp [intOf];omega
        · have k7:(m3:Int)<(m1:Int):=by omega
          rcases hr' with ⟨hr,hfin⟩ | ⟨hr1,hr⟩
          · have HE:=Lib.hid hfin;clear hfin;go_wp2_with fail;go_meet;exact ⟨q',r',rfl,rfl,HE,rfl⟩
          · go_wp2_with fail;go_roundw
            case rel=>exact ⟨q',r',rfl,rfl,⟨HH.out,hr1⟩,by trivial⟩
            case measure=>have:=HQ.out;simp [intOf];omega
    case rest=>
     obtain ⟨q0,r0,rfl,rfl,hq0,rfl⟩:=hcut;have hY0:0<Y:=by have:=HF.p4;have:=HF.p6;omega
     obtain ⟨A',B',C',R',d1,d2,d3,d4,hR'⟩:=LI (d:=un0) hY0 HF.q8 hq0.out;obtain ⟨A2,Q,R,e1,e2,e3,e4,e5⟩:=P9 (by have:=HF.p4;have:=HF.p6;omega) HF.p1 HF.p2 HF.p5 HF.p7 HF.q8 hq1.out HU2.p0 hq0.out hR';have HE:=Yh2 e4 e5;clear hR' hY0 e4 e5;go_wp2_with fail;go_ret2;exact ⟨by rw [HE.p0,HE.q1];rfl,0,rfl⟩
end
section
open Go Go.RowKit Go.Proofs Pl
namespace Pl
theorem BJ (B:Nat) (xs:List Nat) (k:Nat) (h:k<xs.length):val B (xs.drop k)=atD xs k+B*val B (xs.drop (k+1)):=by
 rw [UU h,AY,BW h]
theorem JT (o:List Nat) (k q:Nat) (h:k<o.length):(o.set k q).drop k=q::o.drop (k+1):=by
 rw [UU (by simpa using h)];rw [List.getElem_set_self,List.drop_set_of_lt (by omega)]
theorem Li {B W:Nat} {xs o:List Nat} {k R:Nat} (hx:k<xs.length) (ho:k<o.length) (h:val B (xs.drop (k+1))=val B (o.drop (k+1))*W+R):
 val B (xs.drop k)=val B ((o.set k ((R*B+atD xs k) / W)).drop k)*W+(R*B+atD xs k) % W:=by
 rw [BJ B xs k hx,h,JT o k _ ho,AY];have e:=Uu (R*B+atD xs k) W;generalize (R*B+atD xs k) / W=Q at*;generalize (R*B+atD xs k) % W=S at*;rw [T9,Uq,TX Q W,Uf,TX B R];omega
theorem Ks {V Q W R n:Nat} (h:V=Q*W+R) (hR:R<W):Q=V / W/\R=V % W:=by
 subst h;have hW:0<W:=Yo;refine ⟨?_,?_⟩
 · rw [TX,Wc hW,Vi hR,UE]
 · rw [TX,Nat.mul_add_mod,VP hR]
end Pl
theorem Lc (A:Option Addr) (c:Nat) (xs:List Nat) (y:Nat) (w:World) (hx:Rd w A xs) (hlx:xs.length<=c) (hcx:c<=maxLen) (hy:0<y) (hyW:y<WB) (hlen:xs.length<=17592186044416):
 Calls Tryz.prog 243 #[.slice A xs.length c,.int .u64 (y:Int)] w fun e w'=>∃ v,e=.returned (.tuple #[v,.int .u64 ((val WB xs % y:Nat):Int)])/\Ow w' w.heap.size v (dg WB (val WB xs / y))/\Yg w w':=by
 unfold maxLen at hcx;obtain ⟨i0,hi0,hz0,hz1,hz2⟩:=info_parts Bf;go_enter Tryz.func243,Tryz.ntmps243;go_wp2_with (at_make;refine wpList_make_full _ rfl (.tmp 10) (.tmp 10) 32 rfl w.heap.size 146 i0 _ 1 Tryz.underlying32 hi0 hz0 hz1 .i64 .i64 _ _ xs.length rfl rfl (by simp) (by simp) (by rw [hz2];omega) (by unfold maxLen;omega) (TL _) ?_;intro w1 hown0 hg0);rw [Cm] at hown0;have hb1:Yg w w1:=(Below.refl _ _).grown hg0 (TL _) (by simp);have hO:Ow w1 w.heap.size (.slice (some ⟨w.heap.size,0,none⟩) xs.length xs.length) (List.replicate xs.length 0):=⟨All.replicate Ay _,by rw [Uk];exact hown0⟩;clear hown0 hg0 hi0 hz0 hz1 hz2;have HX:=Lib.hid hx;clear hx;go_loopw [7,8] (fun r i wr=>∃ (k R:Nat) (o:List Nat),r=.int .u64 (R:Int)/\i=.int .i64 ((k:Int) - 1)/\k<=xs.length/\R<y/\Hid (o.length=xs.length)/\Ow wr w.heap.size (.slice (some ⟨w.heap.size,0,none⟩) xs.length xs.length) o/\Hid (val WB (xs.drop k)=val WB (o.drop k)*y+R)/\Yg w wr) (fun _ i _=>(intOf i+1).toNat)
 case atStart=>
  refine ⟨xs.length,0,_,rfl,rfl,TL _,hy,Uk,hO,?_,hb1⟩;show _=_;rw [VW,UI (by rw [Uk];exact TL _)];simp [val]
 case round=>
  obtain ⟨k0,R,o,rfl,rfl,hk,hR,hol,hO1,hv,hbw⟩:=hrel
  cases k0 with
  | zero=>
   have hbare:=AG (some ⟨w.heap.size,0,none⟩) xs.length o wr hO1.rd (by rw [hol.out];omega) (by unfold maxLen;omega);rw [hol.out] at hbare;have HB:=Lib.hid hbare;have hst:=hO1.strip;have hdg:=AB Aw hO1.1;have he:=hv.out;rw [VI,VI] at he;obtain ⟨e1,e2⟩:=Ks (n:=0) he hR;rw [e1] at hdg;rw [hdg] at hst HB;have HR:=Yh3 hst hbw e2;clear hO1 hbw hst hdg hbare hb1 hO hv e1 e2 he hol;go_wp2_with (go_at_call 221;refine HB.out.mono ?_;rintro e w' ⟨rfl,rfl⟩);go_ret2;exact ⟨_,by rw [<- HR.q2];rfl,HR.p0,HR.p1⟩
  | succ k=>
   have hkl:k<xs.length:=Yo;have hko:k<o.length:=by rw [hol.out];exact hkl
   obtain ⟨b,o',rfl,hcell⟩:=(HX.out.keep hbw).at_ hkl;have hm:=hcell k _ (AD hkl);have hxl:atD xs k<WB:=AW HX.p0 k;obtain ⟨g,hg,-,-,-,-,-,hcs,hfr⟩:=hO1.at_ (j:=k) hko;injection hg with hg
   injection hg with hg
   subst hg;have hm3:=hcs k _ (AD hko);have hf3:=hfr k;have hdiv:=Hq R (atD xs k) y;have hstep:=Li hkl hko hv.out;obtain ⟨q,hq⟩:∃ q,q=(R*WB+atD xs k) / y:=⟨_,rfl⟩;obtain ⟨R',hR'⟩:∃ R',R'=(R*WB+atD xs k) % y:=⟨_,rfl⟩;rw [<- hq,<- hR'] at hstep hdiv;have hD:∀ w:World,_:=fun w=>hdiv w hR hyW hxl
   have hqW:q<WB:=by
    rw [hq];apply UK;have:(R+1)*WB<=y*WB:=TW _ hR;rw [Uq] at this;omega
   have hR2:R'<y:=by rw [hR'];exact UB _ hy
   have hset:=hO1.set_ (g:=w.heap.size) (j:=k) (x:=q) hol.out.symm hqW;have hbs:=hbw.setCell (p:=⟨w.heap.size,k,none⟩) (TL _) (.int .u64 (q:Int));have HOL:Hid ((o.set k q).length=xs.length):=by show _=_;rw [Uh];exact hol.out
   have HS:=Yh3 hset hstep hbs;have HD:=Lib.hid hD;have hkm:(((k+1:Nat):Int) - 1)=(k:Int):=Yo;rw [hkm];clear hkm hD hdiv hcell hcs hfr hset hstep hbs hq hR' hO1 hbw hxl hv hqW hO hb1 hko;go_wp2_with (go_at_call 261;refine (HD.out _).mono ?_;rintro e w' ⟨rfl,q1,rfl⟩);go_roundw
   case rel=>exact ⟨k,R',_,rfl,rfl,Yo,hR2,HOL,(HS.p0.drewN q1),HS.p1,BC HS.q2 q1⟩
   case measure=>simp [intOf]
end
section
open Go Go.RowKit Go.Proofs Pl
namespace Pl
theorem PM {B M N x c:Nat} (hB:B=N*M) (hM:0<M) (hx:x<B) (hc:c<M):
 x*M % B % M=0/\x*M % B+c<B/\x*M / B<M/\x*M / B=x / N/\x*M % B+c+B*(x*M / B)=x*M+c:=by
 have e:x*M % B=x % N*M:=by rw [hB,VR]
 have e2:x*M / B=x / N:=by rw [hB,Nat.mul_div_mul_right _ _ hM]
 have hN:0<N:=by
  rcases TQ N with h | h
  · subst h;omega
  · exact h
 have h1:x % N<N:=UB _ hN;refine ⟨by rw [e];exact Nat.mul_mod_left _ _,?_,?_,e2,?_⟩
 · rw [e,hB];have:(x % N+1)*M<=N*M:=TW _ h1;rw [Uq] at this;omega
 · rw [e2];apply UK;rw [<- hB];exact hx
 · have:=Wa (x*M) B;omega
theorem O0 {B M:Nat} {Z zs:List Nat} {i c z c':Nat} (hl:zs.length=i) (h:val B zs+B ^ i*c=vt B Z i*M) (hz:z+B*c'=atD Z i*M+c):
 val B (zs++[z])+B ^ (i+1)*c'=vt B Z (i+1)*M:=by
 rw [Cr,hl,UD,Uf,Vc,<- T9,hz,vt,Uq,<- h,T9,Uf];omega
end Pl
theorem Ms (x c s:Nat) (hx:x<WB) (hs:0<s) (hs2:s<64) (hc:c<2 ^ s):
 ∃ a z c':Nat,IntKind.u64.wrap ((x:Int)*2 ^ s)=(a:Int)/\bits .or .u64 (a:Int) (c:Int)=(z:Int)/\(x:Int) / 2 ^ (64 - s)=(c':Int)/\z<WB/\c'<2 ^ s/\z+WB*c'=x*2 ^ s+c:=by
 have hp:0<2 ^ s:=Ve Yd;have eW:WB=2 ^ (64 - s)*2 ^ s:=by rw [BO,<- UF];congr 1;omega
 obtain ⟨h1,h2,h3,h4,h5⟩:=PM eW hp hx hc;refine ⟨x*2 ^ s % WB,x*2 ^ s % WB+c,x / 2 ^ (64 - s),?_,?_,by simp,h2,by rw [<- h4];exact h3,by rw [<- h4];exact h5⟩
 · have:=C7 (x*2 ^ s);rw [<- this];congr 1
 · have hlt:x*2 ^ s % WB<WB:=UB _ Ay;have hW:WB=18446744073709551616:=by unfold WB;rfl
   have e:=u64_or_nat (x*2 ^ s % WB) c (by rw [<- hW];omega) (by rw [<- hW];omega);rw [nat_join s _ c h1 hc] at e;exact e
theorem Ly (A:Option Addr) (c:Nat) (xs:List Nat) (n:Nat) (w:World) (hx:Rd w A xs) (hA:A=none->c=0) (hlx:xs.length<=c) (hcx:c<=maxLen) (hn:n<=65536) (hlen:xs.length<=1099511627776 - 2000):
 Calls Tryz.prog 245 #[.slice A xs.length c,.int .i64 (n:Int)] w fun e w'=>∃ v,e=.returned (.tuple #[v,.int .i64 0])/\Ow w' w.heap.size v (dg WB (val WB xs*2 ^ n))/\Yg w w':=by
 have hb:=AG A c xs w hx hlx hcx;have hle:=Al xs;have hmv:=FA A c (strip xs) (n / 64) w hx.strip hA Yo;obtain ⟨P,hP⟩:∃ P,P=strip xs:=⟨_,rfl⟩;obtain ⟨k,hk⟩:∃ k,k=n / 64:=⟨_,rfl⟩;obtain ⟨s,hs⟩:∃ s,s=n % 64:=⟨_,rfl⟩;have hkI:(n:Int) / 64=(k:Int):=Yo;have hsI:(n:Int) % 64=(s:Int):=Yo;have hs64:s<64:=Yo
 have hpow:2 ^ n=WB ^ k*2 ^ s:=by
  rw [BO,<- Nat.pow_mul,<- UF];congr 1;omega
 obtain ⟨Z,hZ⟩:∃ Z,Z=List.replicate k 0++P:=⟨_,rfl⟩;rw [<- hP] at hmv hb;rw [<- hk,<- hZ] at hmv;have hZl:Z.length<=1099511627776:=by rw [hZ,TM,Uk,hP];omega
 have hZv:val WB Z*2 ^ s=val WB xs*2 ^ n:=by
  rw [hZ,Fz,hP,AN,hpow,TX (WB ^ k),Uf]
 have HV:=Lib.hid hZv;have HB:=Lib.hid hb;have HM:=Lib.hid hmv;have HPL:=Lib.hid (show (strip xs).length=P.length by rw [hP]);clear hb hmv hle hx hZv hpow hZ hk hs hP;by_cases hs0:s=0
 · subst hs0;have hsI:(n:Int) % 64=0:=hsI;go_enter Tryz.func245,Tryz.ntmps245;go_wp2_with (go_at_call 221;refine HB.out.mono ?_;rintro e w' ⟨rfl,rfl⟩);refine HM.out.mono ?_;rintro e w1 ⟨v,rfl,hO,hbw⟩;obtain ⟨G,g,rfl,hg1,hg2⟩:=hO.slice;have hbare:=AG G g Z w1 hO.rd hg1 hg2;have hst:=hO.strip;have hdg:=AB Aw hO.1;rw [hdg] at hbare hst;have HO:=Yh2 hst hbw;have HBR:=Lib.hid hbare;clear hO hbw hst hdg hbare hg1 hg2;go_wp2_with (go_at_call 221;refine HBR.out.mono ?_;rintro e w' ⟨rfl,rfl⟩);go_ret2;have hv:=HV.out;rw [Nat.pow_zero,Vk] at hv;exact ⟨_,rfl,by rw [<- hv];exact HO.p0,HO.q1⟩
 · have hs1:0<s:=by omega
   go_enter Tryz.func245,Tryz.ntmps245;go_wp2_with (go_at_call 221;refine HB.out.mono ?_;rintro e w' ⟨rfl,rfl⟩);refine HM.out.mono ?_;rintro e w1 ⟨v,rfl,hO,hbw1⟩;obtain ⟨G,g,rfl,hg1,hg2⟩:=hO.slice;unfold maxLen at hg2;have HZ:=Lib.hid hO.1;go_wp2_with fail;go_loopw [8,29] (fun c i wr=>∃ (zs:List Nat) (q:Nat),i=.int .i64 zs.length/\zs.length<=Z.length/\c=.int .u64 (q:Int)/\Hid (q<2 ^ s)/\Ow wr w.heap.size (.slice G Z.length g) (zs++Z.drop zs.length)/\Hid (val WB zs+WB ^ zs.length*q=vt WB Z zs.length*2 ^ s)/\Yg w wr) (fun _ i _=>Z.length - (intOf i).toNat)
   case atStart=>exact ⟨[],0,rfl,by simp,rfl,Ve Yd,hO,by show _=_;simp [vt,val],hbw1⟩
   case round=>
    obtain ⟨zs,q,rfl,hz,rfl,hq,hO,hv,hbw⟩:=hrel;have hlo:(zs++Z.drop zs.length).length=Z.length:=by simp;omega
    by_cases hlt:zs.length<Z.length
    · obtain ⟨g',hg,-,hg3,hg4,-,-,hcs,hfr⟩:=hO.at_ (j:=zs.length) (by rw [hlo];exact hlt);subst hg;have hm:=hcs zs.length _ (G6 hlt);have hf0:=hfr zs.length;obtain ⟨a,z,c',f1,f2,f3,f4,f5,f6⟩:=Ms (atD Z zs.length) q s (HZ.out.getD Ay zs.length) hs1 hs64 hq.out;have hset:=hO.set_ (g:=g') hlo.symm (j:=zs.length) (x:=z) f4;rw [El _ hlt] at hset;have hstep:=O0 (Z:=Z) rfl hv.out f6;have hbs:=hbw.setCell (p:=⟨g',zs.length,none⟩) hg3 (.int .u64 (z:Int));have HO:=Yh4 hset hstep hbs f5;clear hO hbw hv hq f4 f5 f6 hset hstep hbs hcs hfr hlo hbw1;go_wp2_with fail;go_roundw
      case rel=>exact ⟨_,c',by rw [TM];rfl,by simp;omega,rfl,HO.q3,HO.p0,by unfold Hid;simpa using HO.p1,HO.p2⟩
      case measure=>simp [intOf];omega
    · have hzl:zs.length=Z.length:=by omega
      obtain ⟨i0,hi0,hz0,hz1,hz2⟩:=info_parts Bf
      have hO':Ow wr w.heap.size (.slice G Z.length g) zs:=by
       rw [UI (by omega),UA] at hO;exact hO
      have hqW:q<WB:=by
       rw [BO];exact TV hq.out (Ua Yd Yo)
      have hal:=hO'.keep ((Below.refl wr.heap.size wr).alloc (TL _) (.cells #[.int .u64 (q:Int)] 146))
      have hfin:val WB (zs++[q])=val WB xs*2 ^ n:=by
       rw [Cr,hv.out,BV _ _ (by omega),HV.out]
      have HF:=Yh4 hfin (hO'.1.append (All.cons hqW All.nil)) hbw hO'.lt;have HA:=Lib.hid hal.2;clear hO hO' hbw hv hq hbw1 hqW hfin hlo hal;go_wp2_with (at_builtin;refine wpList_append_own _ rfl (.tmp 47) (.tmp 49) 32 rfl w.heap.size 146 i0 _ 1 8 Tryz.underlying32 hi0 hz0 hz1 hz2 rfl Yd _ _ _ rfl HA.out ⟨wr.heap.size,0,none⟩ 1 1 (wis [q]) rfl rfl (FP _ _ _) (Eg _) (by unfold maxLen;omega) Yo (by have:=HF.p2.size;simp;omega) ?_;intro v w5 hown hg5 hn5);have hO2:Ow w5 w.heap.size v (zs++[q]):=⟨HF.p1,by rw [<- Da,TM];exact hown⟩;have hbw2:=(HF.p2.alloc HF.p2.size (.cells #[.int .u64 (q:Int)] 146)).grown hg5 (by have:=HF.p2.size;simp;omega) (fun j hj=>(HF.q3 j hj).1);obtain ⟨G2,g2,rfl,hh1,hh2⟩:=hO2.slice;have hbare:=AG G2 g2 _ w5 hO2.rd hh1 hh2;have hst:=hO2.strip;have hdg:=AB Aw hO2.1;rw [hdg,HF.p0] at hbare hst;have HR:=Yh2 hst hbw2;have HBR:=Lib.hid hbare;clear hst hbw2 hdg hbare hO2 hown hg5 hn5;refine HBR.out.mono ?_;rintro e w' ⟨rfl,rfl⟩;go_wp2_with fail;go_ret2;exact ⟨_,rfl,HR.p0,HR.q1⟩
end
section
open Go Go.RowKit Go.Proofs Pl
namespace Pl
theorem Oo {B M N x y:Nat} (hB:B=N*M) (hM:0<M) (hx:x<B):
 y*N % B=y % M*N/\x / M<N/\x / M+y % M*N<B/\M*(x / M+y % M*N)+x % M=x+B*(y % M):=by
 have hN:0<N:=by
  rcases TQ N with h | h
  · subst h;omega
  · exact h
 have h1:x / M<N:=by apply UK;rw [TX,<- hB];exact hx
 have h2:y % M<M:=UB _ hM;refine ⟨by rw [hB,TX N M,VR],h1,?_,?_⟩
 · rw [hB];have:(y % M+1)*N<=M*N:=TW _ h2;rw [Uq,TX M N] at this;omega
 · have e:=Wa x M;rw [T9,hB,TX N M,Uf,TX N (y % M)];omega
theorem Pn {B M:Nat} {D zs:List Nat} {z:Nat} (h:M*val B zs+atD D 0 % M=vt B D zs.length+B ^ zs.length*(atD D zs.length % M))
 (hz:M*z+atD D zs.length % M=atD D zs.length+B*(atD D (zs.length+1) % M)):
 M*val B (zs++[z])+atD D 0 % M=vt B D (zs.length+1)+B ^ (zs.length+1)*(atD D (zs.length+1) % M):=by
 have e:=congrArg (B ^ zs.length*·) hz;simp only [T9] at e;have e2:M*(B ^ zs.length*z)=B ^ zs.length*(M*z):=VK _ _ _;rw [Cr,vt,UD,T9,e2,Uf];omega
theorem Q0 {B M:Nat} {D zs:List Nat} (hM:0<M) (hl:D.length<=zs.length) (h:M*val B zs+atD D 0 % M=vt B D zs.length+B ^ zs.length*(atD D zs.length % M)):val B zs=val B D / M:=by
 rw [BV B D hl,Ck hl,Nat.zero_mod,UQ,UE] at h;rw [<- h,Wc hM,Vi (UB _ hM),UE]
theorem GX (P:List Nat) (k i:Nat):atD (P.drop k) i=atD P (k+i):=by
 simp [atD,TS,List.getElem?_drop]
theorem EK {B:Nat} (hB:0<B) {P:List Nat} (hP:All B P) (k:Nat):val B (P.drop (min k P.length))=val B P / B ^ k:=by
 rcases Nat.le_total k P.length with h | h
 · rw [U8 h];have e:=AC B P k h;have hl:=Bc (hP.take k);rw [TU,U8 h] at hl;rw [e,VL,Wc (Ve hB),Vi hl,UE]
 · rw [Nat.min_eq_right h,VW,De];have hl:=Bc hP;rw [Vi (TV hl (Ua hB h))]
end Pl
theorem MQ (x y s:Nat) (hx:x<WB) (hs:0<s) (hs2:s<64):
 ∃ a t z:Nat,(x:Int) / 2 ^ s=(a:Int)/\IntKind.u64.wrap ((y:Int)*2 ^ (64 - s))=(t:Int)/\bits .or .u64 (a:Int) (t:Int)=(z:Int)/\a<WB/\z<WB/\2 ^ s*z+x % 2 ^ s=x+WB*(y % 2 ^ s)/\(y=0->z=a):=by
 have hp:0<2 ^ s:=Ve Yd;have eW:WB=2 ^ (64 - s)*2 ^ s:=by rw [BO,<- UF];congr 1;omega
 have hW:WB=18446744073709551616:=by unfold WB;rfl
 obtain ⟨h1,h2,h3,h4⟩:=Oo (y:=y) eW hp hx;refine ⟨x / 2 ^ s,y % 2 ^ s*2 ^ (64 - s),x / 2 ^ s+y % 2 ^ s*2 ^ (64 - s),by simp,?_,?_,Ug (Vh _ _) hx,h3,h4,?_⟩
 · have:=C7 (y*2 ^ (64 - s));rw [h1] at this;rw [<- this];congr 1
 · have e:=u64_or_nat (x / 2 ^ s) (y % 2 ^ s*2 ^ (64 - s)) (by rw [<- hW];exact Ug (Vh _ _) hx) (by rw [<- hW];exact Ug (Nat.le_add_left _ _) h3);rw [Nat.or_comm,nat_join (64 - s) _ _ (Nat.mul_mod_left _ _) h2,VL] at e;exact e
 · rintro rfl;simp
theorem Ee (B:Option Addr) (c:Nat) (w:World):Calls Tryz.prog 242 #[.slice B 0 c] w fun e w'=>∃ v,e=.returned v/\Ow w' w.heap.size v []/\Below w.heap.size w w':=
 Do B c [] w (Rd.nil _ _) (by simp)
theorem K4 (B:Option Addr) (c:Nat) (P:List Nat) (h:P=[]) (w:World):Calls Tryz.prog 242 #[.slice B P.length c] w fun e w'=>∃ v,e=.returned v/\Ow w' w.heap.size v P/\Below w.heap.size w w':=by
 subst h;exact Ee B c w
theorem QQ (A:Option Addr) (c:Nat) (xs:List Nat) (n:Nat) (w:World) (hx:Rd w A xs) (hA:A=none->c=0) (hlx:xs.length<=c) (hcx:c<=maxLen) (hn:n<=65536) (hlen:xs.length<=1099511627776):
 Calls Tryz.prog 248 #[.slice A xs.length c,.int .i64 (n:Int)] w fun e w'=>∃ v,e=.returned (.tuple #[v,.int .i64 0])/\Ow w' w.heap.size v (dg WB (val WB xs / 2 ^ n))/\Yg w w':=by
 have hb:=AG A c xs w hx hlx hcx;have hle:=Al xs;obtain ⟨P,hP⟩:∃ P,P=strip xs:=⟨_,rfl⟩;obtain ⟨k,hk⟩:∃ k,k=n / 64:=⟨_,rfl⟩;obtain ⟨s,hs⟩:∃ s,s=n % 64:=⟨_,rfl⟩;have hkI:(n:Int) / 64=(k:Int):=Yo;have hsI:(n:Int) % 64=(s:Int):=Yo;have hs64:s<64:=Yo
 have hpow:2 ^ n=WB ^ k*2 ^ s:=by
  rw [BO,<- Nat.pow_mul,<- UF];congr 1;omega
 have hPr:Rd w A P:=hP ▸ hx.strip;have hPl:P.length<=c:=by rw [hP];omega
 have hPl2:P.length<=1099511627776:=by rw [hP];omega
 rw [<- hP] at hb;obtain ⟨p,hp⟩:∃ p,p=min k P.length:=⟨_,rfl⟩;have hpmin:min (k:Int) (P.length:Int)=(p:Int):=Yo;have hpl:p<=P.length:=Yo;obtain ⟨D,hD⟩:∃ D,D=P.drop p:=⟨_,rfl⟩;have hDl:P.length - p=D.length:=by rw [hD,UJ]
 have hDv:val WB D / 2 ^ s=val WB xs / 2 ^ n:=by
  rw [hD,hp,EK Ay hPr.1,hP,AN,hpow,Nat.div_div_eq_div_mul]
 have HV:=Lib.hid hDv;have HB:=Lib.hid hb;have HPR:=Lib.hid hPr;have HD:=Lib.hid hD;unfold maxLen at*;have HL:=Lib.hid hDl;clear hb hle hx hDv hpow hk hs hP hp hD hPr hDl hlx hlen;go_enter Tryz.func248,Tryz.ntmps248;go_upto_region 4 with (go_at_call 221;refine HB.out.mono ?_;rintro e w' ⟨rfl,rfl⟩)
 go_cut [6] (fun v w1=>∃ (G:Option Addr) (g:Nat),v=.slice G D.length g/\D.length<=g/\g<=9223372036854775807/\Ow w1 w.heap.size (.slice G D.length g) D/\Yg w w1)
 case first=>
  cases A with
  | none=>
   obtain rfl:=hA rfl;have h0:P.length=0:=Yo;obtain rfl:p=0:=by omega
   have hP0:P=[]:=TN h0;have hDP:D=P:=by rw [HD.out];rfl
   subst hDP;have HP0:=Lib.hid hP0;have hpmin:min (k:Int) (D.length:Int)=0:=hpmin;clear h0 hP0;go_wp2_with fail;refine (Ee _ _ w).mono ?_;rintro e w1 ⟨v,rfl,hO,hbw⟩;have hO:Ow w1 w.heap.size v D:=by rw [HP0.out];exact hO
   obtain ⟨G,g,rfl,hg1,hg2⟩:=hO.slice;go_wp2_with fail;go_meet;exact ⟨G,g,rfl,hg1,hg2,hO,hbw⟩
  | some ad=>
   by_cases h0:P.length=0
   · obtain rfl:p=0:=by omega
     have hP0:P=[]:=TN h0;have hDP:D=P:=by rw [HD.out];rfl
     subst hDP;have HP0:=Lib.hid hP0;have hpmin:min (k:Int) (D.length:Int)=0:=hpmin;clear h0 hP0;by_cases hc:c=0
     · subst hc;go_wp2_with fail;refine (Ee _ _ w).mono ?_;rintro e w1 ⟨v,rfl,hO,hbw⟩;have hO:Ow w1 w.heap.size v D:=by rw [HP0.out];exact hO
       obtain ⟨G,g,rfl,hg1,hg2⟩:=hO.slice;go_wp2_with fail;go_meet;exact ⟨G,g,rfl,hg1,hg2,hO,hbw⟩
     · go_wp2_with fail;refine (K4 _ _ _ HP0.out w).mono ?_;rintro e w1 ⟨v,rfl,hO,hbw⟩;obtain ⟨G,g,rfl,hg1,hg2⟩:=hO.slice;go_wp2_with fail;go_meet;exact ⟨G,g,rfl,hg1,hg2,hO,hbw⟩
   · obtain ⟨b,o,hA2,-⟩:=HPR.out.at_ (j:=0) Yo;injection hA2 with hA2
     subst hA2;have hd:=DV HPR.out p hpl hPl;rw [<- HD.out] at hd;by_cases hc:c=p
     · have hc':p=c:=hc.symm;subst hc';have hD0:D=[]:=TN (by rw [<- HL.out];omega);subst hD0;clear hd;go_wp2_with fail;refine (Ee _ _ w).mono ?_;rintro e w1 ⟨v,rfl,hO,hbw⟩;obtain ⟨G,g,rfl,hg1,hg2⟩:=hO.slice;go_wp2_with fail;go_meet;exact ⟨G,g,rfl,hg1,hg2,hO,hbw⟩
     · rw [if_neg hc] at hd;have hcl:=Do (some ⟨b,o+p,none⟩) (c - p) D w hd (by rw [<- HL.out];omega);rw [<- HL.out] at hcl;have HC:=Lib.hid hcl;clear hcl hd;go_wp2_with fail;refine HC.out.mono ?_;rintro e w1 ⟨v,rfl,hO,hbw⟩;obtain ⟨G,g,rfl,hg1,hg2⟩:=hO.slice;go_wp2_with fail;go_meet;exact ⟨G,g,rfl,hg1,hg2,hO,hbw⟩
 case rest=>
  obtain ⟨G,g,rfl,hg1,hg2,hO,hbw1⟩:=hcut;have hDl2:D.length<=1099511627776:=by rw [<- HL.out];omega
  by_cases hs0:s=0
  · subst hs0;have hsI:(n:Int) % 64=0:=hsI;have hv:=HV.out;rw [Nat.pow_zero,Nat.div_one] at hv;have hbare:=AG G g D wc hO.rd hg1 (by unfold maxLen;omega);have hst:=hO.strip;have hdg:=AB Aw hO.1;rw [hv] at hdg;rw [hdg] at hbare hst;have HO:=Yh2 hst hbw1;have HBR:=Lib.hid hbare;clear hO hbw1 hst hdg hbare hv hpmin;go_wp2_with (go_at_call 221;refine HBR.out.mono ?_;rintro e w' ⟨rfl,rfl⟩);go_ret2;exact ⟨_,rfl,HO.p0,HO.q1⟩
  · have hs1:0<s:=by omega
    have HDA:=Lib.hid hO.1;clear hpmin;go_wp2_with fail;go_loopw [32] (fun i wr=>∃ zs:List Nat,i=.int .i64 zs.length/\zs.length<=D.length/\Ow wr w.heap.size (.slice G D.length g) (zs++D.drop zs.length)/\Hid (2 ^ s*val WB zs+atD D 0 % 2 ^ s=vt WB D zs.length+WB ^ zs.length*(atD D zs.length % 2 ^ s))/\Yg w wr) (fun i _=>D.length - (intOf i).toNat)
    case atStart=>exact ⟨[],rfl,by simp,hO,by show _=_;simp [vt,val],hbw1⟩
    case round=>
     obtain ⟨zs,rfl,hz,hO,hv,hbw⟩:=hrel;have hlo:(zs++D.drop zs.length).length=D.length:=by simp;omega
     by_cases hlt:zs.length<D.length
     · obtain ⟨g',hg,-,hg3,hg4,-,-,hcs,hfr⟩:=hO.at_ (j:=zs.length) (by rw [hlo];exact hlt);subst hg;have hm:=hcs zs.length _ (G6 hlt);have hf0:=hfr zs.length;obtain ⟨a,t,z,f1,f2,f3,f4,f5,f6,f7⟩:=MQ (atD D zs.length) (atD D (zs.length+1)) s (HDA.out.getD Ay zs.length) hs1 hs64;have hset:=hO.set_ (g:=g') hlo.symm (j:=zs.length) (x:=a) f4;have hl1:((zs++D.drop zs.length).set zs.length a).length=D.length:=by rw [Uh];exact hlo
       have hbs:=hbw.setCell (p:=⟨g',zs.length,none⟩) hg3 (.int .u64 (a:Int));have hstep:=Pn hv.out f6;by_cases hl2:zs.length+1<D.length
       · obtain ⟨g2,hg',-,-,-,-,-,hcs2,hfr2⟩:=hset.at_ (j:=zs.length) (by rw [hl1];exact hlt);injection hg' with hg'
         injection hg' with hg'
         subst hg';have hm1:=hcs2 zs.length a (by rw [List.getElem?_set_self (by rw [hlo];exact hlt)])
         have hm2:=hcs2 (zs.length+1) (atD D (zs.length+1)) (by
          rw [List.getElem?_set_ne (by omega),List.getElem?_append_right (by omega),VY,List.getElem?_drop,AD hl2])
         have hf1:=hfr2 zs.length;have hset2:=(hset.set_ (g:=g') hl1.symm (j:=zs.length) (x:=z) f5).drewN 1;rw [List.set_set,El _ hlt] at hset2;have hbs2:=BC (hbs.setCell (p:=⟨g',zs.length,none⟩) hg3 (.int .u64 (z:Int))) 1;have HO:=Yh3 hset2 hstep hbs2;clear hO hbw hv f4 f5 f6 f7 hset hstep hbs hcs hfr hlo hbw1 hset2 hbs2 hcs2 hfr2 hl1;obtain ⟨m,hmm⟩:∃ m,m=zs.length+1:=⟨_,rfl⟩;have hmI:(zs.length:Int)+1=(m:Int):=Yo;have hmlt:m<D.length:=Yo;have hmw:IntKind.i64.wrap (m:Int)=(m:Int):=by rw [IntKind.wrap_i64];omega
         rw [<- hmm] at hm2 f2;have HMM:=Lib.hid hmm;clear hmm hl2;go_upto_region 12 with (fail)
         go_region_with (fail)
         all_goals
          go_wp2_with fail;go_roundw
          case rel=>exact ⟨_,by rw [TM,HMM.out];rfl,by simp;omega,HO.p0,by unfold Hid;simpa using HO.p1,HO.q2⟩
          case measure=>have:=HMM.out;simp [intOf];omega
       · have hat0:atD D (zs.length+1)=0:=Ck Yo;have hza:=f7 hat0;subst hza;rw [El _ hlt] at hset;have HO:=Yh3 hset hstep hbs;clear hO hbw hv f2 f3 f4 f5 f6 f7 hset hstep hbs hcs hfr hlo hbw1 hat0 hl1;go_wp2_with fail;go_roundw
         case rel=>exact ⟨_,by rw [TM];rfl,by simp;omega,HO.p0,by unfold Hid;simpa using HO.p1,HO.q2⟩
         case measure=>simp [intOf];omega
     · have hzl:zs.length=D.length:=by omega
       have hO':Ow wr w.heap.size (.slice G D.length g) zs:=by
        rw [UI (by omega),UA] at hO;exact hO
       have hfin:val WB zs=val WB xs / 2 ^ n:=by
        rw [Q0 (Ve (by decide)) (by omega) hv.out,HV.out]
       have hbare:=AG G g zs wr hO'.rd Yo (by unfold maxLen;omega);have hst:=hO'.strip;have hdg:=AB Aw hO'.1;rw [hzl] at hbare;rw [hfin] at hdg;rw [hdg] at hbare hst;have HR:=Yh2 hst hbw;have HBR:=Lib.hid hbare;clear hO hO' hbw hst hdg hbare hfin hv hlo hbw1 hzl;go_wp2_with (go_at_call 221;refine HBR.out.mono ?_;rintro e w' ⟨rfl,rfl⟩);go_ret2;exact ⟨_,rfl,HR.p0,HR.q1⟩
end
end Go.Proofs.YtlblnmmfphiobaaGreat
