import Derived.Test.YtlblnmmfphiobaaGreatPNA3
import Derived.Lib.BufferWrite
import Derived.Maps.AppendAt
import Derived.Lib.AppendZeros
set_option maxRecDepth 100000
set_option maxHeartbeats 8000000
set_option linter.unusedVariables false
set_option linter.unusedSimpArgs false
namespace Go.Proofs.YtlblnmmfphiobaaGreat
section
open Go Go.RowKit Go.Proofs Pl
theorem JB {v1 v0 U u0 q r:Nat} (h:En WB v1 v0 U u0 q r) (hr:r<WB) (hq:q<WB) (h0:v0<WB) (h1:v1<WB) (hp:0<v1) (hU:U<v1*WB+v0) (hd:u0<WB):
 ∃ hi lo:Nat,(∀ w:World,Calls Tryz.prog 251 #[.int .u64 (q:Int),.int .u64 (v0:Int)] w fun e w'=>e=.returned (.tuple #[.int .u64 (hi:Int),.int .u64 (lo:Int)])/\w=w')/\
 ((q=(U*WB+u0) / (v1*WB+v0)/\((hi:Int)<(r:Int)∨(¬ (hi:Int)<(r:Int)/\((hi:Int)==(r:Int))=true/\(lo:Int)<=(u0:Int))))
 ∨(∃ q' s:Nat,IntKind.u64.wrap ((q:Int) - 1)=(q':Int)/\IntKind.u64.wrap ((r:Int)+(v1:Int))=(s:Int)/\q'<q/\En WB v1 v0 U u0 q' (r+v1)/\
  ((¬ (hi:Int)<(r:Int)/\((hi:Int)==(r:Int))=true/\¬ (lo:Int)<=(u0:Int))∨(¬ (hi:Int)<(r:Int)/\((hi:Int)==(r:Int))=false))/\
  (((s:Int)<(r:Int)/\q'=(U*WB+u0) / (v1*WB+v0))∨(¬ (s:Int)<(r:Int)/\s=r+v1/\s<WB)))):=by
 have hWe:WB=18446744073709551616:=by unfold WB;rfl
 refine ⟨q*v0 / WB,q*v0 % WB,Ft q v0 hq h0,?_⟩;have e:=Uu (q*v0) WB;have hl:=UB (q*v0) Ay;by_cases ht:q*v0<=WB*r+u0
 · refine Or.inl ⟨Fy h Yo ht,?_⟩;generalize q*v0 / WB=hi at*;generalize q*v0 % WB=lo at*;rw [hWe] at ht e hl hd;by_cases hlt:hi<r
   · exact Or.inl Yo
   · have:hi=r:=by omega
     subst this;exact Or.inr ⟨Yo,by simp,Yo⟩
 · obtain ⟨hq0,hh⟩:=Hf h hU hd (Or.inr Yo)
   have htest:((¬ ((q*v0 / WB:Nat):Int)<(r:Int)/\(((q*v0 / WB:Nat):Int)==(r:Int))=true/\¬ ((q*v0 % WB:Nat):Int)<=(u0:Int))∨(¬ ((q*v0 / WB:Nat):Int)<(r:Int)/\(((q*v0 / WB:Nat):Int)==(r:Int))=false)):=by
    generalize q*v0 / WB=hi at*;generalize q*v0 % WB=lo at*;rw [hWe] at*;by_cases heq:hi=r
    · subst heq;exact Or.inl ⟨Yo,by simp,Yo⟩
    · exact Or.inr ⟨Yo,by simp;omega⟩
   have hw:IntKind.u64.wrap ((q:Int) - 1)=((q - 1:Nat):Int):=by
    have:=wrap_u64 (q - 1) Yo;rw [<- this];congr 1;omega
   by_cases hs:r+v1<WB
   · exact Or.inr ⟨q - 1,r+v1,hw,wrap_u64 (r+v1) hs,Yo,hh,htest,Or.inr ⟨Yo,rfl,hs⟩⟩
   · refine Or.inr ⟨q - 1,(r+v1) % WB,hw,C7 (r+v1),Yo,hh,htest,Or.inl ⟨?_,Gs hh hU h0 Yo⟩⟩;rw [hWe] at hs hr h1 ⊢;omega
def CI (u2 u1 u0 v1 v0:Nat):Nat:=if v1<=u2 then WB - 1 else ((u2*WB+u1)*WB+u0) / (v1*WB+v0)
theorem Nc (u2 u1 u0 v1 v0:Nat) (w:World) (hp:0<v1) (h1:v1<WB) (h0:v0<WB) (hu1:u1<WB) (hu0:u0<WB):
 Calls Tryz.prog 247 #[.int .u64 (u2:Int),.int .u64 (u1:Int),.int .u64 (u0:Int),.int .u64 (v1:Int),.int .u64 (v0:Int)] w fun e w'=>e=.returned (.int .u64 (CI u2 u1 u0 v1 v0:Int))/\∃ q,w'=w.drewN q:=by
 by_cases hc:v1<=u2
 · have hg:Hid (CI u2 u1 u0 v1 v0=18446744073709551615):=by
    show _=_;rw [CI,if_pos hc];unfold WB;rfl
   have hcI:(v1:Int)<=(u2:Int):=Yo;clear h1 h0 hu1 hu0 hp;go_enter Tryz.func247,Tryz.ntmps247;go_wp2_with fail;go_ret;exact ⟨by rw [hg.out];rfl,0,rfl⟩
 · have hcI:¬ (v1:Int)<=(u2:Int):=by omega
   have hlt:u2<v1:=Yo;have hdiv:=Hq u2 u1 v1 w hlt h1 hu1;obtain ⟨q,hq⟩:∃ q,q=(u2*WB+u1) / v1:=⟨_,rfl⟩;obtain ⟨r,hr⟩:∃ r,r=(u2*WB+u1) % v1:=⟨_,rfl⟩;obtain ⟨U,hU⟩:∃ U,U=u2*WB+u1:=⟨_,rfl⟩;have hin:=Hj (D:=WB) (yn0:=v0) (u:=U) (d:=u0) hp hu0;rw [hU,<- hq,<- hr,<- hU] at hin;rw [<- hq,<- hr] at hdiv
   have hqW:q<WB:=by
    rw [hq];apply UK;have:(u2+1)*WB<=v1*WB:=TW _ hlt;rw [Uq] at this;omega
   have hrW:r<WB:=by rw [hr];exact Vg (UB _ hp) h1
   have hUl:U<v1*WB+v0:=by
    have:(u2+1)*WB<=v1*WB:=TW _ hlt;rw [Uq] at this;omega
   have hg:CI u2 u1 u0 v1 v0=(U*WB+u0) / (v1*WB+v0):=by rw [CI,if_neg hc,hU]
   have HF:=Yh5 hg hUl h1 h0 hu0;have HD:=Lib.hid hdiv;have HI:=Yh2 hin hrW;have HQ:=Lib.hid hqW;clear hg hUl h1 h0 hu0 hu1 hdiv hin hrW hqW hq hr hU hc hlt;go_enter Tryz.func247,Tryz.ntmps247;go_wp2_with (go_at_call 261;refine HD.out.mono ?_;rintro e w' ⟨rfl,n1,rfl⟩);go_loopw [11,12] (fun a b wr=>∃ q r n:Nat,a=.int .u64 (q:Int)/\b=.int .u64 (r:Int)/\Hid (En WB v1 v0 U u0 q r/\r<WB)/\Hid (q<WB)/\wr=w.drewN n) (fun a _ _=>(intOf a).toNat)
   case atStart=>exact ⟨q,r,n1,rfl,rfl,HI,HQ,rfl⟩
   case round=>
    obtain ⟨q1,r1,n,rfl,rfl,hh,hqW,rfl⟩:=hrel;obtain ⟨hi,lo,hM,hcase⟩:=JB hh.p0 hh.q1 hqW.out HF.p3 HF.p2 hp HF.p1 HF.q4;have HM:=Lib.hid hM;clear hM hh
    rcases hcase with ⟨hfin,t | ⟨t1,t2,t3⟩⟩ | ⟨q',s,k1,k2,kq,hh',t,ho⟩
    · have HE:=Lib.hid hfin;clear hfin;go_wp2_with (go_at_call 251;refine (HM.out _).mono ?_;rintro e w' ⟨rfl,rfl⟩);go_ret;exact ⟨by rw [HF.p0,<- HE.out];rfl,n,rfl⟩
    · have HE:=Lib.hid hfin;clear hfin;go_wp2_with (go_at_call 251;refine (HM.out _).mono ?_;rintro e w' ⟨rfl,rfl⟩);go_ret;exact ⟨by rw [HF.p0,<- HE.out];rfl,n,rfl⟩
    · have HH:=Lib.hid hh';have HKQ:=Lib.hid kq;clear hh' kq
      rcases ho with ⟨o1,hfin⟩ | ⟨o1,hs,hsW⟩
      · have HE:=Lib.hid hfin;clear hfin
        rcases t with ⟨t1,t2,t3⟩ | ⟨t1,t2⟩
        · go_wp2_with (go_at_call 251;refine (HM.out _).mono ?_;rintro e w' ⟨rfl,rfl⟩);go_ret;exact ⟨by rw [HF.p0,<- HE.out];rfl,n,rfl⟩
        · go_wp2_with (go_at_call 251;refine (HM.out _).mono ?_;rintro e w' ⟨rfl,rfl⟩);go_ret;exact ⟨by rw [HF.p0,<- HE.out];rfl,n,rfl⟩
      · have HS:Hid (En WB v1 v0 U u0 q' s/\s<WB):=⟨by rw [hs];exact HH.out,hsW⟩;have HQ':Hid (q'<WB):=by have:=hqW.out;have:=HKQ.out;show _<_;omega
        clear hs hsW HH
        rcases t with ⟨t1,t2,t3⟩ | ⟨t1,t2⟩
        · go_wp2_with (go_at_call 251;refine (HM.out _).mono ?_;rintro e w' ⟨rfl,rfl⟩);go_roundw
          case rel=>exact ⟨q',s,n,rfl,rfl,HS,HQ',by trivial⟩
          case measure=>have:=HKQ.out;simp [intOf];omega
        · go_wp2_with (go_at_call 251;refine (HM.out _).mono ?_;rintro e w' ⟨rfl,rfl⟩);go_roundw
          case rel=>exact ⟨q',s,n,rfl,rfl,HS,HQ',by trivial⟩
          case measure=>have:=HKQ.out;simp [intOf];omega
end
section
namespace Pl
theorem IG {B P v1 v0 u2 u1 u0 Vr Ur V U g:Nat} (hV:V=(v1*B+v0)*P+Vr) (hVr:Vr<P) (hU:U=((u2*B+u1)*B+u0)*P+Ur) (hUr:Ur<P)
 (hv0:v0<B) (hu1:u1<B) (hu0:u0<B) (h1:0<v1) (hn:B<=2*v1+2) (hB:1<B) (hlt:U<V*B)
 (hg:g=if v1<=u2 then B - 1 else ((u2*B+u1)*B+u0) / (v1*B+v0)):(g=U / V∨g=U / V+1)/\g<B:=by
 obtain ⟨V2,hV2⟩:∃ V2,V2=v1*B+v0:=⟨_,rfl⟩;obtain ⟨U3,hU3⟩:∃ U3,U3=(u2*B+u1)*B+u0:=⟨_,rfl⟩;rw [<- hV2] at hV hg;rw [<- hU3] at hU hg;have hP:0<P:=Yo
 have hBV:B<=V2:=by
  have:1*B<=v1*B:=TW _ h1;omega
 have hVp:0<V:=by
  have:0<V2*P:=Nat.mul_pos Yo hP;omega
 have hqB:U / V<B:=UK hlt;have hV1:V<(V2+1)*P:=by rw [Uq];omega
 have hVg:V2*P<=V:=Yo;have hU1:U<(U3+1)*P:=by rw [Uq];omega
 have hUg:U3*P<=U:=Yo;have e:=Uu U V;have hm:=UB U hVp;obtain ⟨q,hq⟩:∃ q,q=U / V:=⟨_,rfl⟩;rw [<- hq] at e hqB ⊢;have hq1:q*V<=U:=by rw [TX];omega
 have hq2:U<(q+1)*V:=by rw [Uq,TX q V];omega
 by_cases hc:v1<=u2
 · rw [if_pos hc] at hg
   have h2:(B - 2)*(v1+1)<=v1*B:=by
    obtain ⟨b,rfl⟩:∃ b,B=b+2:=⟨B - 2,Yo⟩;rw [VQ,T9,T9,TX b v1];omega
   have h3:(B - 2)*V<=U:=by
    have a1:V2+1<=(v1+1)*B:=by rw [Uq];omega
    have a2:v1*B*B<=U3:=by
     have:v1*B*B<=u2*B*B:=TW _ (TW _ hc);rw [hU3,Uq];omega
    calc (B - 2)*V<=(B - 2)*((V2+1)*P):=TY _ (VZ hV1)
     _<=(B - 2)*((v1+1)*B*P):=TY _ (TW _ a1)
     _=(B - 2)*(v1+1)*B*P:=by rw [Uf,Uf,Uf]
     _<=v1*B*B*P:=TW _ (TW _ h2)
     _<=U3*P:=TW _ a2
     _<=U:=hUg
   have h4:B - 2<=q:=by rw [hq];exact (Wh hVp).2 h3
   omega
 · rw [if_neg hc] at hg;have hV2p:0<V2:=Yo
   have a:q<=g:=by
    rw [hg];refine (Wh hV2p).2 (Nat.le_of_lt_succ (Nat.lt_of_mul_lt_mul_right (a:=P) ?_));have:q*V2*P<=q*V:=by rw [Uf];exact TY _ hVg
    exact Ug (TP this hq1) hU1
   have b:g<=q+1:=by
    rcases Ul (q+1) g with h | h
    · exfalso;have a1:g*V2<=U3:=by rw [hg];exact Nat.div_mul_le_self _ _
      have a2:(q+2)*V2<=U3:=TP (TW _ h) a1
      have a3:(q+2)*V2<(q+1)*(V2+1):=by
       refine Nat.lt_of_mul_lt_mul_right (a:=P) ?_
       calc (q+2)*V2*P<=U3*P:=TW _ a2
        _<=U:=hUg
        _<(q+1)*V:=hq2
        _<=(q+1)*((V2+1)*P):=TY _ (VZ hV1)
        _=(q+1)*(V2+1)*P:=(Uf _ _ _).symm
      rw [Uq,T9,Uq] at a3;omega
    · exact h
   have c:g<B:=by
    rw [hg];apply UK;have a1:(u2+1)*B<=v1*B:=TW _ Yo
    have a2:(u2*B+u1+1)*B<=V2*B:=by
     refine TW _ ?_;rw [Uq] at a1;omega
    rw [Uq] at a2;omega
   omega
end Pl
end
section
open Go Go.RowKit Go.Proofs Pl
namespace Pl
theorem Mm {B G:Nat} {a a0 ys:List Nat} {k c b z c2 b2:Nat} (hk:k<a.length) (h:val B a+G*vt B ys k=val B a0+B ^ k*(c+b)) (hz:z+(G*atD ys k+c+b)=atD a k+B*(c2+b2)):
 val B (a.set k z)+G*vt B ys (k+1)=val B a0+B ^ (k+1)*(c2+b2):=by
 have e1:=Eb (B:=B) a k z hk;have e2:=congrArg (B ^ k*·) hz;simp only [T9] at e2;have e3:B ^ (k+1)*(c2+b2)=B ^ k*(B*c2)+B ^ k*(B*b2):=by rw [UD,Uf,T9,T9]
 have e4:G*vt B ys (k+1)=G*vt B ys k+B ^ k*(G*atD ys k):=by rw [vt,T9,VK]
 rw [e3,e4];rw [T9] at h;omega
theorem M6 {B G:Nat} {a a0 ys:List Nat} {c b z b2:Nat} (hk:ys.length<a.length) (h:val B a+G*vt B ys ys.length=val B a0+B ^ ys.length*(c+b)) (hz:z+(c+b)=atD a ys.length+B*b2):
 val B (a.set ys.length z)+G*val B ys=val B a0+B ^ (ys.length+1)*b2:=by
 have e1:=Eb (B:=B) a ys.length z hk;have e2:=congrArg (B ^ ys.length*·) hz;simp only [T9] at e2;have e3:B ^ (ys.length+1)*b2=B ^ ys.length*(B*b2):=by rw [UD,Uf]
 rw [BV B ys (TL _)] at h;rw [T9] at h;rw [e3];omega
theorem MO {B:Nat} {a a0 ys:List Nat} {k c z c2:Nat} (hk:k<a.length) (h:val B a+B ^ k*c=val B a0+vt B ys k) (hz:z+B*c2=atD a k+atD ys k+c):
 val B (a.set k z)+B ^ (k+1)*c2=val B a0+vt B ys (k+1):=by
 have e1:=Eb (B:=B) a k z hk;have e2:=congrArg (B ^ k*·) hz;simp only [T9] at e2;rw [vt,UD,Uf];omega
theorem Mz {B:Nat} {a a0 ys:List Nat} {c z c2:Nat} (hk:ys.length<a.length) (h:val B a+B ^ ys.length*c=val B a0+vt B ys ys.length) (hz:z+B*c2=atD a ys.length+c):
 val B (a.set ys.length z)+B ^ (ys.length+1)*c2=val B a0+val B ys:=by
 have e1:=Eb (B:=B) a ys.length z hk;have e2:=congrArg (B ^ ys.length*·) hz;simp only [T9] at e2;rw [BV B ys (TL _)] at h;rw [UD,Uf];omega
theorem KS {X U V q M:Nat} (hV:0<V) (h:X+q*V=U) (hq:q=U / V∨q=U / V+1):q=U / V/\X=U % V:=by
 have e:=Uu U V;have hm:=UB U hV;have hle:q<=U / V:=(Wh hV).2 Yo;have:q=U / V:=by omega
 refine ⟨this,?_⟩;rw [TX,<- this] at e;omega
theorem Ku {X Y U V q M o:Nat} (hV:0<V) (hX:X<M) (hY:Y<M) (hVM:V<M) (h:X+q*V=U+M) (hq:q=U / V∨q=U / V+1) (hb:Y+M*o=X+V):0<q/\q - 1=U / V/\Y=U % V:=by
 have e:=Uu U V;have hm:=UB U hV;rw [TX] at e;generalize U / V=Q at*;generalize U % V=R at*
 have h1:q=Q+1:=by
  rcases hq with h1 | h1
  · subst h1;omega
  · exact h1
 have h2:q*V=Q*V+V:=by rw [h1,Uq,Nat.one_mul]
 have h3:Y+M*o=R+M:=Yo;refine ⟨Yo,Yo,?_⟩
 rcases o with _ | _ | o
 · omega
 · omega
 · exfalso;rw [T9,T9] at h3;omega
theorem LX {pre a post:List Nat} {k:Nat} (h:k<a.length):(pre++a++post)[pre.length+k]?=some (atD a k):=by
 rw [TR,List.getElem?_append_right (by omega),VY,List.getElem?_append_left h,AD h]
theorem QJ {pre a post:List Nat} {k:Nat} (h:k<a.length) (x:Nat):(pre++a++post).set (pre.length+k) x=pre++a.set k x++post:=by
 rw [TR,UM _ _ (by omega),VY,List.set_append_left _ _ h,TR]
end Pl
theorem Jq {x y b:Nat} (hx:x<WB) (hy:y<WB) (hb:b<=1):
 (x+WB - y - b) % WB+(y+b)=x+WB*(if x<y+b then 1 else 0)/\(if x<y+b then 1 else 0)<=1/\(x+WB - y - b) % WB<WB:=by
 have hp:=Ay;refine ⟨?_,by split<;>omega,UB _ Ay⟩
 split
 · rw [VP (by omega)];omega
 · rw [show x+WB - y - b=(x - y - b)+WB from by omega,Nat.add_mod_right,VP (by omega)];omega
theorem K9 (q y c b x:Nat) (hq:q<WB) (hy:y<WB) (hc:c<WB) (hb:b<=1) (hx:x<WB):
 ∃ hi lo lo2 c1 c2 z b2:Nat,(∀ w:World,Calls Tryz.prog 251 #[.int .u64 (q:Int),.int .u64 (y:Int)] w fun e w'=>e=.returned (.tuple #[.int .u64 (hi:Int),.int .u64 (lo:Int)])/\w=w')/\
  (∀ w:World,(callFunc 249 #[.int .u64 (lo:Int),.int .u64 (c:Int),.int .u64 0]).run Tryz.prog w=.ok (.value (.tuple #[.int .u64 (lo2:Int),.int .u64 (c1:Int)])) w)/\
  IntKind.u64.wrap ((hi:Int)+(c1:Int))=(c2:Int)/\
  (∀ w:World,(callFunc 252 #[.int .u64 (x:Int),.int .u64 (lo2:Int),.int .u64 (b:Int)]).run Tryz.prog w=.ok (.value (.tuple #[.int .u64 (z:Int),.int .u64 (b2:Int)])) w)/\
  z<WB/\b2<=1/\c2<WB/\z+(q*y+c+b)=x+WB*(c2+b2):=by
 have hp:=Ay;have hlo:=UB (q*y) hp;have hlo2:=UB (q*y % WB+c) hp;obtain ⟨s1,s2,s3⟩:=Jq hx hlo2 hb;have e1:=Uu (q*y) WB;have e2:=Uu (q*y % WB+c) WB
 have hc2:q*y / WB+(q*y % WB+c) / WB<WB:=by
  have h0:q*y<=(WB - 1)*(WB - 1):=UN Yo Yo
  rcases Ul (q*y / WB+(q*y % WB+c) / WB) WB with h | h
  · exact h
  · exfalso;have h1:WB*WB<=WB*(q*y / WB+(q*y % WB+c) / WB):=TY _ h;rw [T9] at h1
    have h2:(WB - 1)*(WB - 1)+(WB - 1)+(WB - 1)+1=WB*WB:=by
     obtain ⟨b,hb⟩:∃ b,WB=b+1:=⟨WB - 1,Yo⟩;rw [hb,VQ,Uq,T9];omega
    omega
 refine ⟨q*y / WB,q*y % WB,(q*y % WB+c) % WB,(q*y % WB+c) / WB,q*y / WB+(q*y % WB+c) / WB,_,_,Ft q y hq hy,EF _ c hlo hc,?_,Fq x _ b hb,s3,s2,hc2,?_⟩
 · rw [<- We];exact wrap_u64 _ hc2
 · rw [T9,T9];omega
end
section
open Go Go.RowKit Go.Proofs Pl
theorem Rd.far {w w':World} {b o g:Nat} {xs:List Nat} (h:Rd w (some ⟨b,o,none⟩) xs) (hg:w.grownBy w' (some g)) (hne:b≠g):Rd w' (some ⟨b,o,none⟩) xs:=by
 refine ⟨h.1,h.2.imp id ?_⟩;rintro ⟨b',o',hA,hc⟩;injection hA with hA
 injection hA with h1 h2
 subst h1;subst h2;exact ⟨b,o,rfl,fun j x hj=>hg.cell (a:=⟨b,o+j,none⟩) (hc j x hj) (fun e=>hne (by injection e))⟩
theorem Ek {w w':World} {g:Nat} (h:w.grownBy w' (some g)) (i:Nat) (v:Value):w.grownBy (w'.setCell ⟨g,i,none⟩ v) (some g):=h.trans (Lib.grownBy_setCell w' g i v)
theorem GZ {w:World} {B0 g N cap:Nat} {pre a post:List Nat} (h:Ow w B0 (.slice (some ⟨g,0,none⟩) N cap) (pre++a++post)) {k:Nat} (hk:k<a.length):
 w.cell? ⟨g,pre.length+k,none⟩=some (.int .u64 (atD a k:Int))/\w.frozen? ⟨g,pre.length+k,none⟩=false/\atD a k<WB/\N=(pre++a++post).length:=by
 obtain ⟨g',hg,hn,-,-,-,-,hcs,hfr⟩:=h.at_ (j:=pre.length+k) (by simp;omega);injection hg with hg
 injection hg with hg
 subst hg;exact ⟨hcs _ _ (LX hk),hfr _,h.1 _ (TO (LX hk)),hn⟩
theorem Gb {w:World} {B0 g N cap:Nat} {pre a post:List Nat} (h:Ow w B0 (.slice (some ⟨g,0,none⟩) N cap) (pre++a++post)) {k:Nat} (hk:k<a.length) {x:Nat} (hx:x<WB):
 Ow (w.setCell ⟨g,pre.length+k,none⟩ (.int .u64 (x:Int))) B0 (.slice (some ⟨g,0,none⟩) N cap) (pre++a.set k x++post):=by
 have e:=h.set_ (GZ h hk).2.2.2 (j:=pre.length+k) hx
 rwa [QJ hk] at e
theorem Iu {w:World} {B0 g N cap:Nat} {pre a post:List Nat} (h:Ow w B0 (.slice (some ⟨g,0,none⟩) N cap) (pre++a++post)):All WB a:=fun x hx=>h.1 x (by simp [hx])
theorem JC (g i c N cap B0 bv ov d q:Nat) (pre a0 post ys:List Nat) (w:World) (hO:Ow w B0 (.slice (some ⟨g,0,none⟩) N cap) (pre++a0++post)) (hi:pre.length=i) (ha:ys.length+1=a0.length)
 (hac:a0.length<=c) (hc:c<=maxLen) (hy:Rd w (some ⟨bv,ov,none⟩) ys) (hne:bv≠g) (hyd:ys.length<=d) (hd:d<=maxLen) (hq:q<WB) (hV:0<val WB ys) (hqv:q=val WB a0 / val WB ys∨q=val WB a0 / val WB ys+1):
 Calls Tryz.prog 246 #[.slice (some ⟨g,i,none⟩) a0.length c,.slice (some ⟨bv,ov,none⟩) ys.length d,.int .u64 (q:Int)] w fun e w'=>e=.returned (.int .u64 ((val WB a0 / val WB ys:Nat):Int))/\
  (∃ a':List Nat,a'.length=a0.length/\val WB a'=val WB a0 % val WB ys/\Ow w' B0 (.slice (some ⟨g,0,none⟩) N cap) (pre++a'++post))/\w.grownBy w' (some g):=by
 subst hi;unfold maxLen at hc hd;have HY:=Lib.hid hy;have HQV:=Lib.hid hqv;have HQ:=Lib.hid hq;have HO0:=Lib.hid hO;have HV:=Lib.hid hV;obtain ⟨n,hn⟩:∃ n,n=a0.length:=⟨_,rfl⟩;have HN:=Lib.hid hn;rw [<- hn] at ha hac ⊢;clear hy hqv hq hO hV hn;go_enter Tryz.func246,Tryz.ntmps246;go_wp2_with fail;go_loopw [7,8,18] (fun b cc j wr=>∃ (k b1 c1:Nat) (a1:List Nat),j=.int .i64 (k:Int)/\k<=ys.length/\b=.int .u64 (b1:Int)/\cc=.int .u64 (c1:Int)/\Hid (b1<=1/\c1<WB)/\Hid (a1.length=n)/\Ow wr B0 (.slice (some ⟨g,0,none⟩) N cap) (pre++a1++post)/\Hid (val WB a1+q*vt WB ys k=val WB a0+WB ^ k*(c1+b1))/\w.grownBy wr (some g)) (fun _ _ j _=>ys.length - (intOf j).toNat)
 case atStart=>exact ⟨0,0,0,a0,rfl,Yo,rfl,rfl,⟨Yo,Ay⟩,HN.out.symm,HO0.out,by show _=_;simp [vt],World.grownBy.refl _ _⟩
 case round=>
  obtain ⟨k,b1,c1,a1,rfl,hk,rfl,rfl,hbc,hl,hO,hv,hgr⟩:=hrel;by_cases hlt:k<ys.length
  · obtain ⟨b',o',hA,hcell⟩:=(HY.out.far hgr hne).at_ hlt;injection hA with hA
    injection hA with hA1 hA2
    subst hA1;subst hA2;have hm:=hcell k _ (AD hlt);have hka:k<a1.length:=by rw [hl.out];omega
    have hkn:k<n:=Yo;obtain ⟨hm2,hf2,hx,-⟩:=GZ hO hka;obtain ⟨hi,lo,lo2,d1,c2,z,b2,f1,f2,f3,f4,f5,f6,f7,f8⟩:=K9 q (atD ys k) c1 b1 (atD a1 k) HQ.out (AW HY.p0 k) hbc.q1 hbc.p0 hx;have hput:=Gb hO hka f5;have hstep:=Mm hka hv.out f8;have hgs:=Ek hgr (pre.length+k) (.int .u64 (z:Int));have hl2:(a1.set k z).length=n:=by rw [Uh];exact hl.out
    have HS:=Yh6 hput hstep hgs hl2 f6 f7;have HM:=Lib.hid f1;clear hcell hO hv hgr hbc hl hx f1 f5 f6 f7 f8 hput hstep hgs hl2 hka;go_wp2_with (go_at_call 251;refine (HM.out _).mono ?_;rintro e w' ⟨rfl,rfl⟩);go_roundw
    case rel=>exact ⟨k+1,b2,c2,_,by go_num,Yo,rfl,rfl,⟨HS.p4,HS.q5⟩,HS.p3,HS.p0,HS.p1,HS.p2⟩
    case measure=>simp [intOf];omega
  · obtain rfl:k=ys.length:=by omega
    have hka:ys.length<a1.length:=by rw [hl.out];omega
    have hkn:ys.length<n:=Yo;obtain ⟨hm2,hf2,hx,-⟩:=GZ hO hka;have hwin:=Iu hO;obtain ⟨s1,s2,s3⟩:=Jq hx hbc.q1 hbc.p0;have hS:=Fq (atD a1 ys.length) c1 b1 hbc.p0;obtain ⟨z,hz⟩:∃ z,z=(atD a1 ys.length+WB - c1 - b1) % WB:=⟨_,rfl⟩;obtain ⟨b2,hb2⟩:∃ b2,b2=(if atD a1 ys.length<c1+b1 then 1 else 0):=⟨_,rfl⟩;rw [<- hz,<- hb2] at hS s1;rw [<- hz] at s3;rw [<- hb2] at s2;have hput:=Gb hO hka s3;have hlast:=M6 hka hv.out s1;have hgs:=Ek hgr (pre.length+ys.length) (.int .u64 (z:Int));obtain ⟨a2,ha2⟩:∃ a2,a2=a1.set ys.length z:=⟨_,rfl⟩;have hl2:a2.length=n:=by rw [ha2,Uh];exact hl.out
    rw [<- ha2] at hput hlast;have hb2c:b2=0∨b2=1:=Yo;clear hz hb2 s1 s2 s3 hwin hO hv hgr hl hbc hx ha2 hka
    rcases hb2c with rfl | rfl
    · rw [UQ,UE] at hlast;obtain ⟨hr1,hr2⟩:=KS (M:=0) HV.out hlast HQV.out;have HE:=Yh5 hr1 hr2 hput hgs hl2;clear hr1 hr2 hput hgs hl2 hlast;go_wp2_with fail;go_ret;exact ⟨by rw [<- HE.p0];rfl,⟨a2,HE.q4,HE.p1,HE.p2⟩,HE.p3⟩
    · have HPUT:=Lib.hid hput;have HLAST:=Lib.hid hlast;have HGS:=Lib.hid hgs;have HL2:=Lib.hid hl2;clear hput hlast hgs hl2;go_wp2_with fail;go_loopw [8,72] (fun cc j wx=>∃ (k c3:Nat) (a3:List Nat),j=.int .i64 (k:Int)/\k<=ys.length/\cc=.int .u64 (c3:Int)/\Hid (c3<=1)/\Hid (a3.length=n)/\Ow wx B0 (.slice (some ⟨g,0,none⟩) N cap) (pre++a3++post)/\Hid (val WB a3+WB ^ k*c3=val WB a2+vt WB ys k)/\w.grownBy wx (some g)) (fun _ j _=>ys.length - (intOf j).toNat)
      case atStart=>exact ⟨0,0,a2,rfl,Yo,rfl,(by show _<=_;omega),HL2.out,HPUT.out,by show _=_;simp [vt],HGS.out⟩
      case round=>
       obtain ⟨k,c3,a3,rfl,hk3,rfl,hc3,hl3,hO3,hv3,hgr3⟩:=hrel;by_cases hlt3:k<ys.length
       · obtain ⟨b',o',hA,hcell⟩:=(HY.out.far hgr3 hne).at_ hlt3;injection hA with hA
         injection hA with hA1 hA2
         subst hA1;subst hA2;have hm3:=hcell k _ (AD hlt3);have hka3:k<a3.length:=by rw [hl3.out];omega
         have hkn3:k<n:=Yo;obtain ⟨hm4,hf4,hx3,-⟩:=GZ hO3 hka3;have hyk:=AW HY.p0 k;have hA3:=Ff (atD a3 k) (atD ys k) c3 hx3 hyk hc3.out;have hzc:=Wa (atD a3 k+atD ys k+c3) WB;have hz4:=UB (atD a3 k+atD ys k+c3) Ay
         have hc4:(atD a3 k+atD ys k+c3) / WB<=1:=by
          have:=hc3.out;have h2:atD a3 k+atD ys k+c3<WB*2:=Yo;have:=UK h2;omega
         obtain ⟨z4,hz4e⟩:∃ z4,z4=(atD a3 k+atD ys k+c3) % WB:=⟨_,rfl⟩;obtain ⟨c4,hc4e⟩:∃ c4,c4=(atD a3 k+atD ys k+c3) / WB:=⟨_,rfl⟩;rw [<- hz4e,<- hc4e] at hA3 hzc;rw [<- hz4e] at hz4;rw [<- hc4e] at hc4;have hput3:=Gb hO3 hka3 hz4;have hstep3:=MO hka3 hv3.out hzc;have hgs3:=Ek hgr3 (pre.length+k) (.int .u64 (z4:Int));have hl4:(a3.set k z4).length=n:=by rw [Uh];exact hl3.out
         have HS:=Yh5 hput3 hstep3 hgs3 hl4 hc4;clear hcell hO3 hv3 hgr3 hc3 hl3 hx3 hyk hzc hz4 hc4 hz4e hc4e hput3 hstep3 hgs3 hl4 hka3;go_wp2_with fail;go_roundw
         case rel=>exact ⟨k+1,c4,_,by go_num,Yo,rfl,HS.q4,HS.p3,HS.p0,HS.p1,HS.p2⟩
         case measure=>simp [intOf];omega
       · obtain rfl:k=ys.length:=by omega
         have hka3:ys.length<a3.length:=by rw [hl3.out];omega
         have hkn3:ys.length<n:=Yo;obtain ⟨hm4,hf4,hx3,-⟩:=GZ hO3 hka3;have hzc:=Wa (atD a3 ys.length+c3) WB;have hz4:=UB (atD a3 ys.length+c3) Ay;have hzw:IntKind.u64.wrap ((atD a3 ys.length:Int)+(c3:Int))=(((atD a3 ys.length+c3) % WB:Nat):Int):=C7 (atD a3 ys.length+c3);obtain ⟨z4,hz4e⟩:∃ z4,z4=(atD a3 ys.length+c3) % WB:=⟨_,rfl⟩;rw [<- hz4e] at hzc hz4 hzw;have hput3:=Gb hO3 hka3 hz4;have hlast3:=Mz hka3 hv3.out hzc;have hgs3:=Ek hgr3 (pre.length+ys.length) (.int .u64 (z4:Int));have hl4:(a3.set ys.length z4).length=n:=by rw [Uh];exact hl3.out
         have hlast:=HLAST.out;rw [Vk] at hlast;have hXM:=Bc (Iu HPUT.out);rw [HL2.out,<- ha] at hXM;have hYM:=Bc (Iu hput3);rw [hl4,<- ha] at hYM;have hVM:val WB ys<WB ^ (ys.length+1):=TV (Bc HY.p0) (Ua Ay Yo);obtain ⟨r0,r1,r2⟩:=Ku HV.out hXM hYM hVM hlast HQV.out hlast3
         have hqw:IntKind.u64.wrap ((q:Int) - 1)=((val WB a0 / val WB ys:Nat):Int):=by
          have hqq:=HQ.out;have:=wrap_u64 (q - 1) Yo;rw [<- r1,<- this];congr 1;omega
         obtain ⟨Q,hQe⟩:∃ Q,Q=val WB a0 / val WB ys:=⟨_,rfl⟩;rw [<- hQe] at hqw;have HE:=Yh5 hQe r2 hput3 hgs3 hl4;clear hO3 hv3 hgr3 hc3 hl3 hx3 hzc hz4 hz4e hput3 hlast3 hgs3 hl4 hlast hXM hYM hVM r0 r1 r2 hQe hka3;go_wp2_with fail;go_ret;exact ⟨by rw [<- HE.p0];rfl,⟨_,HE.q4,HE.p1,HE.p2⟩,HE.p3⟩
end
section
namespace Pl
theorem Sc (B:Nat) {xs:List Nat} {m:Nat} (h:xs.length=m+2):val B xs=(atD xs (m+1)*B+atD xs m)*B ^ m+val B (xs.take m):=by
 have e:=AC B xs m Yo;rw [BJ B xs m (by omega),BJ B xs (m+1) (by omega),UI (by omega),De] at e;rw [e,UQ,UE,TX B,VL (atD xs m),TX (B ^ m)];omega
theorem Pd (B:Nat) {xs:List Nat} {m:Nat} (h:xs.length=m+3):val B xs=((atD xs (m+2)*B+atD xs (m+1))*B+atD xs m)*B ^ m+val B (xs.take m):=by
 have e:=AC B xs m Yo;rw [BJ B xs m (by omega),BJ B xs (m+1) (by omega),BJ B xs (m+2) (by omega),UI (by omega),De] at e;simp only [UQ,UE] at e;rw [e,TX B (atD xs (m+2)),VL (atD xs (m+1)),TX B,VL (atD xs m),TX (B ^ m)];omega
theorem Ea {B:Nat} {xs:List Nat} (h:All B xs) {m:Nat} (hm:m<=xs.length):val B (xs.take m)<B ^ m:=by
 have:=Bc (h.take m)
 rwa [TU,U8 hm] at this
section
variable {B D:Nat} {us qs a':List Nat} {i n U0:Nat}
theorem Lo (hB:0<B) (hus:All B us) (hi:i+n+1<=us.length) (h2:val B (us.drop (i+1))<D) (hD:D<B ^ n):
 val B ((us.drop i).take (n+1))=val B (us.drop i)/\val B ((us.drop i).take (n+1))<D*B/\val B (us.drop (i+n+1))=0:=by
 have e:=AC B (us.drop (i+1)) n (by rw [UJ];omega);rw [VG,show i+1+n=i+n+1 from by omega] at e
 have hz:val B (us.drop (i+n+1))=0:=by
  rcases TQ (val B (us.drop (i+n+1))) with h | h
  · exact h
  · exfalso;have:B ^ n*1<=B ^ n*val B (us.drop (i+n+1)):=TY _ h;omega
 have e3:=AC B (us.drop i) (n+1) (by rw [UJ];omega);rw [VG,show i+(n+1)=i+n+1 from by omega,hz,UQ,UE] at e3;have e4:=BJ B us i Yo;have hlt:=LN hus hB i;refine ⟨e3.symm,?_,hz⟩;rw [<- e3,e4];have:B*(val B (us.drop (i+1))+1)<=B*D:=TY _ h2;rw [T9,TX B D] at this;omega
theorem Mj (hB:0<B) (hus:All B us) (hi:i+n+1<=us.length) (hqi:i<qs.length) (h1:val B us+B ^ (i+1)*(D*val B (qs.drop (i+1)))=U0) (h2:val B (us.drop (i+1))<D) (hD:D<B ^ n)
 (hl:a'.length=n+1) (ha:val B a'=val B ((us.drop i).take (n+1)) % D):
 val B (us.take i++a'++us.drop (i+n+1))+B ^ i*(D*val B ((qs.set i (val B ((us.drop i).take (n+1)) / D)).drop i))=U0/\val B ((us.take i++a'++us.drop (i+n+1)).drop i)<D:=by
 obtain ⟨w1,w2,w3⟩:=Lo hB hus hi h2 hD;have hti:(us.take i).length=i:=by rw [TU];omega
 have e0:=AC B us i Yo;have e5:=Uu (val B ((us.drop i).take (n+1))) D;rw [<- w1] at e0;rw [JT qs i _ hqi,AY];rw [<- ha] at e5;generalize val B ((us.drop i).take (n+1)) / D=q at*;generalize val B ((us.drop i).take (n+1))=X at*
 have hv:val B (us.take i++a'++us.drop (i+n+1))=val B (us.take i)+B ^ i*val B a':=by
  rw [TR,BR,hti,BR,w3,UQ,UE]
 refine ⟨?_,?_⟩
 · rw [hv,<- h1,e0];generalize val B (qs.drop (i+1))=Z;rw [<- e5,T9,T9,T9,UD,Uf (B ^ i) B,VK D B Z];omega
 · have e6:(us.take i++a'++us.drop (i+n+1)).drop i=a'++us.drop (i+n+1):=by
    rw [TR];exact List.drop_left' hti
   rw [e6,BR,w3,UQ,UE,ha];exact UB _ Yo
theorem MA {P:Nat} (hB:0<B) {L k:Nat} (hus:All B us) (hl:us.length=L+1) (hk:k+n=L+1) (hn:0<n) (hU:val B us<B ^ L*P) (hD:B ^ (n - 1)*P<=D):val B (us.drop k)<D:=by
 have e:=EK hB hus k;rw [U8 (by omega)] at e;rw [e];apply UK;refine TV hU ?_;have e2:B ^ L*P=B ^ k*(B ^ (n - 1)*P):=by rw [<- Uf,<- UF];congr 2;omega
 rw [e2];exact TY _ hD
theorem PZ {a b M:Nat} (hM:0<M) (hb:0<b) (h1:val B us+B ^ 0*(D*val B (qs.drop 0))=U0) (h2:val B (us.drop 0)<D) (hU:U0=a*M) (hDe:D=b*M):val B qs=a / b/\val B us=a % b*M:=by
 rw [VI] at h1 h2;rw [Nat.pow_zero,Nat.one_mul] at h1;obtain ⟨e1,e2⟩:=Ks (n:=0) (V:=U0) (Q:=val B qs) (W:=D) (R:=val B us) (by rw [TX];omega) h2;rw [hU,hDe] at e1 e2;rw [Nat.mul_div_mul_right _ _ hM] at e1;rw [VR] at e2;exact ⟨e1,e2⟩
end
end Pl
end
section
open Go Go.RowKit Go.Proofs Pl
theorem Gq (m:Nat):Builtin.zeroCells (Value.int .u64 0).cells m=(wis (List.replicate m 0)).toArray:=by
 apply Array.ext
 · simp [Builtin.zeroCells,wis,Value.cells]
 · intro i h1 h2;have e:(Value.int IntKind.u64 0).cells=#[Value.int IntKind.u64 0]:=rfl;simp [Builtin.zeroCells,wis,e,Nat.mod_one]
theorem FE (w:World) {B n cap g m:Nat} {xs:List Nat} (h:Ow w B (.slice (some ⟨g,0,none⟩) n cap) xs) (hn:n=xs.length) (hb:B<=w.heap.size) (hl:(n+m)*8<=140737488355328):
 ∃ v' w',(Builtin.append_ #[32,3] 32 #[.slice (some ⟨g,0,none⟩) n cap,.int .i64 (m:Int)]).run Tryz.prog w=.ok v' w'/\Ow w' B v' (xs++List.replicate m 0)/\w.grownBy w' (some g):=by
 subst hn;obtain ⟨i0,hi0,hz0,hz1,hz2⟩:=info_parts Bf;have ht:=Tryz.underlying32;have htn:=Tryz.underlying3;have hall:All WB (xs++List.replicate m 0):=h.1.append (All.replicate Ay m);have hw:IntKind.i64.wrap (m:Int)=m:=by rw [IntKind.wrap_i64];omega
 have hneg:¬ ((m:Int)<0):=Yo;have h48:¬ (281474976710656<(m:Int)*8):=Yo;have hlen:(xs++List.replicate m 0).length=xs.length+m:=by simp
 rcases h.2.2 with ⟨hv,_⟩ | ⟨g',cap',cur,hv,hbg,hg,hnc,hcm,hcs,htake⟩
 · cases hv
 · injection hv with hv _ hc
   injection hv with hv
   injection hv with hv
   subst hv;subst hc;by_cases hm:m=0
   · subst hm;refine ⟨.slice (some ⟨g,0,none⟩) xs.length cap,w,?_,by rw [List.replicate_zero,UA];exact h,World.grownBy.refl _ _⟩;have hw0:IntKind.i64.wrap 0=0:=by decide
     simp [Builtin.append_,run_underlying ht,run_underlying htn,sizeOf,typeInfo,zeroValue,hi0,hz0,hz1,hz2,asInt,asIntOf,hnc,Addr.add_lit,hw0,storeCells]
   by_cases hroom:xs.length+m<=cap
   · have hfit:xs.length+0+(wis (List.replicate m 0)).length<=cur.size:=by rw [AU,Uk,hcs];omega
     have hst:=run_storeCells_at Tryz.prog g xs.length 146 (wis (List.replicate m 0)) 0 cur w hg hfit (Eg _);simp only [UE] at hst
     have hr:(Builtin.append_ #[32,3] 32 #[.slice (some ⟨g,0,none⟩) xs.length cap,.int .i64 (m:Int)]).run Tryz.prog w=.ok (.slice (some ⟨g,0,none⟩) (xs.length+m) cap) (w.setRow g (cur.toList.take xs.length++wis (List.replicate m 0)++cur.toList.drop (xs.length+(wis (List.replicate m 0)).length)).toArray):=by
      simp [Builtin.append_,run_underlying ht,run_underlying htn,sizeOf,typeInfo,zeroValue,hi0,hz0,hz1,hz2,asInt,asIntOf,hw,hneg,h48,hroom,hm,Addr.add_lit,Gq,hst]
     refine ⟨_,_,hr,⟨hall,by rw [AU];omega,.inr ⟨g,cap,_,by rw [hlen],hbg,setRow_heap w g cur _ 146 _ hg,Yo,hcm,?_,?_⟩⟩,⟨rfl,rfl,rfl,by simp,fun k _ hk=>setRow_other w g k _ (fun e=>hk (by rw [e]))⟩⟩
     · simp only [List.size_toArray,TM,TU,UJ,Array.length_toList,AU,Uk];rw [hcs];omega
     · have htk:cur.toList.take xs.length=wis xs:=by rw [<- htake,Vk]
       rw [hlen,htk,Da];have e2:xs.length+m=(wis (xs++List.replicate m 0)).length:=by rw [AU,hlen]
       simp only [Vk];rw [e2,List.take_left]
   · have holds:∀ j u,(wis xs)[j]?=some u->w.cell? ((⟨g,0,none⟩:Addr).add j)=some u:=h.2.cells (g:=g) rfl;have hfo:=run_firstCells_some (P:=Tryz.prog) w.drew 1 xs.length ⟨g,0,none⟩ xs.length cap (wis xs) (by rw [AU,Vk]) (by simpa using holds)
     have h48':¬ (281474976710656<Builtin.nextslicecap (xs.length+m) cap*8):=by
      have:=growslice_fits (need:=xs.length+m) (old:=cap) (bytes:=8) Yo hl;omega
     have h63':¬ (9223372036854775807<((xs.length:Int)+(m:Int))):=Yo
     have hr:(Builtin.append_ #[32,3] 32 #[.slice (some ⟨g,0,none⟩) xs.length cap,.int .i64 (m:Int)]).run Tryz.prog w=.ok (.slice (some ⟨w.heap.size,0,none⟩) (xs.length+m) (grownCap w (xs.length+m) cap 146)) (w.drew.alloc (.cells ((wis xs).toArray++(wis (List.replicate m 0)).toArray++(wis (List.replicate (grownCap w (xs.length+m) cap 146 - (xs.length+m)) 0)).toArray) 146)):=by
      simp [Builtin.append_,run_underlying ht,run_underlying htn,sizeOf,typeInfo,zeroValue,hi0,hz0,hz1,hz2,asInt,asIntOf,hw,hneg,h48,h48',h63',hroom,hm,Addr.add_lit,Gq,Question.forced,hfo,newRow,grownCap]
     have hge:=grownCap_ge w (xs.length+m) cap 146;have hcm:=grownCap_le_maxLen w (xs.length+m) cap 146 (by unfold maxLen;omega);refine ⟨_,_,hr,⟨hall,by rw [AU];omega,.inr ⟨w.heap.size,_,_,by rw [hlen],hb,heap_alloc_new w.drew _,by rw [hlen];exact hge,hcm,?_,?_⟩⟩,⟨rfl,rfl,rfl,by simp,fun k hk _=>heap_alloc_old w.drew _ hk⟩⟩
     · simp only [Array.size_append,List.size_toArray,AU,Uk];omega
     · simp only [Array.toList_append,Vk];rw [hlen,Da];have e2:xs.length+m=(wis (xs++List.replicate m 0)).length:=by rw [AU,hlen]
       rw [e2,List.take_left]
end
section
open Go Go.RowKit Go.Proofs Pl
theorem Cv {xs:List Nat}:(strip xs).length=0↔val WB xs=0:=by
 constructor
 · intro h;rw [<- AN,TN h];rfl
 · intro h;rw [DF h Ay];rfl
def Gf (w:World) (a b:Nat) (e:Ending) (w':World):Prop:=
 ∃ q r,e=.returned (.tuple #[q,r,.int .i64 0])/\Ow w' w.heap.size q (dg WB (a / b))/\Ow w' w.heap.size r (dg WB (a % b))/\Yg w w'
theorem J0 (A B:Option Addr) (c d:Nat) (xs ys:List Nat) (w:World) (hx:Rd w A xs) (hy:Rd w B ys) (hlx:xs.length<=c) (hcx:c<=maxLen) (hly:ys.length<=d) (hcy:d<=maxLen) (h0:val WB ys=0):
 Calls Tryz.prog 218 #[.slice A xs.length c,.slice B ys.length d] w fun e w'=>e=.returned (.tuple #[.slice none 0 0,.slice none 0 0,.int .i64 3])/\w=w':=by
 have hbx:=AG A c xs w hx hlx hcx;have hby:=AG B d ys w hy hly hcy;rw [Cv.2 h0] at hby;have HBX:=Lib.hid hbx;have HBY:=Lib.hid hby;clear hbx hby hx hy hlx hcx hly hcy h0;go_enter Tryz.func218,Tryz.ntmps218;go_wp2_with fail;refine HBX.out.mono ?_;rintro e w' ⟨rfl,rfl⟩;go_wp2_with fail;refine HBY.out.mono ?_;rintro e w' ⟨rfl,rfl⟩;go_wp2_with fail;go_ret3;exact ⟨rfl,rfl⟩
theorem Jo (A B:Option Addr) (c d:Nat) (xs ys:List Nat) (w:World) (hx:Rd w A xs) (hy:Rd w B ys) (hlx:xs.length<=c) (hcx:c<=maxLen) (hly:ys.length<=d) (hcy:d<=maxLen) (hlt:val WB xs<val WB ys) (hlen:xs.length*8<=140737488355328):
 Calls Tryz.prog 218 #[.slice A xs.length c,.slice B ys.length d] w fun e w'=>Gf w (val WB xs) (val WB ys) e w':=by
 have hbx:=AG A c xs w hx hlx hcx;have hby:=AG B d ys w hy hly hcy;have hlx2:=Al xs;have hly2:=Al ys;have hcmp:=DC A B c d (strip xs) (strip ys) w hx.strip hy.strip Yo hcx Yo hcy;have hcl:=fun q:Nat=>Do A c (strip xs) (w.drewN q) (hx.strip.drewN q) Yo;rw [AN,AN,show Bk (val WB xs) (val WB ys)=-1 from by simp [Bk,hlt]] at hcmp;rw [AB Aw hx.1] at hbx hcl hcmp;have hn0:(strip ys).length≠0:=fun h=>by have:=Cv.1 h;omega
 obtain ⟨P,hP⟩:∃ P,P=dg WB (val WB xs):=⟨_,rfl⟩;obtain ⟨n,hn⟩:∃ n,n=(strip ys).length:=⟨_,rfl⟩;rw [<- hn] at hby hcmp hn0;rw [<- hP] at hbx hcl hcmp;have hnI:((n:Int)==0)=false:=by simp;omega
 have HBX:=Lib.hid hbx;have HBY:=Lib.hid hby;have HC:=Lib.hid hcmp;have HCL:=Lib.hid hcl;have HP:=Yh2 hP hlt;clear hbx hby hx hy hlx hcx hly hcy hcmp hcl hlx2 hly2 hn hP hlt hlen;go_enter Tryz.func218,Tryz.ntmps218;go_wp2_with fail;refine HBX.out.mono ?_;rintro e w' ⟨rfl,rfl⟩;go_wp2_with fail;refine HBY.out.mono ?_;rintro e w' ⟨rfl,rfl⟩;go_wp2_with fail;refine HC.out.mono ?_;rintro e w' ⟨rfl,q,rfl⟩;go_wp2_with fail;refine (HCL.out q).mono ?_;rintro e w' ⟨v,rfl,hO,hb⟩;go_wp2_with fail;go_ret3;refine ⟨_,_,rfl,?_,?_,Cf hb⟩
 · rw [Vi HP.q1,BP];exact Ow.nil _ _
 · rw [VP HP.q1,<- HP.p0];exact hO
theorem Jt (A B:Option Addr) (c d:Nat) (xs ys:List Nat) (w:World) (hx:Rd w A xs) (hy:Rd w B ys) (hlx:xs.length<=c) (hcx:c<=maxLen) (hly:ys.length<=d) (hcy:d<=maxLen) (hge:val WB ys<=val WB xs) (h1:(strip ys).length=1) (hlen:xs.length<=274877906944):
 Calls Tryz.prog 218 #[.slice A xs.length c,.slice B ys.length d] w fun e w'=>Gf w (val WB xs) (val WB ys) e w':=by
 have hbx:=AG A c xs w hx hlx hcx;have hby:=AG B d ys w hy hly hcy;have hlx2:=Al xs;have hly2:=Al ys;have hcmp:=DC A B c d (strip xs) (strip ys) w hx.strip hy.strip Yo hcx Yo hcy;obtain ⟨y,hyy⟩:∃ y,strip ys=[y]:=List.length_eq_one_iff.1 h1;have hys:=hy.strip;rw [hyy] at hys hby hcmp;have hvy:val WB ys=y:=by rw [<- AN,hyy];simp [val]
 have hyW:y<WB:=hys.1 y (by simp)
 have hy0:0<y:=by
  rcases TQ y with h | h
  · exfalso;have h2:strip ys=[]:=DF (by rw [hvy,h]) Ay;rw [hyy] at h2;cases h2
  · exact h
 obtain ⟨b,o,rfl,hcell⟩:=hys.at_ (j:=0) (by simp);have hm:w.cell? ⟨b,o,none⟩=some (.int .u64 (y:Int)):=hcell 0 y rfl;have hbw:=fun q:Nat=>Lc A c (strip xs) y (w.drewN q) (hx.strip.drewN q) Yo hcx hy0 hyW Yo;obtain ⟨s,hs⟩:∃ s,s=Bk (val WB xs) (val WB ys):=⟨_,rfl⟩;have hsI:¬ s<0:=by rw [hs,Bk];split<;>(try split)<;>omega
 rw [AN,<- hyy,AN,<- hs,hyy] at hcmp;obtain ⟨P,hP⟩:∃ P,P=strip xs:=⟨_,rfl⟩;have hvP:val WB P=val WB xs:=by rw [hP,AN]
 rw [<- hP] at hbx hcmp hbw;obtain ⟨r,hr⟩:∃ r,r=val WB P % y:=⟨_,rfl⟩;rw [<- hr] at hbw;have hrW:r<WB:=by rw [hr];exact Vg (UB _ hy0) hyW
 have HBX:=Lib.hid hbx;have HBY:=Lib.hid hby;have HC:=Lib.hid hcmp;have HW:=Lib.hid hbw;have HF:=Yh4 hvy hvP hr hrW;clear hbx hby hx hy hlx hcx hly hcmp hbw hlx2 hly2 hcell hys hyy hvy hvP hr hrW hs hP hge h1 hlen hcy;go_enter Tryz.func218,Tryz.ntmps218;go_wp2_with fail;refine HBX.out.mono ?_;rintro e w' ⟨rfl,rfl⟩;go_wp2_with fail;refine HBY.out.mono ?_;rintro e w' ⟨rfl,rfl⟩;go_wp2_with fail;refine HC.out.mono ?_;rintro e w' ⟨rfl,q,rfl⟩;go_wp2_with fail;refine (HW.out q).mono ?_;rintro e w' ⟨v,rfl,hO,hb⟩;have HO:=Lib.hid hO;have HB:=Lib.hid hb;clear hO hb;go_wp2_with fail
 have hrd:Rd (w'.alloc (.cells (wis [r]).toArray 146)) (some ⟨w'.heap.size,0,none⟩) [r]:=by
  refine ⟨All.cons HF.q3 All.nil,.inr ⟨_,_,rfl,fun j x hj=>?_⟩⟩;have:=FP w' (wis [r]).toArray 146 j _ (by simpa using CU hj);have e:(⟨w'.heap.size,0,none⟩:Addr).add j=⟨w'.heap.size,0+j,none⟩:=by unfold Addr.add;split<;>simp_all
  rwa [e] at this
 have htr:=Du (some ⟨w'.heap.size,0,none⟩) 1 [r] _ hrd (by simp) Yd (by simp);refine htr.mono ?_;rintro e w2 ⟨v2,rfl,hO2,hb2⟩;have HO2:=Lib.hid hO2;have HB2:=Lib.hid hb2;clear hO2 hb2 htr hrd;go_wp2_with fail;go_ret3;have hal:Yg w' (w'.alloc (.cells (wis [r]).toArray 146)):=(Below.refl _ _).alloc (TL _) _;have hb1:Yg w w':=Cf HB.out;have hb3:=Yb hal HB2.out;have hv:val WB [r]=val WB xs % val WB ys:=by rw [HF.p0,<- HF.p1,<- HF.p2];simp [val]
 refine ⟨_,_,rfl,?_,?_,Yb hb1 hb3⟩
 · rw [HF.p0,<- HF.p1];exact HO.out.keep hb3
 · rw [<- hv];exact HO2.out.mono (TP hb1.size hal.size)
end
end Go.Proofs.YtlblnmmfphiobaaGreat
