import Derived.Test.YtlblnmmfphiobaaGreatPNA1
set_option maxRecDepth 100000
set_option maxHeartbeats 8000000
set_option linter.unusedVariables false
set_option linter.unusedSimpArgs false
namespace Go.Proofs.YtlblnmmfphiobaaGreat
section
namespace Pl
theorem Eb {B:Nat}:∀ (o:List Nat) (p v:Nat),p<o.length->val B (o.set p v)+B ^ p*atD o p=val B o+B ^ p*v:=by
 intro o
 induction o with
 | nil=>intro p v h;simp at h
 | cons a o ih=>
  intro p v h
  cases p with
  | zero=>simp [AY,atD];omega
  | succ p=>
   have:=ih p v (by simpa using h);rw [UC,AY,AY,UD,TX (B ^ p) B,Uf,Uf];have e:atD (a::o) (p+1)=atD o p:=by simp [atD]
   rw [e];have h2:=congrArg (B*·) this;simp only [T9] at h2;omega
theorem Hd {o:List Nat} {p q v:Nat} (h:p≠q):atD (o.set p v) q=atD o q:=by
 unfold atD;rw [TS,TS,List.getElem?_set_ne h]
theorem LN {B:Nat} {xs:List Nat} (h:All B xs) (hB:0<B) (i:Nat):atD xs i<B:=h.getD hB i
theorem AD {xs:List Nat} {i:Nat} (h:i<xs.length):xs[i]?=some (atD xs i):=by
 rw [List.getElem?_eq_getElem h,BW h]
theorem Oj {B:Nat} {o:List Nat} {p:Nat} (h:val B o<B ^ p):atD o p=0:=by
 rcases Ul p o.length with hp | hp
 · have e:=AC B o p Yo;rw [UU hp,AY,T9] at e;rw [BW hp]
   rcases TQ o[p] with h0 | h0
   · exact h0
   · have:B ^ p*1<=B ^ p*o[p]:=TY _ h0;omega
 · exact Ck hp
theorem PO {B x y o c:Nat} (hx:x<B) (hy:y<B) (ho:o<B) (hc:c<B):
 (((x*y % B+o) % B+c) % B=(x*y+o+c) % B)/\(x*y / B+(x*y % B+o) / B+((x*y % B+o) % B+c) / B=(x*y+o+c) / B)/\(x*y+o+c) / B<B/\
  x*y / B+(x*y % B+o) / B<B:=by
 have hB:0<B:=Yo;have h0:x*y<=(B - 1)*(B - 1):=UN Yo Yo;have h1:=Uu (x*y) B;have h2:=Uu (x*y % B+o) B;have h3:=Uu ((x*y % B+o) % B+c) B;have hm:((x*y % B+o) % B+c) % B<B:=UB _ hB;obtain ⟨b,rfl⟩:∃ b,B=b+1:=⟨B - 1,Yo⟩;rw [VQ] at h0
 have e:x*y+o+c=(b+1)*(x*y / (b+1)+(x*y % (b+1)+o) / (b+1)+((x*y % (b+1)+o) % (b+1)+c) / (b+1))+((x*y % (b+1)+o) % (b+1)+c) % (b+1):=by
  rw [T9,T9];omega
 have hq:(x*y+o+c) / (b+1)=x*y / (b+1)+(x*y % (b+1)+o) / (b+1)+((x*y % (b+1)+o) % (b+1)+c) / (b+1):=by
  rw [e,Wc hB,Vi hm,UE]
 have hr:(x*y+o+c) % (b+1)=((x*y % (b+1)+o) % (b+1)+c) % (b+1):=by
  rw [e,Nat.mul_add_mod,Nat.mod_mod]
 have hlt:(x*y+o+c) / (b+1)<b+1:=by
  apply UK;have:(b+1)*(b+1)=b*b+b+b+1:=by rw [T9,Uq];omega
  rw [this];omega
 exact ⟨hr.symm,hq.symm,hlt,Ug (VF _ _) (hq ▸ hlt)⟩
theorem JQ {B:Nat} {o o0 ys:List Nat} {x i k c:Nat} (hp:i+k<o.length) (h:val B o+B ^ (i+k)*c=val B o0+B ^ i*(x*vt B ys k)):
 val B (o.set (i+k) ((x*atD ys k+atD o (i+k)+c) % B))+B ^ (i+(k+1))*((x*atD ys k+atD o (i+k)+c) / B)=val B o0+B ^ i*(x*vt B ys (k+1)):=by
 have e1:=Eb (B:=B) o (i+k) ((x*atD ys k+atD o (i+k)+c) % B) hp;have e2:=congrArg (B ^ (i+k)*·) (Wa (x*atD ys k+atD o (i+k)+c) B);simp only [T9] at e2
 have e3:B ^ (i+(k+1))*((x*atD ys k+atD o (i+k)+c) / B)=B ^ (i+k)*(B*((x*atD ys k+atD o (i+k)+c) / B)):=by
  rw [<- Vc,UD,Uf]
 have e4:B ^ i*(x*vt B ys (k+1))=B ^ i*(x*vt B ys k)+B ^ (i+k)*(x*atD ys k):=by
  rw [vt,T9,T9,UF]
  congr 1
  rw [Uf,VK x]
 rw [e3,e4];omega
end Pl
end
section
open Go Go.RowKit Go.Proofs Pl
theorem Ft (x y:Nat) (hx:x<WB) (hy:y<WB) (w:World):
 Calls Tryz.prog 251 #[.int .u64 (x:Int),.int .u64 (y:Int)] w fun e w'=>e=.returned (.tuple #[.int .u64 ((x*y / WB:Nat):Int),.int .u64 ((x*y % WB:Nat):Int)])/\w=w':=by
 unfold WB at*;exact (Tryz.bits_Mul64 x y hx hy w).mono fun _ _ ⟨a,b⟩=>⟨a,b.symm⟩
theorem wrap_u64 (n:Nat) (h:n<WB):IntKind.u64.wrap (n:Int)=(n:Int):=by
 unfold WB at h;rw [IntKind.wrap_u64];omega
theorem EF (x y:Nat) (hx:x<WB) (hy:y<WB) (w:World):
 (callFunc 249 #[.int .u64 (x:Int),.int .u64 (y:Int),.int .u64 0]).run Tryz.prog w=
  .ok (.value (.tuple #[.int .u64 (((x+y) % WB:Nat):Int),.int .u64 (((x+y) / WB:Nat):Int)])) w:=Ff x y 0 hx hy Yo w
theorem Nw (x y o c:Nat) (hx:x<WB) (hy:y<WB) (ho:o<WB) (hc:c<WB):
 ∃ hi lo c1 hi2 lo2 lo3 c2 q:Nat,(∀ w:World,Calls Tryz.prog 251 #[.int .u64 (x:Int),.int .u64 (y:Int)] w fun e w'=>e=.returned (.tuple #[.int .u64 (hi:Int),.int .u64 (lo:Int)])/\w=w')/\
  (∀ w:World,(callFunc 249 #[.int .u64 (lo:Int),.int .u64 (o:Int),.int .u64 0]).run Tryz.prog w=.ok (.value (.tuple #[.int .u64 (lo2:Int),.int .u64 (c1:Int)])) w)/\
  IntKind.u64.wrap ((hi:Int)+(c1:Int))=(hi2:Int)/\
  (∀ w:World,(callFunc 249 #[.int .u64 (lo2:Int),.int .u64 (c:Int),.int .u64 0]).run Tryz.prog w=.ok (.value (.tuple #[.int .u64 (lo3:Int),.int .u64 (c2:Int)])) w)/\
  IntKind.u64.wrap ((hi2:Int)+(c2:Int))=(q:Int)/\lo3=(x*y+o+c) % WB/\q=(x*y+o+c) / WB/\q<WB/\lo3<WB:=by
 obtain ⟨m1,m2,m3,m4⟩:=PO hx hy ho hc
 refine ⟨x*y / WB,x*y % WB,(x*y % WB+o) / WB,x*y / WB+(x*y % WB+o) / WB,(x*y % WB+o) % WB,((x*y % WB+o) % WB+c) % WB,((x*y % WB+o) % WB+c) / WB,(x*y+o+c) / WB,
  Ft x y hx hy,EF _ o (UB _ Ay) ho,?_,EF _ c (UB _ Ay) hc,?_,m1,rfl,m3,UB _ Ay⟩
 · rw [<- We];exact wrap_u64 _ m4
 · rw [<- We,m2];exact wrap_u64 _ m3
theorem Ke (A B:Option Addr) (c d:Nat) (xs ys:List Nat) (w:World) (hx:Rd w A xs) (hy:Rd w B ys) (hlx:xs.length<=c) (hcx:c<=maxLen) (hly:ys.length<=d) (hcy:d<=maxLen) (hlen:xs.length+ys.length<=35184372088832):
 Calls Tryz.prog 222 #[.slice A xs.length c,.slice B ys.length d] w fun e w'=>∃ v,e=.returned v/\Ow w' w.heap.size v (dg WB (val WB xs*val WB ys))/\Yg w w':=by
 unfold maxLen at hcx hcy;obtain ⟨i0,hi0,hz0,hz1,hz2⟩:=info_parts Bf;go_enter Tryz.func222,Tryz.ntmps222;go_wp2_with (at_make;refine wpList_make_full _ rfl (.tmp 18) (.tmp 18) 32 rfl w.heap.size 146 i0 _ 1 Tryz.underlying32 hi0 hz0 hz1 .i64 .i64 _ _ (xs.length+ys.length) rfl rfl (by simp) (by simp) (by rw [hz2];omega) (by unfold maxLen;omega) (TL _) ?_;intro w1 hown0 hg0);rw [Cm] at hown0;have hb1:Yg w w1:=(Below.refl _ _).grown hg0 (TL _) (by simp);have hO:Ow w1 w.heap.size (.slice (some ⟨w.heap.size,0,none⟩) (xs.length+ys.length) (xs.length+ys.length)) (List.replicate (xs.length+ys.length) 0):=⟨All.replicate Ay _,by rw [Uk];exact hown0⟩;clear hown0 hg0 hi0 hz0 hz1 hz2;have HX:=Lib.hid hx;have HY:=Lib.hid hy;clear hx hy;go_loopw [22] (fun i wr=>∃ (j:Nat) (o:List Nat),i=.int .i64 j/\j<=xs.length/\o.length=xs.length+ys.length/\Ow wr w.heap.size (.slice (some ⟨w.heap.size,0,none⟩) (xs.length+ys.length) (xs.length+ys.length)) o/\Hid (val WB o=vt WB xs j*val WB ys)/\Yg w wr) (fun i _=>xs.length - (intOf i).toNat)
 case atStart=>exact ⟨0,_,rfl,Yo,Uk,hO,by show _=_;rw [Ch,vt,Wk],hb1⟩
 case round=>
  obtain ⟨wo,rfl⟩:∃ wo:World,wo=wr:=⟨_,rfl⟩;obtain ⟨j,o0,rfl,hj,hol0,hO0,hv0,hbw0⟩:=hrel;by_cases hlt:j<xs.length
  · obtain ⟨b,o,rfl,hcell⟩:=(HX.out.keep hbw0).at_ hlt;have hm:=hcell j _ (AD hlt);have hxl:atD xs j<WB:=AW HX.p0 j;have HXL:=Lib.hid hxl;have HOL:=Lib.hid hol0;clear hcell hxl hol0 hb1 hO;go_wp2_with fail;go_loopw [8,29] (fun cc i wr=>∃ (k q:Nat) (o:List Nat),i=.int .i64 k/\k<=ys.length/\cc=.int .u64 (q:Int)/\Hid (q<WB)/\Hid (o.length=xs.length+ys.length)/\Ow wr w.heap.size (.slice (some ⟨w.heap.size,0,none⟩) (xs.length+ys.length) (xs.length+ys.length)) o/\Hid (val WB o+WB ^ (j+k)*q=val WB o0+WB ^ j*(atD xs j*vt WB ys k))/\Hid (∀ p,j+k<=p->atD o p=atD o0 p)/\Yg w wr) (fun _ i _=>ys.length - (intOf i).toNat)
    case atStart=>exact ⟨0,0,o0,rfl,Yo,rfl,Ay,HOL.out,hO0,by show _=_;simp [vt],fun _ _=>rfl,hbw0⟩
    case round=>
     obtain ⟨k,q,o1,rfl,hk,rfl,hq,hol,hO,hv,hsame,hbw⟩:=hrel;by_cases hkl:k<ys.length
     · obtain ⟨b',o',hB,hcell⟩:=(HY.out.keep hbw).at_ hkl;subst hB;have hm2:=hcell k _ (AD hkl);have hp:j+k<o1.length:=by rw [hol.out];omega
       obtain ⟨g,hg,-,-,-,-,-,hcs,hfr⟩:=hO.at_ (j:=j+k) hp;injection hg with hg
       injection hg with hg
       subst hg;have hm3:=hcs (j+k) _ (AD hp);have hf3:=hfr (j+k);have hyl:atD ys k<WB:=AW HY.p0 k;have hol1:atD o1 (j+k)<WB:=AW hO.1 (j+k);have hX:=Nw (atD xs j) (atD ys k) (atD o1 (j+k)) q HXL.out hyl hol1 hq.out;obtain ⟨hi,lo,c1,hi2,lo2,lo3,c2,q',hM,hA1,hw1,hA2,hw2,elo,eq',hq',hlo3⟩:=hX;have hw1':IntKind.u64.wrap ((hi:Int)+(c1:Int))=(hi2:Int):=hw1;have hset:=hO.set_ (g:=w.heap.size) (j:=j+k) (x:=lo3) hol.out.symm hlo3;have hstep:=JQ hp hv.out;rw [<- elo,<- eq'] at hstep;have hbs:=hbw.setCell (p:=⟨w.heap.size,j+k,none⟩) (TL _) (.int .u64 (lo3:Int))
       have hsm:∀ p,j+(k+1)<=p->atD (o1.set (j+k) lo3) p=atD o0 p:=fun p hp'=>by
        rw [Hd (by omega)];exact hsame.out p Yo
       have HS:=Yh5 hset hstep hbs hsm hq';have HOL1:Hid ((o1.set (j+k) lo3).length=xs.length+ys.length):=by show _=_;rw [Uh];exact hol.out
       have HM:=Lib.hid hM;clear hcell hcs hfr hM hset hstep hbs hsm hq' hlo3 elo eq' hO hbw hw1 hyl hol1;go_wp2_with (go_at_call 251;refine (HM.out _).mono ?_;rintro e w' ⟨rfl,rfl⟩);go_roundw
       case rel=>exact ⟨k+1,q',_,by go_num,Yo,rfl,HS.q4,HOL1,HS.p0,HS.p1,HS.p3,HS.p2⟩
       case measure=>simp [intOf];omega
     · obtain rfl:k=ys.length:=by omega
       have hp:j+ys.length<o1.length:=by rw [hol.out];omega
       obtain ⟨g,hg,-,-,-,-,-,hcs,hfr⟩:=hO.at_ (j:=j+ys.length) hp;injection hg with hg
       injection hg with hg
       subst hg;have hm3:=hcs (j+ys.length) _ (AD hp);have hf3:=hfr (j+ys.length);have hset:=hO.set_ (g:=w.heap.size) (j:=j+ys.length) (x:=q) hol.out.symm hq.out;have hbs:=hbw.setCell (p:=⟨w.heap.size,j+ys.length,none⟩) (TL _) (.int .u64 (q:Int));have hol2:(o1.set (j+ys.length) q).length=xs.length+ys.length:=by rw [Uh];exact hol.out
       have hz:atD o1 (j+ys.length)=0:=by
        rw [hsame.out _ (TL _)];refine Oj (B:=WB) ?_;rw [hv0.out,N6,UF];have h1:=Bc (HX.p0.take j);have h2:=Bc HY.p0;rw [TU,U8 (by omega)] at h1;exact UG h1 h2
       have hval:Hid (val WB (o1.set (j+ys.length) q)=vt WB xs (j+1)*val WB ys):=by
        show _=_;have e1:=Eb (B:=WB) o1 (j+ys.length) q hp;rw [hz,UQ,UE,hv.out,hv0.out,BV WB ys (TL _)] at e1;rw [e1,vt,Uq,Uf]
       have HS:=Yh2 hset hbs;clear hcs hfr hset hbs hO hbw hz;go_wp2_with fail;go_roundw
       case rel=>exact ⟨j+1,_,by go_num,Yo,hol2,HS.p0,hval,HS.q1⟩
       case measure=>simp [intOf];omega
  · obtain rfl:j=xs.length:=by omega
    have hbare:=AG (some ⟨w.heap.size,0,none⟩) (xs.length+ys.length) o0 wo hO0.rd Yo (by unfold maxLen;omega);rw [hol0] at hbare;have HB:=Lib.hid hbare;have hst:=hO0.strip;have hdg:=AB Aw hO0.1;rw [hv0.out,BV WB xs (TL _)] at hdg;have HR:=Yh3 hst hbw0 hdg;clear hO0 hbw0 hst hdg hbare hb1 hO hv0;go_wp2_with (go_at_call 221;refine HB.out.mono ?_;rintro e w' ⟨rfl,rfl⟩);go_ret;exact ⟨_,rfl,by rw [<- HR.q2];exact HR.p0,HR.p1⟩
end
section
namespace Pl
theorem kara (a0 a1 b0 b1 P:Nat):(a0+P*a1)*(b0+P*b1)=a0*b0+P*((a0+a1)*(b0+b1) - a0*b0 - a1*b1)+P*P*(a1*b1):=by
 have e:(a0+a1)*(b0+b1) - a0*b0 - a1*b1=a0*b1+a1*b0:=by
  rw [Uq,T9,T9];omega
 rw [e,Uq,T9,T9,T9];have h1:a0*(P*b1)=P*(a0*b1):=VK ..;have h2:P*a1*b0=P*(a1*b0):=Uf ..
 have h3:P*a1*(P*b1)=P*P*(a1*b1):=by
  rw [Uf,VK a1,<- Uf]
 omega
theorem QN (a0 a1 b0 b1:Nat):a0*b0<=(a0+a1)*(b0+b1)/\a1*b1<=(a0+a1)*(b0+b1) - a0*b0:=by
 rw [Uq,T9,T9];exact ⟨Yo,Yo⟩
theorem Fz (B k:Nat) (xs:List Nat):val B (List.replicate k 0++xs)=B ^ k*val B xs:=by
 rw [BR,Ch,Uk,Vw]
theorem Ep {B:Nat} (hB:1<B) {a b n:Nat} (ha:a<B ^ n) (hb:b<B ^ n):(dg B (a+b)).length<=n+1:=by
 refine Au hB ?_;rw [UD];have:B ^ n*2<=B ^ n*B:=TY _ hB;omega
theorem Dh {B:Nat} (hB:1<B) {a b m n:Nat} (ha:a<B ^ m) (hb:b<B ^ n):(dg B (a*b)).length<=m+n:=by
 refine Au hB ?_;rw [UF];exact UG ha hb
end Pl
end
section
open Go Go.RowKit Go.Proofs Pl
theorem DS (n:Nat):(madeCells (Value.int .u64 0).cells (n*1))=(wis (List.replicate n 0)).toArray:=by
 apply Array.toList_inj.1;rw [Cm]
theorem C1 (k c:Nat) (hk:k<=c) (hc:c*8<=281474976710656) (W:World):
 (Instr.makeSlice 32 (.int .i64 (k:Int)) (.int .i64 (c:Int))).run Tryz.prog W=.ok (.slice (some ⟨W.heap.size,0,none⟩) k c) (W.alloc (.cells (wis (List.replicate c 0)).toArray 146)):=by
 obtain ⟨i0,hi0,hz0,hz1,hz2⟩:=info_parts Bf;have h:=run_make (P:=Tryz.prog) W 32 146 i0 _ Tryz.underlying32 hi0 hz0 .i64 .i64 (k:Int) (c:Int) Yo Yo (by rw [hz2];omega) Yo;rw [h];simp only [Vy,hz1,DS]
theorem BT (w:World) (k c:Nat) (hk:k<=c) (hc:c<=maxLen):Ow (w.alloc (.cells (wis (List.replicate c 0)).toArray 146)) w.heap.size (.slice (some ⟨w.heap.size,0,none⟩) k c) (List.replicate k 0):=by
 refine ⟨All.replicate Ay _,by simp [wis],.inr ⟨w.heap.size,c,(wis (List.replicate c 0)).toArray,by simp,TL _,heap_alloc_new _ _,by simpa using hk,hc,by simp [wis],?_⟩⟩;simp [wis,List.take_replicate,U8 hk]
theorem FA (A:Option Addr) (c:Nat) (xs:List Nat) (k:Nat) (w:World) (hx:Rd w A xs) (hA:A=none->c=0) (hlen:k+xs.length<=1099511627776):
 Calls Tryz.prog 224 #[.slice A xs.length c,.int .i64 (k:Int)] w fun e w'=>∃ v,e=.returned v/\Ow w' w.heap.size v (List.replicate k 0++xs)/\Yg w w':=by
 obtain ⟨i0,hi0,hz0,hz1,hz2⟩:=info_parts Bf;have hmk:=C1 k (k+xs.length) Yo Yo;have hO:=BT w k (k+xs.length) Yo (by unfold maxLen;omega);have hb:Yg w (w.alloc (.cells (wis (List.replicate (k+xs.length) 0)).toArray 146)):=(Below.refl _ _).alloc (TL _) _;have hx':=hx.keep hb
 have hmk':∀ W:World,(Instr.makeSlice 32 (.int .i64 (k:Int)) (.int .i64 ((k:Int)+(xs.length:Int)))).run Tryz.prog W=.ok (.slice (some ⟨W.heap.size,0,none⟩) k (k+xs.length)) (W.alloc (.cells (wis (List.replicate (k+xs.length) 0)).toArray 146)):=by
  intro W;rw [<- We];exact hmk W
 clear hmk
 cases A with
 | none=>
  have h0:xs=[]:=by
   rcases hx.2 with h | ⟨b,o,h,_⟩
   · exact h
   · cases h
  obtain rfl:=hA rfl;subst h0;have hmk0:=C1 k k (TL _) Yo;have hO:=BT w k k (TL _) (by unfold maxLen;omega);have hb:Yg w (w.alloc (.cells (wis (List.replicate k 0)).toArray 146)):=(Below.refl _ _).alloc (TL _) _;have HO:=Lib.hid hO;have HB:=Lib.hid hb;have hsz:=hO.2;rw [Uk] at hsz;clear hO hb hx hx' hA hmk';go_enter Tryz.func224,Tryz.ntmps224;go_wp2_with (at_builtin;refine wpList_append_own_none rfl (.tmp 10) (.tmp 11) 32 rfl w.heap.size 146 i0 1 Tryz.underlying32 hi0 _ _ _ rfl hsz rfl ?_);go_ret;exact ⟨_,rfl,by simpa using HO.out,HB.out⟩
 | some ad=>
  have hcells:=EO hx' ad rfl;have HO:=Lib.hid hO;have HB:=Lib.hid hb;have HC:=Lib.hid hcells;have HX:=Lib.hid hx.1;have hsz:=hO.2;rw [Uk] at hsz;have HS:=Lib.hid hsz;clear hO hb hx hx' hA hcells hsz;go_enter Tryz.func224,Tryz.ntmps224;go_wp2_with (at_builtin;refine wpList_append_own _ rfl (.tmp 10) (.tmp 11) 32 rfl w.heap.size 146 i0 _ 1 8 Tryz.underlying32 hi0 hz0 hz1 hz2 rfl Yd _ _ _ rfl HS.out ad xs.length c (wis xs) rfl (by rw [AU];omega) HC.out (Eg xs) (by unfold maxLen;omega) Yo (by simp) ?_;intro v w1 hown hg _);go_ret;refine ⟨v,rfl,⟨HO.p0.append HX.out,?_⟩,HB.out.grown hg (by simp) ?_⟩
  · rw [Da] at hown;rw [TM,Uk];exact hown
  · intro j hj;have e:some w.heap.size=some j:=hj;injection e with e
    omega
end
section
open Go Go.RowKit Go.Proofs Pl
theorem Ow.none_cap {w:World} {B n c:Nat} {xs:List Nat} {A:Option Addr} (h:Ow w B (.slice A n c) xs):A=none->c=0:=by
 rintro rfl
 rcases h.2.2 with ⟨hv,h0⟩ | ⟨g,cap,cur,hv,_⟩
 · injection hv
 · injection hv with hv;cases hv
theorem Ij (B h:Nat) (P:List Nat):val B P=val B (P.take (min h P.length))+B ^ h*val B (P.drop (min h P.length)):=by
 rcases Nat.le_total h P.length with h1 | h1
 · rw [U8 h1];exact AC B P h h1
 · rw [Nat.min_eq_right h1,VV,VW];simp [val]
theorem DV {w:World} {b o c:Nat} {P:List Nat} (h:Rd w (some ⟨b,o,none⟩) P) (p:Nat) (hp:p<=P.length) (hl:P.length<=c):
 Rd w (if c=p then some ⟨b,o,none⟩ else some ⟨b,o+p,none⟩) (P.drop p):=by
 split
 · have:P.drop p=[]:=UI Yo;rw [this];exact Rd.nil _ _
 · exact h.drop p
def Le (n:Nat):Prop:=∀ (A B:Option Addr) (c d:Nat) (xs ys:List Nat) (w:World),Rd w A xs->Rd w B ys->xs.length<=c->c<=maxLen->ys.length<=d->d<=maxLen->(strip xs).length<=n->(strip ys).length<=n->
    Calls Tryz.prog 165 #[.slice A xs.length c,.slice B ys.length d] w fun e w'=>∃ v,e=.returned v/\Ow w' w.heap.size v (dg WB (val WB xs*val WB ys))/\Yg w w'
theorem Mo (A B:Option Addr) (c d:Nat) (xs ys:List Nat) (w:World) (hx:Rd w A xs) (hy:Rd w B ys) (hlx:xs.length<=c) (hcx:c<=maxLen) (hly:ys.length<=d) (hcy:d<=maxLen)
 (hs:(strip xs).length<24∨(strip ys).length<24) (h1:(strip xs).length<=274877906944) (h2:(strip ys).length<=274877906944):
 Calls Tryz.prog 165 #[.slice A xs.length c,.slice B ys.length d] w fun e w'=>∃ v,e=.returned v/\Ow w' w.heap.size v (dg WB (val WB xs*val WB ys))/\Yg w w':=by
 have hbx:=AG A c xs w hx hlx hcx;have hby:=AG B d ys w hy hly hcy;have lx:=TP (Al xs) hlx;have ly:=TP (Al ys) hly;have hsm:=Ke A B c d (strip xs) (strip ys) w hx.strip hy.strip lx hcx ly hcy Yo;rw [AN,AN] at hsm;have HS:=Lib.hid hsm;have HBX:=Lib.hid hbx;have HBY:=Lib.hid hby;clear hsm hbx hby hx hy hlx hly lx ly;unfold maxLen at*;obtain ⟨P,hP⟩:∃ P,P=strip xs:=⟨_,rfl⟩;obtain ⟨Q,hQ⟩:∃ Q,Q=strip ys:=⟨_,rfl⟩;rw [<- hP] at HS HBX hs h1;rw [<- hQ] at HS HBY hs h2;clear hP hQ;by_cases hp:P.length<24
 · clear hs;go_enter Tryz.func165,Tryz.ntmps165;go_wp2_with fail;refine HBX.out.mono ?_;rintro e w' ⟨rfl,rfl⟩;go_wp2_with fail;refine HBY.out.mono ?_;rintro e w' ⟨rfl,rfl⟩;go_wp2_with fail;refine HS.out.mono ?_;rintro e w' ⟨v,rfl,hO,hb⟩;go_wp2_with fail;go_ret;exact ⟨v,rfl,hO,hb⟩
 · have hq:Q.length<24:=by omega
   have hp':decide (P.length<24)=false:=by simpa using hp
   clear hs;go_enter Tryz.func165,Tryz.ntmps165;go_wp2_with fail;refine HBX.out.mono ?_;rintro e w' ⟨rfl,rfl⟩;go_wp2_with fail;refine HBY.out.mono ?_;rintro e w' ⟨rfl,rfl⟩;go_wp2_with fail;refine HS.out.mono ?_;rintro e w' ⟨v,rfl,hO,hb⟩;go_wp2_with fail;go_ret;exact ⟨v,rfl,hO,hb⟩
theorem Nk (n:Nat) (ih:∀ m,m<n->Le m) (hn:n<=274877906944) (A B:Option Addr) (c d:Nat) (xs ys:List Nat) (w:World) (hx:Rd w A xs) (hy:Rd w B ys) (hlx:xs.length<=c) (hcx:c<=maxLen) (hly:ys.length<=d) (hcy:d<=maxLen)
 (hs1:24<=(strip xs).length) (hs2:24<=(strip ys).length) (h1:(strip xs).length<=n) (h2:(strip ys).length<=n):
 Calls Tryz.prog 165 #[.slice A xs.length c,.slice B ys.length d] w fun e w'=>∃ v,e=.returned v/\Ow w' w.heap.size v (dg WB (val WB xs*val WB ys))/\Yg w w':=by
 have hbx:=AG A c xs w hx hlx hcx;have hby:=AG B d ys w hy hly hcy;have lx:=TP (Al xs) hlx;have ly:=TP (Al ys) hly;have HBX:=Lib.hid hbx;have HBY:=Lib.hid hby;clear hbx hby hlx hly;obtain ⟨P,hP⟩:∃ P,P=strip xs:=⟨_,rfl⟩;obtain ⟨Q,hQ⟩:∃ Q,Q=strip ys:=⟨_,rfl⟩;have vP:val WB xs=val WB P:=by rw [hP,AN]
 have vQ:val WB ys=val WB Q:=by rw [hQ,AN]
 have rP:Rd w A P:=hP ▸ hx.strip;have rQ:Rd w B Q:=hQ ▸ hy.strip;rw [<- hP] at HBX h1 hs1 lx;rw [<- hQ] at HBY h2 hs2 ly;rw [vP,vQ];clear hP hQ vP vQ hx hy;unfold maxLen at*;obtain ⟨b,o,hA,-⟩:=rP.at_ (j:=0) Yo;obtain ⟨b',o',hB,-⟩:=rQ.at_ (j:=0) Yo;subst hA;subst hB;have HP:=Lib.hid rP;have HQ:=Lib.hid rQ;have IH:=Lib.hid ih;clear rP rQ ih;obtain ⟨h,hh⟩:∃ h,h=max P.length Q.length / 2:=⟨_,rfl⟩;go_enter Tryz.func165,Tryz.ntmps165;go_wp2_with fail;refine HBX.out.mono ?_;rintro e w' ⟨rfl,rfl⟩;go_wp2_with fail;refine HBY.out.mono ?_;rintro e w' ⟨rfl,rfl⟩;go_wp2_with fail;have hmax:(max (P.length:Int) (Q.length:Int)) / 2=(h:Int):=Yo;rw [hmax];clear hmax;obtain ⟨p,hp⟩:∃ p,p=min h P.length:=⟨_,rfl⟩;obtain ⟨r,hr⟩:∃ r,r=min h Q.length:=⟨_,rfl⟩;have hpmin:min (h:Int) (P.length:Int)=(p:Int):=Yo;have hrmin:min (h:Int) (Q.length:Int)=(r:Int):=Yo;have hpl:p<=P.length:=Yo;have hrl:r<=Q.length:=Yo;have HH:=Lib.hid hh;have Hp:=Lib.hid hp;have Hr:=Lib.hid hr;clear hh hp hr;go_cut [6,7] (fun a0 a1 w1=>∃ (A1:Option Addr) (c1 q:Nat),a0=.slice (some ⟨b,o,none⟩) p c/\a1=.slice A1 (P.length - p) c1/\P.length - p<=c1/\c1<=9223372036854775807/\Rd w A1 (P.drop p)/\w.drewN q=w1)
 case first=>
  clear hrmin;have hd:=DV HP.out p hpl lx;by_cases hc:c=p
  · rw [if_pos hc] at hd;have hc':p=c:=hc.symm;subst hc';go_quiet (fail);go_wp2_with fail;go_meet;exact ⟨_,0,_,rfl,by rw [show P.length - p=0 from by omega],Yo,Yo,hd,rfl⟩
  · rw [if_neg hc] at hd;go_quiet (fail);go_wp2_with fail;go_meet;exact ⟨_,_,_,rfl,rfl,Yo,Yo,hd,rfl⟩
 case rest=>
 obtain ⟨A1,c1,q1,rfl,rfl,hA1,hA2,rA1,rfl⟩:=hcut;clear hpmin;go_upto_region 6 with (fail)
 go_cut [8,9] (fun a0 a1 w1=>∃ (B1:Option Addr) (d1 q:Nat),a0=.slice (some ⟨b',o',none⟩) r d/\a1=.slice B1 (Q.length - r) d1/\Q.length - r<=d1/\d1<=9223372036854775807/\Rd w B1 (Q.drop r)/\w.drewN q=w1)
 case first=>
  have hd:=DV HQ.out r hrl ly;by_cases hc:d=r
  · rw [if_pos hc] at hd;have hc':r=d:=hc.symm;subst hc';go_quiet (fail);go_wp2_with fail;go_meet;exact ⟨_,0,_,rfl,by rw [show Q.length - r=0 from by omega],Yo,Yo,hd,by first | rfl | (simp;rfl)⟩
  · rw [if_neg hc] at hd;go_quiet (fail);go_wp2_with fail;go_meet;exact ⟨_,_,_,rfl,rfl,Yo,Yo,hd,by first | rfl | (simp;rfl)⟩
 case rest=>
 obtain ⟨B1,d1,q2,rfl,rfl,hB1,hB2,rB1,rfl⟩:=hcut;clear hrmin;have M:=IH.out (n - 1) Yo;have HM:=Lib.hid M;clear M IH;have rx0:=HP.out.take p;have ry0:=HQ.out.take r;have lx0:(P.take p).length=p:=by simp;omega
 have ly0:(Q.take r).length=r:=by simp;omega
 have lx1:(P.drop p).length=P.length - p:=UJ;have ly1:(Q.drop r).length=Q.length - r:=UJ;have vP:=Ij WB h P;have vQ:=Ij WB h Q;rw [<- Hp.out] at vP;rw [<- Hr.out] at vQ;obtain ⟨x0,hx0⟩:∃ x0,x0=P.take p:=⟨_,rfl⟩;obtain ⟨x1,hx1⟩:∃ x1,x1=P.drop p:=⟨_,rfl⟩;obtain ⟨y0,hy0⟩:∃ y0,y0=Q.take r:=⟨_,rfl⟩;obtain ⟨y1,hy1⟩:∃ y1,y1=Q.drop r:=⟨_,rfl⟩;rw [<- hx0] at rx0 lx0;rw [<- hx0,<- hx1] at vP;rw [<- hy0] at ry0 ly0;rw [<- hy0,<- hy1] at vQ;rw [<- hx1] at rA1 lx1;rw [<- hy1] at rB1 ly1
 have hph:p<=h/\r<=h/\h+h<=n/\12<=h/\P.length - p<=n - h/\Q.length - r<=n - h:=by
  have a1:=Hp.out;have a2:=Hr.out;have a3:=HH.out;omega
 obtain ⟨hph1,hph2,hph3,hph4,hph5,hph6⟩:=hph;have bx0:val WB x0<WB ^ (n - h):=TV (Bc rx0.1) (Ua Ay Yo);have bx1:val WB x1<WB ^ (n - h):=TV (Bc rA1.1) (Ua Ay Yo);have by0:val WB y0<WB ^ (n - h):=TV (Bc ry0.1) (Ua Ay Yo);have by1:val WB y1<WB ^ (n - h):=TV (Bc rB1.1) (Ua Ay Yo);have sxy:(dg WB (val WB x0+val WB x1)).length<=n - h+1:=Ep Aw bx0 bx1;have syy:(dg WB (val WB y0+val WB y1)).length<=n - h+1:=Ep Aw by0 by1;have slo:(dg WB (val WB x0*val WB y0)).length<=(n - h)+(n - h):=Dh Aw bx0 by0;have shi:(dg WB (val WB x1*val WB y1)).length<=(n - h)+(n - h):=Dh Aw bx1 by1
 have smi:(dg WB ((val WB x0+val WB x1)*(val WB y0+val WB y1))).length<=(n - h+1)+(n - h+1):=
  Dh Aw (Cj Aw sxy) (Cj Aw syy)
 obtain ⟨kl1,kl2⟩:=QN (val WB x0) (val WB x1) (val WB y0) (val WB y1);have hkara:=kara (val WB x0) (val WB x1) (val WB y0) (val WB y1) (WB ^ h);rw [<- vP,<- vQ] at hkara;obtain ⟨lo,hlo⟩:∃ lo,lo=val WB x0*val WB y0:=⟨_,rfl⟩;obtain ⟨hi,hhi⟩:∃ hi,hi=val WB x1*val WB y1:=⟨_,rfl⟩;obtain ⟨sx,hsx⟩:∃ sx,sx=val WB x0+val WB x1:=⟨_,rfl⟩;obtain ⟨sy,hsy⟩:∃ sy,sy=val WB y0+val WB y1:=⟨_,rfl⟩;rw [<- hlo,<- hhi,<- hsx,<- hsy] at hkara;rw [<- hlo,<- hsx,<- hsy] at kl1;rw [<- hlo,<- hhi,<- hsx,<- hsy] at kl2;rw [<- hsx] at sxy;rw [<- hsy] at syy;rw [<- hlo] at slo;rw [<- hhi] at shi;rw [<- hsx,<- hsy] at smi;have HK:=Lib.hid hkara;have HKL:=Yh2 kl1 kl2;have HX:=Yh4 rx0 ry0 rA1 rB1;have HL:=Yh4 hlo hhi hsx hsy;have HLX:=Yh4 lx0 ly0 lx1 ly1;have HSZ:=Yh5 sxy syy slo shi smi;clear hx0 hx1 hy0 hy1 rx0 ry0 rA1 rB1 bx0 bx1 by0 by1 sxy syy slo shi smi kl1 kl2 hkara vP vQ hlo hhi hsx hsy lx0 ly0 lx1 ly1;go_wp2_with fail
 have k1:=HM.out (some ⟨b,o,none⟩) (some ⟨b',o',none⟩) c d x0 y0 (w.drewN q2) (HX.p0.drewN _) (HX.p1.drewN _) (by rw [HLX.p0];omega) (by unfold maxLen;omega) (by rw [HLX.p1];omega) (by unfold maxLen;omega)
  (TP (Al _) (by rw [HLX.p0];omega)) (TP (Al _) (by rw [HLX.p1];omega))
 rw [HLX.p0,HLX.p1,<- HL.p0] at k1;refine k1.mono ?_;clear k1;rintro e w1 ⟨v1,rfl,O1,b1⟩;obtain ⟨L1,e1,rfl,s1,t1⟩:=O1.slice;have b1':Yg w w1:=Cf b1;have HO1:=Lib.hid O1;have HB1:=Lib.hid b1';clear O1 b1 b1';unfold maxLen at t1;go_wp2_with fail
 have k2:=HM.out A1 B1 c1 d1 x1 y1 w1 (HX.p2.keep HB1.out) (HX.q3.keep HB1.out) (by rw [HLX.p2];omega) (by unfold maxLen;omega) (by rw [HLX.q3];omega) (by unfold maxLen;omega)
  (TP (Al _) (by rw [HLX.p2];omega)) (TP (Al _) (by rw [HLX.q3];omega))
 rw [HLX.p2,HLX.q3,<- HL.p1] at k2;refine k2.mono ?_;clear k2;rintro e w2 ⟨v2,rfl,O2,b2⟩;obtain ⟨L2,e2,rfl,s2,t2⟩:=O2.slice;have HO1':=Lib.hid (HO1.out.keep b2);have HB2:=Lib.hid (Yb HB1.out b2);have HO2:=Lib.hid O2;clear O2 b2 HO1;unfold maxLen at t2;go_wp2_with fail;have dd:∀ m,val WB (dg WB m)=m:=AR Aw;have HD:=Lib.hid dd;clear dd;obtain ⟨z1,z2,z3,z4,z5⟩:=HSZ.out;have k3:=DG (some ⟨b,o,none⟩) A1 c c1 x0 x1 w2 (HX.p0.keep HB2.out) (HX.p2.keep HB2.out) (by rw [HLX.p0];omega) (by unfold maxLen;omega) (by rw [HLX.p2];omega) (by unfold maxLen;omega) (by rw [HLX.p0];omega) (by rw [HLX.p2];omega);rw [HLX.p0,HLX.p2,<- HL.p2] at k3;refine k3.mono ?_;clear k3;rintro e w3 ⟨v3,rfl,O3,b3⟩;obtain ⟨L3,e3,rfl,s3,t3⟩:=O3.slice
 replace HO1':=Lib.hid (HO1'.out.keep b3)
 replace HO2:=Lib.hid (HO2.out.keep b3)
 have HB3:=Lib.hid (Yb HB2.out b3);have HO3:=Lib.hid O3;clear O3 b3;unfold maxLen at t3;go_wp2_with fail;have k4:=DG (some ⟨b',o',none⟩) B1 d d1 y0 y1 w3 (HX.p1.keep HB3.out) (HX.q3.keep HB3.out) (by rw [HLX.p1];omega) (by unfold maxLen;omega) (by rw [HLX.q3];omega) (by unfold maxLen;omega) (by rw [HLX.p1];omega) (by rw [HLX.q3];omega);rw [HLX.p1,HLX.q3,<- HL.q3] at k4;refine k4.mono ?_;clear k4;rintro e w4 ⟨v4,rfl,O4,b4⟩;obtain ⟨L4,e4,rfl,s4,t4⟩:=O4.slice
 replace HO1':=Lib.hid (HO1'.out.keep b4)
 replace HO2:=Lib.hid (HO2.out.keep b4)
 replace HO3:=Lib.hid (HO3.out.keep b4)
 have HB4:=Lib.hid (Yb HB3.out b4);have HO4:=Lib.hid O4;clear O4 b4;unfold maxLen at t4;go_wp2_with fail;have k5:=HM.out L3 L4 e3 e4 (dg WB sx) (dg WB sy) w4 HO3.out.rd HO4.out.rd s3 (by unfold maxLen;omega) s4 (by unfold maxLen;omega) (TP (Al _) Yo) (TP (Al _) Yo);rw [HD.out,HD.out] at k5;refine k5.mono ?_;clear k5;rintro e w5 ⟨v5,rfl,O5,b5⟩;obtain ⟨L5,e5,rfl,s5,t5⟩:=O5.slice
 replace HO1':=Lib.hid (HO1'.out.keep b5)
 replace HO2:=Lib.hid (HO2.out.keep b5)
 have HB5:=Lib.hid (Yb HB4.out b5);have HO5:=Lib.hid O5;clear O5 b5;unfold maxLen at t5;go_wp2_with fail;have k6:=GW L5 L1 e5 e1 (dg WB (sx*sy)) (dg WB lo) w5 HO5.out.rd HO1'.out.rd s1 (by unfold maxLen;omega) (Bi Aw HKL.p0) (by rw [HD.out,HD.out];exact HKL.p0) Yo;rw [HD.out,HD.out] at k6;refine k6.mono ?_;clear k6;rintro e w6 ⟨v6,rfl,O6,b6⟩;obtain ⟨L6,e6,rfl,s6,t6⟩:=O6.slice
 replace HO1':=Lib.hid (HO1'.out.keep b6)
 replace HO2:=Lib.hid (HO2.out.keep b6)
 have HB6:=Lib.hid (Yb HB5.out b6);have HO6:=Lib.hid O6;clear O6 b6;unfold maxLen at t6;go_wp2_with fail;have z6:(dg WB (sx*sy - lo)).length<=n - h+1+(n - h+1):=TP (Bi Aw (Nat.sub_le _ _)) z5;have k7:=GW L6 L2 e6 e2 (dg WB (sx*sy - lo)) (dg WB hi) w6 HO6.out.rd HO2.out.rd s2 (by unfold maxLen;omega) (Bi Aw HKL.q1) (by rw [HD.out,HD.out];exact HKL.q1) Yo;rw [HD.out,HD.out] at k7;refine k7.mono ?_;clear k7;rintro e w7 ⟨v7,rfl,O7,b7⟩;obtain ⟨L7,e7,rfl,s7,t7⟩:=O7.slice
 replace HO1':=Lib.hid (HO1'.out.keep b7)
 replace HO2:=Lib.hid (HO2.out.keep b7)
 have HB7:=Lib.hid (Yb HB6.out b7);have HO7:=Lib.hid O7;clear O7 b7;unfold maxLen at t7;go_wp2_with fail;have z7:(dg WB (sx*sy - lo - hi)).length<=n - h+1+(n - h+1):=TP (Bi Aw (Nat.sub_le _ _)) z6;obtain ⟨Z8,hZ8⟩:∃ Z8,Z8=List.replicate h 0++dg WB (sx*sy - lo - hi):=⟨_,rfl⟩;have z8:Z8.length<=1099511627776:=by rw [hZ8,TM,Uk];omega
 have q8:val WB Z8=WB ^ h*(sx*sy - lo - hi):=by rw [hZ8,Fz,HD.out]
 have k8:=FA L7 e7 (dg WB (sx*sy - lo - hi)) h w7 HO7.out.rd HO7.out.none_cap Yo;rw [<- hZ8] at k8;have HQ8:=Lib.hid q8;clear q8 hZ8;refine k8.mono ?_;clear k8;rintro e w8 ⟨v8,rfl,O8,b8⟩;obtain ⟨L8,e8,rfl,s8,t8⟩:=O8.slice
 replace HO1':=Lib.hid (HO1'.out.keep b8)
 replace HO2:=Lib.hid (HO2.out.keep b8)
 have HB8:=Lib.hid (Yb HB7.out b8);have HO8:=Lib.hid O8;clear O8 b8;unfold maxLen at t8;go_wp2_with fail;have k9:=DG L1 L8 e1 e8 (dg WB lo) Z8 w8 HO1'.out.rd HO8.out.rd s1 (by unfold maxLen;omega) s8 (by unfold maxLen;omega) Yo Yo;rw [HD.out,HQ8.out] at k9;refine k9.mono ?_;clear k9;rintro e w9 ⟨v9,rfl,O9,b9⟩;obtain ⟨L9,e9,rfl,s9,t9⟩:=O9.slice
 replace HO1':=Lib.hid (HO1'.out.keep b9)
 replace HO2:=Lib.hid (HO2.out.keep b9)
 have HB9:=Lib.hid (Yb HB8.out b9);have HO9:=Lib.hid O9;clear O9 b9;unfold maxLen at t9;go_wp2_with fail;obtain ⟨Z10,hZ10⟩:∃ Z10,Z10=List.replicate (2*h) 0++dg WB hi:=⟨_,rfl⟩;have z10:Z10.length<=1099511627776:=by rw [hZ10,TM,Uk];omega
 have q10:val WB Z10=WB ^ h*WB ^ h*hi:=by rw [hZ10,Fz,HD.out,show 2*h=h+h from by omega,UF]
 have z9:(dg WB (lo+WB ^ h*(sx*sy - lo - hi))).length<=P.length+Q.length:=by
  have e:=HK.out;refine Au Aw ?_;refine Ug (show lo+WB ^ h*(sx*sy - lo - hi)<=val WB P*val WB Q by rw [e];exact VF _ _) ?_;rw [UF];exact UG (Bc HP.p0) (Bc HQ.p0)
 have k10:=FA L2 e2 (dg WB hi) (2*h) w9 HO2.out.rd HO2.out.none_cap Yo;rw [<- hZ10,show (((2*h:Nat)):Int)=2*(h:Int) from by omega] at k10;have HQ10:=Lib.hid q10;clear q10 hZ10;refine k10.mono ?_;clear k10;rintro e w10 ⟨v10,rfl,O10,b10⟩;obtain ⟨L10,e10,rfl,s10,t10⟩:=O10.slice;have HO9':=Lib.hid (HO9.out.keep b10);have HB10:=Lib.hid (Yb HB9.out b10);have HO10:=Lib.hid O10;clear O10 b10;unfold maxLen at t10;go_wp2_with fail;have k11:=DG L9 L10 e9 e10 (dg WB (lo+WB ^ h*(sx*sy - lo - hi))) Z10 w10 HO9'.out.rd HO10.out.rd s9 (by unfold maxLen;omega) s10 (by unfold maxLen;omega) Yo Yo;rw [HD.out,HQ10.out,<- HK.out] at k11;refine k11.mono ?_;clear k11;rintro e w11 ⟨v11,rfl,O11,b11⟩;have HO11:=Lib.hid O11;have HB11:=Lib.hid (Yb HB10.out b11);clear O11 b11;go_wp2_with fail;go_ret;exact ⟨v11,rfl,Ow.mono HO11.out HB10.out.size,HB11.out⟩
theorem PP (n:Nat):n<=274877906944->Le n:=by
 induction n using Nat.strongRecOn with
 | _ n ih=>
  intro hn A B c d xs ys w hx hy hlx hcx hly hcy h1 h2;by_cases hs:(strip xs).length<24∨(strip ys).length<24
  · exact Mo A B c d xs ys w hx hy hlx hcx hly hcy hs Yo Yo
  · exact Nk n (fun m hm=>ih m hm Yo) hn A B c d xs ys w hx hy hlx hcx hly hcy Yo Yo h1 h2
theorem IU (A B:Option Addr) (c d:Nat) (xs ys:List Nat) (w:World) (hx:Rd w A xs) (hy:Rd w B ys) (hlx:xs.length<=c) (hcx:c<=maxLen) (hly:ys.length<=d) (hcy:d<=maxLen) (h1:xs.length<=274877906944) (h2:ys.length<=274877906944):
 Calls Tryz.prog 165 #[.slice A xs.length c,.slice B ys.length d] w fun e w'=>∃ v,e=.returned v/\Ow w' w.heap.size v (dg WB (val WB xs*val WB ys))/\Yg w w':=
 PP 274877906944 (TL _) A B c d xs ys w hx hy hlx hcx hly hcy (TP (Al _) h1) (TP (Al _) h2)
end
end Go.Proofs.YtlblnmmfphiobaaGreat
