import Derived.Test.YtlblnmmfphiobaaGreatPNA5
import Derived.Sort.OwnSorted
import Derived.Deep.RegionHeld3
set_option maxRecDepth 100000
set_option maxHeartbeats 8000000
set_option linter.unusedVariables false
set_option linter.unusedSimpArgs false
namespace Go.Proofs.YtlblnmmfphiobaaGreat
section
open Go Go.RowKit Go.Proofs Pl
def Nl (w:World) (v:Value) (xs:List Nat):Prop:=∃ A c,v=.slice A xs.length c/\Rd w A xs/\xs.length<=c/\c<=maxLen/\(A=none->c=0)
def Nm (w:World) (L:Nat) (v:Value) (n:Nat):Prop:=∃ xs,Nl w v xs/\xs.length<=L/\val WB xs=n
def Rs (w w':World) (v:Value) (n:Nat):Prop:=Ow w' w.heap.size v (dg WB n)/\Yg w w'
section
variable {w w' w'':World} {v a b:Value} {xs ys:List Nat} {L L' L1 L2 m n:Nat}
theorem Nl.keep (h:Nl w v xs) (hb:Below w.heap.size w w'):Nl w' v xs:=by
 obtain ⟨A,c,h1,h2,h3⟩:=h;exact ⟨A,c,h1,h2.keep hb,h3⟩
theorem Nm.keep (h:Nm w L v n) (hb:Below w.heap.size w w'):Nm w' L v n:=by
 obtain ⟨xs,h1,h2⟩:=h;exact ⟨xs,h1.keep hb,h2⟩
theorem Ya (w:World) (o:Obj):Below w.heap.size w (w.alloc o):=(Below.refl _ _).alloc (TL _) _
theorem Ai (w:World) (q:Nat):Below w.heap.size w (w.drewN q):=⟨rfl,rfl,rfl,TL _,fun _ _=>rfl⟩
theorem Nm.mono (h:Nm w L v n) (hL:L<=L'):Nm w L' v n:=by
 obtain ⟨xs,h1,h2,h3⟩:=h;exact ⟨xs,h1,TP h2 hL,h3⟩
theorem Nm.lt (h:Nm w L v n):n<WB ^ L:=by
 obtain ⟨xs,⟨A,c,-,h1,-⟩,h2,h3⟩:=h;rw [<- h3];exact TV (Bc h1.1) (Ua Ay h2)
theorem Ow.nl {B:Nat} (h:Ow w B v xs):Nl w v xs:=by
 obtain ⟨A,c,rfl,h1,h2⟩:=h.slice;exact ⟨A,c,rfl,h.rd,h1,h2,h.none_cap⟩
theorem Rs.nl (h:Rs w w' v n):Nl w' v (dg WB n):=h.1.nl
theorem Rs.nm (h:Rs w w' v n) (hn:n<WB ^ L):Nm w' L v n:=⟨_,h.nl,Au Aw hn,AR Aw _⟩
theorem Nl.all (h:Nl w v xs):All WB xs:=by obtain ⟨A,c,-,h1,-⟩:=h;exact h1.1
theorem NW (w:World):Nl w (.slice none 0 0) []:=⟨none,0,rfl,Rd.nil _ _,TL _,Yd,fun _=>rfl⟩
theorem FD (w:World) (x:Nat) (hx:x<WB):Nl (w.alloc (.cells #[.int .u64 (x:Int)] 146)) (.slice (some ⟨w.heap.size,0,none⟩) 1 1) [x]:=⟨_,1,rfl,SJ w x hx,by simp,Yd,by simp⟩
theorem KK (w:World) (x:Nat) (hx:x<WB):Nm (w.alloc (.cells #[.int .u64 (x:Int)] 146)) 1 (.slice (some ⟨w.heap.size,0,none⟩) 1 1) x:=⟨_,FD w x hx,by simp,by simp [val]⟩
theorem G7 (ha:Nm w L1 a m) (hb:Nm w L2 b n) (h1:L1<=274877906944) (h2:L2<=274877906944):Calls Tryz.prog 219 #[a,b] w fun e w'=>∃ v,e=.returned v/\Rs w w' v (m+n):=by
 obtain ⟨xs,⟨A,c,rfl,a1,a2,a3,a4⟩,a5,rfl⟩:=ha;obtain ⟨ys,⟨B,d,rfl,b1,b2,b3,b4⟩,b5,rfl⟩:=hb;exact DG A B c d xs ys w a1 b1 a2 a3 b2 b3 Yo Yo
theorem Dj (ha:Nm w L1 a m) (hb:Nm w L2 b n) (h1:L1<=274877906944) (h2:L2<=274877906944):Calls Tryz.prog 165 #[a,b] w fun e w'=>∃ v,e=.returned v/\Rs w w' v (m*n):=by
 obtain ⟨xs,⟨A,c,rfl,a1,a2,a3,a4⟩,a5,rfl⟩:=ha;obtain ⟨ys,⟨B,d,rfl,b1,b2,b3,b4⟩,b5,rfl⟩:=hb;exact IU A B c d xs ys w a1 b1 a2 a3 b2 b3 Yo Yo
theorem Cu (ha:Nm w L1 a m) (h1:L1<=274877906944):Calls Tryz.prog 239 #[a] w fun e w'=>∃ v,e=.returned v/\Rs w w' v m:=by
 obtain ⟨xs,⟨A,c,rfl,a1,a2,a3,a4⟩,a5,rfl⟩:=ha;exact Du A c xs w a1 a2 a3 Yo
theorem Gr (ha:Nm w L1 a m) (hb:Nm w L2 b n):Calls Tryz.prog 241 #[a,b] w fun e w'=>e=.returned (.int .i64 (Bk m n))/\Below w.heap.size w w':=by
 obtain ⟨xs,⟨A,c,rfl,a1,a2,a3,a4⟩,a5,rfl⟩:=ha;obtain ⟨ys,⟨B,d,rfl,b1,b2,b3,b4⟩,b5,rfl⟩:=hb;refine (DC A B c d xs ys w a1 b1 a2 a3 b2 b3).mono ?_;rintro e w' ⟨he,q,rfl⟩;exact ⟨he,Ai _ _⟩
theorem IF (ha:Nm w L1 a m) (h1:L1<=274877906944):Calls Tryz.prog 215 #[a] w fun e w'=>e=.returned (.int .i64 (nb m:Int))/\Below w.heap.size w w':=by
 obtain ⟨xs,⟨A,c,rfl,a1,a2,a3,a4⟩,a5,rfl⟩:=ha;refine (OB A c xs w a1 a2 a3 Yo).mono ?_;rintro e w' ⟨he,q,rfl⟩;exact ⟨he,Ai _ _⟩
theorem J6 (ha:Nm w L1 a m) (hb:Nm w L2 b n) (h1:L1<=274877906944):Calls Tryz.prog 220 #[a,b] w fun e w'=>∃ v,e=.returned (.tuple #[v,.int .i64 (CQ m n:Int)])/\Rs w w' v (m - n):=by
 obtain ⟨xs,⟨A,c,rfl,a1,a2,a3,a4⟩,a5,rfl⟩:=ha;obtain ⟨ys,⟨B,d,rfl,b1,b2,b3,b4⟩,b5,rfl⟩:=hb;exact IS A B c d xs ys w a1 b1 a2 a3 b2 b3 Yo
theorem KM (ha:Nm w L1 a m) (hb:Nm w L2 b n) (h1:L1<=274877906944) (h2:L2<=274877906944):Calls Tryz.prog 217 #[a,b] w fun e w'=>∃ v,e=.returned v/\Rs w w' v (Nat.gcd m n):=by
 obtain ⟨xs,⟨A,c,rfl,a1,a2,a3,a4⟩,a5,rfl⟩:=ha;obtain ⟨ys,⟨B,d,rfl,b1,b2,b3,b4⟩,b5,rfl⟩:=hb;exact P8 A B c d xs ys w a1 b1 a2 a3 b2 b3 Yo Yo
theorem BY (ha:Nm w L1 a m) (hb:Nm w L2 b n) (h1:L1<=274877906944) (h0:n≠0):Calls Tryz.prog 218 #[a,b] w fun e w'=>∃ q r,e=.returned (.tuple #[q,r,.int .i64 0])/\Rs w w' q (m / n)/\Rs w w' r (m % n):=by
 obtain ⟨xs,⟨A,c,rfl,a1,a2,a3,a4⟩,a5,rfl⟩:=ha;obtain ⟨ys,⟨B,d,rfl,b1,b2,b3,b4⟩,b5,rfl⟩:=hb;refine (Dz A B c d xs ys w a1 b1 a4 a2 a3 b2 b3 Yo).mono ?_;rintro e w' ⟨q,r,he,hq,hr,hb⟩;rw [if_neg h0] at he hr;exact ⟨q,r,he,⟨hq,hb⟩,⟨hr,hb⟩⟩
end
end
section
open Go Go.RowKit Go.Proofs Pl
theorem CV {xs:List Nat} {k:Nat} (h:k<xs.length):xs.take (k+1)=xs.take k++[atD xs k]:=by
 rw [Uc h,BW h]
theorem ME (A B:Option Addr) (c d:Nat) (xs ys:List Nat) (w:World) (hx:Rd w A xs) (hy:Rd w B ys) (hlx:xs.length<=c) (hcx:c<=maxLen) (hly:ys.length<=d) (hcy:d<=maxLen):
 Calls Tryz.prog 155 #[.slice A xs.length c,.slice B ys.length d] w fun e w'=>e=.returned (.bool (decide (xs=ys)))/\Yg w w':=by
 by_cases hl:xs.length=ys.length
 · obtain ⟨n,hn⟩:∃ n,n=xs.length:=⟨_,rfl⟩;have hn2:ys.length=n:=Yo;rw [<- hn,hn2];have hnm:n<=9223372036854775807:=by unfold maxLen at*;omega
   have hb0:((n:Int) !=(n:Int))=false:=by simp
   have HX:=Lib.hid hx;have HY:=Lib.hid hy;have HN:=Yh2 hn.symm hn2;clear hx hy hlx hcx hly hcy hl hn hn2;go_enter Tryz.func155,Tryz.ntmps155;go_wp2_with fail;go_loopw [5] (fun i wr=>∃ k:Nat,i=.int .i64 (k:Int)/\k<=n/\Hid (xs.take k=ys.take k/\∃ q,wr=w.drewN q)) (fun i _=>n - (intOf i).toNat)
   case atStart=>exact ⟨0,rfl,Yo,by simp,0,rfl⟩
   case round=>
    obtain ⟨k,rfl,hk,ht,q,hw⟩:=hrel;have HT:=Lib.hid ht;clear ht;subst hw;by_cases hlt:k<n
    · obtain ⟨b1,o1,rfl,hc1⟩:=HX.out.at_ (j:=k) (by rw [HN.p0];exact hlt);obtain ⟨b2,o2,rfl,hc2⟩:=HY.out.at_ (j:=k) (by rw [HN.q1];exact hlt);have m1:=hc1 k _ (AD (by rw [HN.p0];exact hlt));have m2:=hc2 k _ (AD (by rw [HN.q1];exact hlt));have i0:(0:Int)<=(k:Int):=Yo;have i1:(k:Int)<(n:Int):=Yo;clear hc1 hc2;by_cases he:atD xs k=atD ys k
      · have hb1:((atD xs k:Int) !=(atD ys k:Int))=false:=by rw [he];simp
        have HE:=Lib.hid he;clear he;go_wp2_with fail;go_quiet (fail);go_wp2_with fail;go_roundw
        case rel=>
         refine ⟨k+1,by go_num,Yo,?_,q+nq,?_⟩
         · rw [CV (by rw [HN.p0];exact hlt),CV (by rw [HN.q1];exact hlt),HT.out,HE.out]
         · rfl
        case measure=>simp [intOf];omega
      · have hb1:((atD xs k:Int) !=(atD ys k:Int))=true:=by simpa using fun h:(atD xs k:Int)=(atD ys k:Int)=>he Yo
        have HE:=Lib.hid he;clear he;go_wp2_with fail;go_quiet (fail);go_wp2_with fail;go_ret;have hne:xs≠ys:=fun h=>HE.out (by rw [h]);refine ⟨?_,?_⟩
        · simp [hne]
        · first | exact Ai _ _ | (rw [World.drewN_drewN];exact Ai _ _)
    · obtain rfl:k=n:=by omega
      go_wp2_with fail;go_ret
      have he:xs=ys:=by
       have h1:=HT.out
       rwa [Ud (by rw [HN.p0];exact TL _),Ud (by rw [HN.q1];exact TL _)] at h1
      exact ⟨by simp [he],Ai _ _⟩
 · have hb0:((xs.length:Int) !=(ys.length:Int))=true:=by simp;omega
   have hne:xs≠ys:=fun h=>hl (by rw [h]);have hd:decide (xs=ys)=false:=by simp [hne]
   rw [hd];obtain ⟨n,hn⟩:∃ n,n=xs.length:=⟨_,rfl⟩;obtain ⟨m,hm⟩:∃ m,m=ys.length:=⟨_,rfl⟩;rw [<- hn,<- hm] at hb0 ⊢;clear hx hy hlx hcx hly hcy hl hne hd hn hm;go_enter Tryz.func155,Tryz.ntmps155;go_wp2_with fail;go_ret;exact ⟨rfl,Below.refl _ _⟩
theorem Lk {w:World} {a b:Value} {xs ys:List Nat} (ha:Nl w a xs) (hb:Nl w b ys):
 Calls Tryz.prog 155 #[a,b] w fun e w'=>e=.returned (.bool (decide (xs=ys)))/\Yg w w':=by
 obtain ⟨A,c,rfl,a1,a2,a3,a4⟩:=ha;obtain ⟨B,d,rfl,b1,b2,b3,b4⟩:=hb;exact ME A B c d xs ys w a1 b1 a2 a3 b2 b3
end
section
open Go Go.RowKit Go.Proofs Pl
theorem Tz {n:Nat} (xs:List Nat) (hA:All WB xs) (hC:Cw xs) (hv:val WB xs=n):dg WB n=xs:=by rw [<- hv];exact FG Aw hA hC
theorem Sy {n:Nat} (h0:0<n) (h:n<WB):dg WB n=[n]:=Tz [n] (All.cons h All.nil) (by unfold Cw;cases n with | zero=>omega | succ n=>rfl) (by simp [val])
theorem QE (w:World) (x b:Nat) (hb:b=w.heap.size) (hx:x<WB):Nl (w.alloc (.cells #[.int .u64 (x:Int)] 146)) (.slice (some ⟨b,0,none⟩) 1 1) [x]:=by subst hb;exact FD w x hx
end
section
open Go Go.RowKit Go.Proofs Pl
theorem IN {w:World} {B:Nat} {v:Value} {ys:List Nat} {x n:Nat} (hy:All WB ys) (hx:x<WB) (hn:n=ys.length) (h:w.ownsRow B 146 1 v (n+1) (wis ys++[.int .u64 (x:Int)])):Ow w B v (ys++[x]):=by
 subst hn;refine ⟨hy.append (All.cons hx All.nil),?_⟩;rw [TM,Ui,<- Da];exact h
end
section
namespace I
open Go Go.RowKit Go.Proofs Pl
def TB:Nat:=10000
theorem BD:TB=10000:=rfl
theorem BN:0<TB:=by decide
theorem AH:1<TB:=by decide
attribute [irreducible] TB
def wis (xs:List Nat):List Value:=xs.map fun (x:Nat)=>Value.int .i64 (x:Int)
theorem AU (xs:List Nat):(wis xs).length=xs.length:=Uz _
theorem Da (xs ys:List Nat):wis xs++wis ys=wis (xs++ys):=by simp [wis]
theorem CU {xs:List Nat} {j:Nat} {x:Nat} (h:xs[j]?=some x):(wis xs)[j]?=some (.int .i64 (x:Int)):=by simp [wis,h]
theorem G8 (xs:List Nat) (n:Nat):(wis xs).take n=wis (xs.take n):=by simp [wis,List.map_take]
theorem Ix (xs:List Nat) (n:Nat) (x:Nat):(wis xs).set n (.int .i64 (x:Int))=wis (xs.set n x):=by simp [wis,List.map_set]
theorem Eg (xs:List Nat):∀ u∈wis xs,u.oneCell'=true:=by
 intro u hu;obtain ⟨x,_,rfl⟩:=UP.1 hu;rfl
def Rd (w:World) (A:Option Addr) (xs:List Nat):Prop:=
 All TB xs/\(xs=[]∨∃ b o,A=some ⟨b,o,none⟩/\∀ (j x:Nat),xs[j]?=some x->w.cell? ⟨b,o+j,none⟩=some (.int .i64 (x:Int)))
def Ow (w:World) (B:Nat) (v:Value) (xs:List Nat):Prop:=All TB xs/\w.ownsRow B 3 1 v xs.length (wis xs)
section
variable {w w':World} {A:Option Addr} {xs:List Nat} {B:Nat} {v:Value}
theorem Rd.nil (w:World) (A:Option Addr):Rd w A []:=⟨All.nil,.inl rfl⟩
theorem Rd.at_ (h:Rd w A xs) {j:Nat} (hj:j<xs.length):∃ b o,A=some ⟨b,o,none⟩/\(∀ (j x:Nat),xs[j]?=some x->w.cell? ⟨b,o+j,none⟩=some (.int .i64 (x:Int))):=by
 rcases h.2 with rfl | h
 · simp at hj
 · exact h
theorem Rd.keep (h:Rd w A xs) (hb:Below w.heap.size w w'):Rd w' A xs:=by
 refine ⟨h.1,h.2.imp id ?_⟩;rintro ⟨b,o,hA,hc⟩;exact ⟨b,o,hA,fun j x hj=>(hb.cell (p:=⟨b,o+j,none⟩) (CL (hc j x hj))).trans (hc j x hj)⟩
theorem Rd.drewN (h:Rd w A xs) (q:Nat):Rd (w.drewN q) A xs:=h
theorem Rd.take (h:Rd w A xs) (n:Nat):Rd w A (xs.take n):=by
 refine ⟨h.1.take n,?_⟩
 rcases h.2 with rfl | ⟨b,o,hA,hc⟩
 · exact .inl (by simp)
 · refine .inr ⟨b,o,hA,fun j x hj=>hc j x ?_⟩;rw [List.getElem?_take] at hj
   split at hj
   · exact hj
   · cases hj
theorem Rd.strip (h:Rd w A xs):Rd w A (Pl.strip xs):=by rw [Cg];exact h.take _
theorem Rd.drop {b o:Nat} (h:Rd w (some ⟨b,o,none⟩) xs) (n:Nat):Rd w (some ⟨b,o+n,none⟩) (xs.drop n):=by
 refine ⟨h.1.drop n,?_⟩
 rcases h.2 with rfl | ⟨b',o',hA,hc⟩
 · exact .inl (by simp)
 · injection hA with hA
   injection hA with h1 h2
   subst h1;subst h2;refine .inr ⟨b,o+n,rfl,fun j x hj=>?_⟩;rw [List.getElem?_drop] at hj;rw [Vc];exact hc _ x hj
theorem Ow.slice (h:Ow w B v xs):∃ A c,v=.slice A xs.length c/\xs.length<=c/\c<=maxLen:=by
 rcases h.2.2 with ⟨hv,h0⟩ | ⟨g,cap,cur,hv,hb,hh,h1,h2,h3,h4⟩
 · exact ⟨none,0,by rw [hv,h0],Yo,Yd⟩
 · exact ⟨_,cap,hv,h1,h2⟩
theorem Ow.rd {n c:Nat} (h:Ow w B (.slice A n c) xs):Rd w A xs:=by
 refine ⟨h.1,?_⟩
 rcases h.2.2 with ⟨hv,h0⟩ | ⟨g,cap,cur,hv,hb,hh,h1,h2,h3,h4⟩
 · exact .inl (TN h0)
 · injection hv with hv hn hc
   refine .inr ⟨g,0,hv,fun j x hj=>?_⟩;have:=JP (xs:=wis xs) (g:=g) (n:=xs.length) (cap:=cap) ⟨h.2.1,.inr ⟨g,cap,cur,rfl,hb,hh,h1,h2,h3,h4⟩⟩ j _ (CU hj);have e:(⟨g,0,none⟩:Addr).add j=⟨g,0+j,none⟩:=by unfold Addr.add;split<;>simp_all
   rwa [e] at this
theorem Ow.keep (h:Ow w B v xs) (hb:Below w.heap.size w w'):Ow w' B v xs:=⟨h.1,AQ h.2 (Ak.below hb)⟩
theorem Ow.mono {B':Nat} (h:Ow w B v xs) (hB:B'<=B):Ow w B' v xs:=⟨h.1,CN h.2 hB⟩
theorem Ow.drewN (h:Ow w B v xs) (q:Nat):Ow (w.drewN q) B v xs:=h
theorem Ow.nil (w:World) (B:Nat):Ow w B (.slice none 0 0) []:=⟨All.nil,World.ownsRow_nil _ _ _ _⟩
theorem Ow.take {n c:Nat} (h:Ow w B (.slice A n c) xs) {k:Nat} (hk:k<=xs.length):Ow w B (.slice A k c) (xs.take k):=by
 have hl:(xs.take k).length=k:=by simp;omega
 refine ⟨h.1.take k,?_⟩;rw [hl];refine ⟨by simp [wis];omega,?_⟩
 rcases h.2.2 with ⟨hv,h0⟩ | ⟨g,cap,cur,hv,hb,hh,h1,h2,h3,h4⟩
 · injection hv with hv hn hc
   obtain rfl:k=0:=by omega
   exact .inl ⟨by rw [hv,hc],rfl⟩
 · injection hv with hv hn hc
   refine .inr ⟨g,c,cur,by rw [hv],hb,hh,Yo,Yo,by rw [hc];exact h3,?_⟩;rw [<- G8,<- h4,List.take_take,Vk,Vk,U8 hk]
theorem Ow.strip {n c:Nat} (h:Ow w B (.slice A n c) xs):Ow w B (.slice A (Pl.strip xs).length c) (Pl.strip xs):=by
 have:=h.take (Al xs)
 rwa [<- Cg] at this
theorem Ow.lt (h:Ow w B v xs):∀ g,v.ownBlock=some g->B<=g/\g<w.heap.size:=h.2.lt
theorem Ow.set_ {g n c:Nat} (h:Ow w B (.slice (some ⟨g,0,none⟩) n c) xs) (hn:n=xs.length) {j:Nat} {x:Nat} (hx:x<TB):Ow (w.setCell ⟨g,j,none⟩ (.int .i64 (x:Int))) B (.slice (some ⟨g,0,none⟩) n c) (xs.set j x):=by
 subst hn;refine ⟨h.1.set j hx,?_⟩;rw [Uh,<- Ix];exact AT h.2 _
theorem Ow.at_ {n c:Nat} (h:Ow w B (.slice A n c) xs) {j:Nat} (hj:j<xs.length):∃ g,A=some ⟨g,0,none⟩/\n=xs.length/\B<=g/\g<w.heap.size/\xs.length<=c/\c<=maxLen/\(∀ (j x:Nat),xs[j]?=some x->w.cell? ⟨g,j,none⟩=some (.int .i64 (x:Int)))/\∀ j,w.frozen? ⟨g,j,none⟩=false:=by
 obtain ⟨g,cap,hv,h1,h2,h3,h4,h5,h6⟩:=CG h.2 Yo;injection hv with hv hn hc
 exact ⟨g,hv,hn,h1,h4,Yo,Yo,fun j x hx=>h5 j _ (CU hx),h6⟩
end
theorem Bf:(Tryz.prog.info? 3).map (fun i=>(i.zero,i.size,i.bytes))=some (some (.int .i64 0),1,8):=by kernel_rfl
theorem AW {xs:List Nat} (h:All TB xs) (i:Nat):atD xs i<TB:=h.getD BN i
theorem EO {w:World} {A:Option Addr} {xs:List Nat} (h:Rd w A xs) (ad:Addr) (hA:A=some ad):∀ j u,(wis xs)[j]?=some u->w.cell? (ad.add j)=some u:=by
 intro j u hj
 have hlt:j<xs.length:=by
  have:=(List.getElem?_eq_some_iff.1 hj).1
  rwa [AU] at this
 obtain ⟨b,o,hA',hc⟩:=h.at_ hlt;rw [hA] at hA';injection hA' with hA'
 subst hA';have e:(⟨b,o,none⟩:Addr).add j=⟨b,o+j,none⟩:=by unfold Addr.add;split<;>simp_all
 rw [e,hc j _ (List.getElem?_eq_getElem hlt)];rw [CU (List.getElem?_eq_getElem hlt)] at hj;exact hj
theorem Cm (n:Nat):(madeCells (Value.int .i64 0).cells (n*1)).toList=wis (List.replicate n 0):=by
 rw [Vk];apply List.ext_getElem
 · simp [madeCells,wis]
 · intro i h1 h2;have e:i % 1=0:=Nat.mod_one i;simp [madeCells,wis,Value.cells,e]
theorem DS (n:Nat):(madeCells (Value.int .i64 0).cells (n*1))=(wis (List.replicate n 0)).toArray:=by
 apply Array.toList_inj.1;rw [Cm]
theorem C1 (k c:Nat) (hk:k<=c) (hc:c*8<=281474976710656) (W:World):
 (Instr.makeSlice 79 (.int .i64 (k:Int)) (.int .i64 (c:Int))).run Tryz.prog W=.ok (.slice (some ⟨W.heap.size,0,none⟩) k c) (W.alloc (.cells (wis (List.replicate c 0)).toArray 3)):=by
 obtain ⟨i0,hi0,hz0,hz1,hz2⟩:=info_parts Bf;have h:=run_make (P:=Tryz.prog) W 79 3 i0 _ Tryz.underlying79 hi0 hz0 .i64 .i64 (k:Int) (c:Int) Yo Yo (by rw [hz2];omega) Yo;rw [h];simp only [Vy,hz1,DS]
theorem BT (w:World) (k c:Nat) (hk:k<=c) (hc:c<=maxLen):Ow (w.alloc (.cells (wis (List.replicate c 0)).toArray 3)) w.heap.size (.slice (some ⟨w.heap.size,0,none⟩) k c) (List.replicate k 0):=by
 refine ⟨All.replicate BN _,by simp [wis],.inr ⟨w.heap.size,c,(wis (List.replicate c 0)).toArray,by simp,TL _,heap_alloc_new _ _,by simpa using hk,hc,by simp [wis],?_⟩⟩;simp [wis,List.take_replicate,U8 hk]
theorem Ow.none_cap {w:World} {B n c:Nat} {xs:List Nat} {A:Option Addr} (h:Ow w B (.slice A n c) xs):A=none->c=0:=by
 rintro rfl
 rcases h.2.2 with ⟨hv,h0⟩ | ⟨g,cap,cur,hv,_⟩
 · injection hv
 · injection hv with hv;cases hv
def Nl (w:World) (v:Value) (xs:List Nat):Prop:=∃ A c,v=.slice A xs.length c/\Rd w A xs/\xs.length<=c/\c<=maxLen/\(A=none->c=0)
def Nm (w:World) (L:Nat) (v:Value) (n:Nat):Prop:=∃ xs,Nl w v xs/\xs.length<=L/\val TB xs=n
def Rs (w w':World) (v:Value) (n:Nat):Prop:=Ow w' w.heap.size v (dg TB n)/\Yg w w'
section
variable {w w' w'':World} {v a b:Value} {xs ys:List Nat} {L L' L1 L2 m n:Nat}
theorem Nl.keep (h:Nl w v xs) (hb:Below w.heap.size w w'):Nl w' v xs:=by
 obtain ⟨A,c,h1,h2,h3⟩:=h;exact ⟨A,c,h1,h2.keep hb,h3⟩
theorem Nm.keep (h:Nm w L v n) (hb:Below w.heap.size w w'):Nm w' L v n:=by
 obtain ⟨xs,h1,h2⟩:=h;exact ⟨xs,h1.keep hb,h2⟩
theorem Nm.mono (h:Nm w L v n) (hL:L<=L'):Nm w L' v n:=by
 obtain ⟨xs,h1,h2,h3⟩:=h;exact ⟨xs,h1,TP h2 hL,h3⟩
theorem Nm.lt (h:Nm w L v n):n<TB ^ L:=by
 obtain ⟨xs,⟨A,c,-,h1,-⟩,h2,h3⟩:=h;rw [<- h3];exact TV (Bc h1.1) (Ua BN h2)
theorem Ow.nl {B:Nat} (h:Ow w B v xs):Nl w v xs:=by
 obtain ⟨A,c,rfl,h1,h2⟩:=h.slice;exact ⟨A,c,rfl,h.rd,h1,h2,h.none_cap⟩
theorem Rs.nl (h:Rs w w' v n):Nl w' v (dg TB n):=h.1.nl
theorem Rs.nm (h:Rs w w' v n) (hn:n<TB ^ L):Nm w' L v n:=⟨_,h.nl,Au AH hn,AR AH _⟩
theorem Nl.all (h:Nl w v xs):All TB xs:=by obtain ⟨A,c,-,h1,-⟩:=h;exact h1.1
theorem NW (w:World):Nl w (.slice none 0 0) []:=⟨none,0,rfl,Rd.nil _ _,TL _,Yd,fun _=>rfl⟩
end
end I
end
section
namespace I
open Go Go.RowKit Go.Proofs Pl
theorem CW (A:Option Addr) (c:Nat) (xs:List Nat) (i:Nat) (w:World) (hx:Rd w A xs) (hl:xs.length<=maxLen):
 Calls Tryz.prog 195 #[.slice A xs.length c,.int .i64 (i:Int)] w fun e w'=>e=.returned (.int .i64 (atD xs i:Int))/\w=w':=by
 unfold maxLen at hl;obtain ⟨n,hnn⟩:∃ n,n=xs.length:=⟨_,rfl⟩;rw [<- hnn] at hl ⊢;by_cases hn:i<n
 · obtain ⟨b,o,rfl,hcell⟩:=hx.at_ (j:=i) Yo;have hm:=hcell i _ (AD Yo);have i0:(0:Int)<=(i:Int):=Yo;clear hx hcell hnn;go_enter Tryz.func195,Tryz.ntmps195;go_wp2;go_ret;exact ⟨rfl,rfl⟩
 · have hv:atD xs i=0:=Ck Yo;rw [hv];clear hv hx hnn;go_enter Tryz.func195,Tryz.ntmps195;go_wp2;go_ret;exact ⟨rfl,rfl⟩
theorem IN {w:World} {B:Nat} {v:Value} {ys:List Nat} {x n:Nat} (hy:All TB ys) (hx:x<TB) (hn:n=ys.length) (h:w.ownsRow B 3 1 v (n+1) (wis ys++[.int .i64 (x:Int)])):Ow w B v (ys++[x]):=by
 subst hn;refine ⟨hy.append (All.cons hx All.nil),?_⟩;rw [TM,Ui,<- Da];exact h
theorem Nu {B b0:Nat} {w wr w5:World} {v v5:Value} {ys:List Nat} {x n:Nat} {o:Obj} (hO:Ow wr B v ys) (hb:Below B w wr) (hB:B<=wr.heap.size) (hx:x<TB) (hn:n=ys.length) (h:w5.ownsRow B 3 1 v5 (n+1) (wis ys++[.int .i64 (x:Int)])) (hg:(wr.alloc o).grownBy w5 v.ownBlock):
 Ow w5 B v5 (ys++[x])/\Below B w w5:=by
 refine ⟨IN hO.1 hx hn h,?_⟩;have h2:Below B w (wr.alloc o):=hb.alloc hB _;exact h2.grown hg (TP hB (by simp)) (fun j hj=>Kx hO.2 j hj)
theorem Fa {w0 wr:World} {B:Nat} {ops:Array Oper} {rest:List Oper} {o:Oper} {a:Act} {Q:Exit->Act->World->Prop} {v:Value} {ys:List Nat} {y:Nat} (hgd:o.guard=none) (s x:Operand)
 (ho:o.op=.call { callee:=.builtin .append,args:=#[s,x],argTypes:=#[79,79] }) (hs:a.eval s=v) (hx:a.eval x=.slice (some ⟨wr.heap.size,0,none⟩) 1 1)
 (hO:Ow wr B v ys) (hb:Below B w0 wr) (hB:B<=wr.heap.size) (hy:y<TB) (hl:ys.length<=1099511627776)
 (h:∀ v' w',Ow w' B v' (ys++[y])->Below B w0 w'->B<=w'.heap.size->wpList Tryz.prog ops Q rest (a.put o.dst v') w'):wpList Tryz.prog ops Q (o::rest) a (wr.alloc (.cells #[.int .i64 (y:Int)] 3)):=by
 obtain ⟨i0,hi,hz0,hz1,hz2⟩:=info_parts Bf
 refine wpList_append_own _ hgd s x 79 ho B 3 i0 (.int .i64 0) 1 8 Tryz.underlying79 hi hz0 hz1 hz2 rfl Yd v ys.length (wis ys) hs (hO.2.alloc _) ⟨wr.heap.size,0,none⟩ 1 1 [.int .i64 (y:Int)] hx rfl (cell_one_new _ _ _)
  (fun u hu=>by rw [Uj] at hu;subst hu;rfl) (by unfold maxLen;omega) Yo (TP hB (Ya _ _).size) ?_
 intro v' w' hown hg _;obtain ⟨k1,k2⟩:=Nu (b0:=0) hO hb hB hy rfl hown hg;exact h v' w' k1 k2 (TP (TP hB (Ya _ _).size) hg.size)
theorem GN {ys:List Nat} {x:Nat} (hx:x≠0):Cw (ys++[x]):=by
 unfold Cw;rw [C5,if_neg hx]
theorem pow5:9223372036854775808<=TB ^ 5:=by rw [BD];decide
theorem Tr {n m l v:Nat} (hn:n<9223372036854775808) (hm:0<m) (h:v+TB ^ l*m=n):l<=4:=by
 rcases Ul l 5 with hlt | hge
 · omega
 · have h1:TB ^ 5<=TB ^ l:=Ua BN hge;have h2:TB ^ l*1<=TB ^ l*m:=TY _ hm;have:=pow5;omega
def Oz (n B:Nat) (w wr:World) (m:Nat) (v:Value):Prop:=
 ∃ ys:List Nat,Ow wr B v ys/\Below B w wr/\B<=wr.heap.size/\val TB ys+TB ^ ys.length*m=n/\(m=0->Cw ys)
theorem CY (n:Nat) (w:World) (hn:n<9223372036854775808):
 Calls Tryz.prog 188 #[.int .i64 (n:Int)] w fun e w'=>∃ v,e=.returned v/\Rs w w' v n:=by
 have HN:=Lib.hid hn;have hnI:(n:Int)<=9223372036854775807:=Yo;clear hn;go_enter Tryz.func188,Tryz.ntmps188;go_wp2_with fail;go_loopw [0,3] (fun i v wr=>∃ m:Nat,i=.int .i64 (m:Int)/\m<=n/\Hid (Oz n w.heap.size w wr m v)) (fun i _ _=>(intOf i).toNat)
 case atStart=>exact ⟨n,rfl,TL _,[],BT w 0 0 Yo Yd,Ya _ _,(Ya w _).size,by simp [val],fun _=>rfl⟩
 case round=>
  obtain ⟨m,rfl,hmn,hS⟩:=hrel;by_cases h0:m=0
  · subst h0;go_wp2_with fail;go_ret;obtain ⟨ys,hO,hb,hB,hv,hc⟩:=hS.out;rw [UQ,UE] at hv;refine ⟨_,rfl,?_,hb⟩;rw [<- hv,FG AH hO.1 (hc rfl)];exact hO
  · obtain ⟨ys,hO,hb,hB,hv,hc⟩:=hS.out;have hsh:=Tr HN.out Yo hv;have hpos:(0:Int)<(m:Int):=Yo;have hmI:(m:Int)<=9223372036854775807:=Yo;obtain ⟨d,hd⟩:∃ d,d=m % TB:=⟨_,rfl⟩;obtain ⟨q,hq⟩:∃ q,q=m / TB:=⟨_,rfl⟩;have hdI:(m:Int) % 10000=(d:Int):=by rw [hd,BD];omega
    have hqI:(m:Int) / 10000=(q:Int):=by rw [hq,BD];omega
    have hdT:d<TB:=by rw [hd];exact UB _ BN
    have hqm:q<m:=by rw [hq];exact Nat.div_lt_self Yo AH
    have K:=Yh9 hO hb hB hv hsh hd hq hdT h0;clear hO hb hB hv hc hsh hd hq hdT hS h0;go_wp2_with (at_builtin;refine Fa rfl _ _ rfl rfl rfl K.p0 K.p1 K.p2 K.p7 (TP K.p4 Yd) ?_;intro v5 w5 k1 k2 k3);have J:=Yh3 k1 k2 k3;clear k1 k2 k3;go_wp2_with fail;go_roundw
    case rel=>
     refine ⟨q,rfl,Yo,ys++[d],J.p0,J.p1,J.q2,?_,fun hq0=>GN ?_⟩
     · rw [Cr,TM,Ui,UD,<- K.p3,K.p5,K.p6];have e:=Uu m TB
       conv=>rhs;rw [<- e]
       rw [T9,Uf];omega
     · have e:=Uu m TB;rw [<- K.p5,<- K.p6,hq0] at e;have:=K.q8;rw [UQ] at e;omega
    case measure=>simp [intOf];omega
theorem CV {xs:List Nat} {k:Nat} (h:k<xs.length):xs.take (k+1)=xs.take k++[atD xs k]:=by
 rw [Uc h,BW h]
set_option maxHeartbeats 400000 in
theorem Du (A:Option Addr) (c:Nat) (xs:List Nat) (w:World) (hx:Rd w A xs) (hlx:xs.length<=c) (hcx:c<=maxLen) (hlen:xs.length<=1099511627776):
 Calls Tryz.prog 193 #[.slice A xs.length c] w fun e w'=>∃ v,e=.returned v/\Rs w w' v (val TB xs):=by
 obtain ⟨n,hn⟩:∃ n,n=xs.length:=⟨_,rfl⟩;rw [<- hn] at hlx hlen ⊢;have HX:=Lib.hid hx;have HN:=Lib.hid hn;clear hx hn hcx;go_enter Tryz.func193,Tryz.ntmps193;go_wp2_with fail;go_loop [3] (fun i=>∃ k:Nat,k<=n/\i=.int .i64 (k:Int)/\Hid (strip xs=strip (xs.take k))) (fun i=>(intOf i).toNat)
 case atStart=>exact ⟨n,TL _,rfl,by show _=_;rw [HN.out,VV]⟩
 case round=>
  obtain ⟨k,hk,rfl,hs⟩:=hrel;by_cases hgo:0<k/\atD xs (k - 1)=0
  · obtain ⟨hk0,hz⟩:=hgo;obtain ⟨m,rfl⟩:∃ m,k=m+1:=⟨k - 1,Yo⟩;rw [VQ] at hz;obtain ⟨b,o,rfl,hcell⟩:=HX.out.at_ (j:=m) (by rw [<- HN.out];omega);have hm:=hcell m _ (AD (by rw [<- HN.out];omega));rw [hz] at hm
    have hss:strip xs=strip (xs.take m):=by
     have h1:=hs.out;rw [CV (by rw [<- HN.out];omega),hz,C5,if_pos rfl] at h1;exact h1
    have HS:=Lib.hid hss;have hkm:(((m+1:Nat):Int)) - 1=(m:Int):=Yo;have hpos:(0:Int)<((m+1:Nat):Int):=Yo;clear hss hcell hz hs hk0;go_wp2_with fail;go_round
    case rel=>exact ⟨m,Yo,by go_num,HS⟩
    case measure=>simp [intOf]
  · have hst:strip xs=xs.take k:=by
     rcases TQ k with rfl | hp
     · rw [hs.out];rfl
     · obtain ⟨m,rfl⟩:∃ m,k=m+1:=⟨k - 1,Yo⟩;rw [VQ] at hgo;rw [hs.out,CV (by rw [<- HN.out];omega),C5,if_neg (fun h=>hgo ⟨hp,h⟩)]
    have HST:=Lib.hid hst;clear hst;have hkn:k<=xs.length:=by rw [<- HN.out];exact hk
    have HKN:=Lib.hid hkn;clear hkn
    have hwo:(k=0/\¬ (0:Int)<(k:Int))∨∃ m:Nat,(k:Int) - 1=(m:Int)/\(0:Int)<(k:Int)/\m<k/\∃ b o,A=some ⟨b,o,none⟩/\w.cell? ⟨b,o+m,none⟩=some (.int .i64 (atD xs m:Int))/\((atD xs m:Int)==0)=false:=by
     rcases TQ k with h | hp
     · exact .inl ⟨h,Yo⟩
     · refine .inr ⟨k - 1,Yo,Yo,Yo,?_⟩;obtain ⟨b,o,hA,hcell⟩:=HX.out.at_ (j:=k - 1) (by rw [<- HN.out];omega);exact ⟨b,o,hA,hcell _ _ (AD (by rw [<- HN.out];omega)),by simp;exact fun h=>hgo ⟨hp,h⟩⟩
    clear hgo hs
    rcases hwo with ⟨-,hz⟩ | ⟨m,hkm,hpos,hmk,b,o,rfl,hm,hne⟩
    all_goals
     go_wp2_with fail;go_loopw [4,5] (fun v i wr=>∃ j:Nat,i=.int .i64 (j:Int)/\j<=k/\Hid (Ow wr w.heap.size v (xs.take j)/\Yg w wr/\w.heap.size<=wr.heap.size)) (fun _ i _=>k - (intOf i).toNat)
     case atStart=>exact ⟨0,rfl,Yo,BT w 0 0 Yo Yd,Ya _ _,(Ya w _).size⟩
     case round=>
      obtain ⟨j,rfl,hj,hO⟩:=hrel;by_cases hlt:j<k
      · try (exfalso;omega)
        all_goals
         obtain ⟨b2,o2,hA2,hcell⟩:=(HX.out.keep hO.p1).at_ (j:=j) (TV hlt HKN.out);have hm2:=hcell j _ (AD (TV hlt HKN.out));have htk:(xs.take j).length=j:=by rw [TU];have:=HKN.out;omega
         have HTK:=Lib.hid htk;have hjn:j<n:=Yo
         first
          | (injection hA2 with hA2;injection hA2 with hA3 hA4;subst hA3;subst hA4)
          | subst hA2
         clear hcell htk;have htl:(xs.take j).length<=1099511627776:=by rw [HTK.out];omega
         have HTL:=Lib.hid htl;clear htl;go_wp2_with (at_builtin;refine Fa rfl _ _ rfl rfl rfl hO.p0 hO.p1 hO.q2 (AW HX.p0 j) HTL.out ?_;intro v5 w5 k1 k2 k3);rw [<- CV (TV hlt HKN.out)] at k1;have J:=Yh3 k1 k2 k3;clear k1 k2 k3;go_wp2_with fail;go_roundw
         case rel=>exact ⟨j+1,by go_num,Yo,J.out⟩
         case measure=>simp [intOf];omega
      · obtain rfl:j=k:=by omega
        go_wp2_with fail;go_ret;refine ⟨_,rfl,?_,hO.p1⟩;have h1:=hO.p0;rw [<- HST.out,AB AH HX.p0] at h1;exact h1
theorem Cu {w:World} {L:Nat} {a:Value} {m:Nat} (ha:Nm w L a m) (hL:L<=1099511627776):Calls Tryz.prog 193 #[a] w fun e w'=>∃ v,e=.returned v/\Rs w w' v m:=by
 obtain ⟨xs,⟨A,c,rfl,a1,a2,a3,a4⟩,a5,rfl⟩:=ha;exact Du A c xs w a1 a2 a3 Yo
end I
end
section
namespace I
open Go Go.RowKit Go.Proofs Pl
def EQ (n:Nat) (xs:List Nat):List Nat:=xs++List.replicate (n - xs.length) 0
theorem D7 {n:Nat} {xs:List Nat} (h:xs.length<=n):(EQ n xs).length=n:=by simp [EQ];omega
theorem D2 (B n:Nat) (xs:List Nat):val B (EQ n xs)=val B xs:=by rw [EQ,BR,Ch,UQ,UE]
theorem MR {B n:Nat} {xs:List Nat} (hB:0<B) (h:All B xs):All B (EQ n xs):=h.append (All.replicate hB _)
theorem Dq (n:Nat) (xs:List Nat) (j:Nat):atD (EQ n xs) j=atD xs j:=by
 unfold EQ atD;rw [TS,TS]
 rcases Ul j xs.length with h | h
 · rw [List.getElem?_append_left h]
 · rw [List.getElem?_append_right h,List.getElem?_eq_none h,List.getElem?_replicate]
   split<;>rfl
theorem JA {n k:Nat} {P Q:List Nat} (hP:P.length=n) (hQ:Q.length=n) (h:∀ j,k<=j->atD P j=atD Q j):P.drop k=Q.drop k:=by
 apply List.ext_getElem
 · simp [hP,hQ]
 · intro i h1 h2;rw [VB,VB];have:=h (k+i) Yo;rw [BW (by simp at h1;omega),BW (by simp at h2;omega)] at this;exact this
theorem FW {B k:Nat} {xs ys:List Nat} (hB:0<B) (hx:All B xs) (hy:All B ys) (h:∀ j,k+1<=j->atD xs j=atD ys j) (hlt:atD xs k<atD ys k):val B xs<val B ys:=by
 obtain ⟨n,hn⟩:∃ n,n=xs.length+ys.length:=⟨_,rfl⟩
 have hk:k<n:=by
  rcases Ul k n with h' | h'
  · exact h'
  · rw [Ck (xs:=ys) (by omega)] at hlt;omega
 have l1:=D7 (n:=n) (xs:=xs) Yo;have l2:=D7 (n:=n) (xs:=ys) Yo
 have:=Fg (B:=B) (P:=EQ n xs) (Q:=EQ n ys) (i:=k) (MR hB hx) Yo Yo (JA l1 l2 fun j hj=>by rw [Dq,Dq];exact h j hj)
  (by have e1:=Dq n xs k;have e2:=Dq n ys k;rw [BW (by omega)] at e1 e2;omega)
 rwa [D2,D2] at this
theorem Jn {B:Nat} {xs ys:List Nat} (h:∀ j,atD xs j=atD ys j):val B xs=val B ys:=by
 obtain ⟨n,hn⟩:∃ n,n=xs.length+ys.length:=⟨_,rfl⟩;have:=JA (k:=0) (D7 (n:=n) (xs:=xs) Yo) (D7 (n:=n) (xs:=ys) Yo) fun j _=>by rw [Dq,Dq];exact h j
 rw [VI,VI] at this;rw [<- D2 B n xs,this,D2]
set_option maxHeartbeats 400000 in
theorem DC (A B:Option Addr) (c d:Nat) (xs ys:List Nat) (w:World) (hx:Rd w A xs) (hy:Rd w B ys) (hlx:xs.length<=1099511627776) (hly:ys.length<=1099511627776):
 Calls Tryz.prog 172 #[.slice A xs.length c,.slice B ys.length d] w fun e w'=>e=.returned (.int .i64 (Bk (val TB xs) (val TB ys)))/\w=w':=by
 have hp1:=fun i:Nat=>CW A c xs i w hx (by unfold maxLen;omega);have hp2:=fun i:Nat=>CW B d ys i w hy (by unfold maxLen;omega);obtain ⟨la,hla⟩:∃ la,la=xs.length:=⟨_,rfl⟩;obtain ⟨lb,hlb⟩:∃ lb,lb=ys.length:=⟨_,rfl⟩;rw [<- hla] at hp1 hlx ⊢;rw [<- hlb] at hp2 hly ⊢;have HX:=Yh2 hx.1 hy.1;have HL:=Yh2 hla hlb;have HP1:=Lib.hid hp1;have HP2:=Lib.hid hp2;clear hx hy hla hlb hp1 hp2;by_cases hlt:la<lb
 all_goals
  go_enter Tryz.func172,Tryz.ntmps172;go_wp2_with fail;go_loop [6] (fun i=>∃ k:Nat,i=.int .i64 ((k:Int) - 1)/\k<=la+lb/\Hid (∀ j,k<=j->atD xs j=atD ys j)) (fun i=>(intOf i+1).toNat)
  case atStart=>
   first
    | exact ⟨lb,rfl,Yo,fun j hj=>by rw [Ck (by have:=HL.p0;omega),Ck (by have:=HL.q1;omega)]⟩
    | exact ⟨la,rfl,Yo,fun j hj=>by rw [Ck (by have:=HL.p0;omega),Ck (by have:=HL.q1;omega)]⟩
  case round=>
   obtain ⟨k,rfl,hk,hd⟩:=hrel
   cases k with
   | zero=>
    have hfin:Hid (Bk (val TB xs) (val TB ys)=0):=by
     show _=_;rw [Jn fun j=>hd.out j (by omega)];simp [Bk]
    clear hlt;go_wp2_with fail;go_ret;exact ⟨by rw [hfin.out];rfl,rfl⟩
   | succ m=>
    have hkm:(((m+1:Nat):Int) - 1)=(m:Int):=Yo;have hm40:m<2199023255552:=Yo;rw [hkm];clear hkm hlt;obtain ⟨x,hx⟩:∃ x,x=atD xs m:=⟨_,rfl⟩;obtain ⟨y,hy⟩:∃ y,y=atD ys m:=⟨_,rfl⟩;have HPX:=Lib.hid (HP1.out m);have HPY:=Lib.hid (HP2.out m);rw [<- hx] at HPX;rw [<- hy] at HPY
    rcases Nat.lt_trichotomy x y with h | h | h
    · have hv:=FW BN HX.p0 HX.q1 (k:=m) (fun j hj=>hd.out j hj) Yo;have hfin:Hid (Bk (val TB xs) (val TB ys)=-1):=by show _=_;simp [Bk,hv]
      have h':(x:Int)<(y:Int):=Yo;clear hv h hx hy;go_wp2_with fail;refine HPX.out.mono ?_;rintro e w' ⟨rfl,rfl⟩;go_wp2_with fail;refine HPY.out.mono ?_;rintro e w' ⟨rfl,rfl⟩;go_wp2_with fail;go_ret;exact ⟨by rw [hfin.out];rfl,rfl⟩
    · have hd':Hid (∀ j,m<=j->atD xs j=atD ys j):=fun j hj=>by
       rcases Nat.eq_or_lt_of_le hj with rfl | h'
       · omega
       · exact hd.out j h'
      have h1:¬ (x:Int)<(y:Int):=Yo;have h2:¬ (y:Int)<(x:Int):=Yo;clear h hx hy;go_wp2_with fail;refine HPX.out.mono ?_;rintro e w' ⟨rfl,rfl⟩;go_wp2_with fail;refine HPY.out.mono ?_;rintro e w' ⟨rfl,rfl⟩;go_wp2_with fail;go_round
      case rel=>exact ⟨m,rfl,Yo,hd'⟩
      case measure=>simp [intOf]
    · have hv:=FW BN HX.q1 HX.p0 (k:=m) (fun j hj=>(hd.out j hj).symm) Yo;have hfin:Hid (Bk (val TB xs) (val TB ys)=1):=by show _=_;simp [Bk,hv];omega
      have h1:¬ (x:Int)<(y:Int):=Yo;have h':(y:Int)<(x:Int):=Yo;clear hv h hx hy;go_wp2_with fail;refine HPX.out.mono ?_;rintro e w' ⟨rfl,rfl⟩;go_wp2_with fail;refine HPY.out.mono ?_;rintro e w' ⟨rfl,rfl⟩;go_wp2_with fail;go_ret;exact ⟨by rw [hfin.out];rfl,rfl⟩
theorem Gr {w:World} {L1 L2 m n:Nat} {a b:Value} (ha:Nm w L1 a m) (hb:Nm w L2 b n) (h1:L1<=1099511627776) (h2:L2<=1099511627776):Calls Tryz.prog 172 #[a,b] w fun e w'=>e=.returned (.int .i64 (Bk m n))/\w=w':=by
 obtain ⟨xs,⟨A,c,rfl,a1,a2,a3,a4⟩,a5,rfl⟩:=ha;obtain ⟨ys,⟨B,d,rfl,b1,b2,b3,b4⟩,b5,rfl⟩:=hb;exact DC A B c d xs ys w a1 b1 Yo Yo
end I
end
section
namespace I
open Go Go.RowKit Go.Proofs Pl
def I5 (B0:Nat) (w wr:World) (xs ys:List Nat) (k c:Nat) (v:Value):Prop:=
 ∃ zs:List Nat,Ow wr B0 v zs/\Below B0 w wr/\B0<=wr.heap.size/\zs.length=k/\val TB zs+TB ^ k*c=vt TB xs k+vt TB ys k/\c<=1/\(xs.length<k->ys.length<k->c=0)/\k<=xs.length+ys.length+1
theorem PD {xs ys:List Nat} {k c:Nat} (hx:All TB xs) (hy:All TB ys) (hc:c<=1):
 ∃ x y s n d q:Nat,x=atD xs k/\y=atD ys k/\n=x+y+c/\d=n % TB/\q=n / TB/\(x<10000/\y<10000)/\((x:Int)+(y:Int)=(s:Int)/\(s:Int)+(c:Int)=(n:Int)/\(n:Int) % 10000=(d:Int)/\(n:Int) / 10000=(q:Int))/\s<20000/\n<20001/\d<TB/\q<=1:=by
 have h1:=AW hx k;have h2:=AW hy k;rw [BD] at h1 h2;refine ⟨_,_,_,_,_,_,rfl,rfl,rfl,rfl,rfl,⟨h1,h2⟩,⟨rfl,rfl,?_,?_⟩,?_,?_,UB _ BN,?_⟩
 · rw [BD];omega
 · rw [BD];omega
 · omega
 · omega
 · rw [BD];omega
theorem I5.next {B0:Nat} {w w5:World} {xs ys:List Nat} {k c:Nat} {v5:Value} {n x y d q:Nat} {zs:List Nat} (h:val TB zs+TB ^ k*c=vt TB xs k+vt TB ys k) (hl:zs.length=k) (hx:All TB xs) (hy:All TB ys) (ex:x=atD xs k) (ey:y=atD ys k) (en:n=x+y+c) (ed:d=n % TB) (eq:q=n / TB) (hq:q<=1) (hc:c<=1)
 (hgo:k<xs.length∨k<ys.length∨0<c) (h0:xs.length<k->ys.length<k->c=0) (hk:k<=xs.length+ys.length+1) (h1:Ow w5 B0 v5 (zs++[d])) (h2:Below B0 w w5) (h3:B0<=w5.heap.size):I5 B0 w w5 xs ys (k+1) q v5:=by
 subst ex;subst ey;subst en;subst ed;subst eq;refine ⟨_,h1,h2,h3,by rw [TM,Ui,hl],Jx hl h,hq,fun a b=>?_,Yo⟩;rw [Ck (xs:=xs) (by omega),Ck (xs:=ys) (by omega)];rw [Vi];rw [BD];omega
theorem DG (A B:Option Addr) (c0 d0:Nat) (xs ys:List Nat) (w:World) (hx:Rd w A xs) (hy:Rd w B ys) (hlx:xs.length<=274877906944) (hly:ys.length<=274877906944):
 Calls Tryz.prog 189 #[.slice A xs.length c0,.slice B ys.length d0] w fun e w'=>∃ v,e=.returned v/\Rs w w' v (val TB xs+val TB ys):=by
 have hp1:=fun (i:Nat) (W:World) (h:Rd W A xs)=>CW A c0 xs i W h (by unfold maxLen;omega);have hp2:=fun (i:Nat) (W:World) (h:Rd W B ys)=>CW B d0 ys i W h (by unfold maxLen;omega);obtain ⟨la,hla⟩:∃ la,la=xs.length:=⟨_,rfl⟩;obtain ⟨lb,hlb⟩:∃ lb,lb=ys.length:=⟨_,rfl⟩;rw [<- hla] at hp1 hlx ⊢;rw [<- hlb] at hp2 hly ⊢;have HX:=Yh2 hx hy;have HL:=Yh2 hla hlb;have HP1:=Lib.hid hp1;have HP2:=Lib.hid hp2;clear hx hy hla hlb hp1 hp2;go_enter Tryz.func189,Tryz.ntmps189;go_wp2_with fail;go_loopw [5,6,7] (fun v cc i wr=>∃ k c:Nat,i=.int .i64 (k:Int)/\cc=.int .i64 (c:Int)/\c<=1/\k<=la+lb+1/\Hid (I5 w.heap.size w wr xs ys k c v)) (fun _ _ i _=>la+lb+2 - (intOf i).toNat)
 case atStart=>exact ⟨0,0,rfl,rfl,Yo,Yo,[],BT w 0 0 Yo Yd,Ya _ _,(Ya w _).size,rfl,by simp [val,vt],Yo,fun _ _=>rfl,Yo⟩
 case round=>
  obtain ⟨k,c,rfl,rfl,hc,hk,hS⟩:=hrel;by_cases hgo:k<la∨k<lb∨0<c
  · obtain ⟨zs,hO,hb,hB,hzl,hv,hc1,hc0,hkk⟩:=hS.out;obtain ⟨x,y,s,n,d,q,ex,ey,en,ed,eq,⟨x1,y1⟩,⟨i1,i2,i3,i4⟩,s1,n1,d1,q1⟩:=PD (k:=k) HX.p0.1 HX.p1 hc;have K:=P6 hO hb hB hzl hv hc0 ex ey en ed eq d1 (show zs.length<=1099511627776 by omega);have HPX:=Lib.hid (HP1.out k);have HPY:=Lib.hid (HP2.out k);rw [<- ex] at HPX;rw [<- ey] at HPY;have HR:=Yh2 (HX.p0.keep hb) (HX.q1.keep hb);have HG:=Lib.hid hgo;have hways:(k:Int)<(la:Int)∨(¬ (k:Int)<(la:Int)/\(k:Int)<(lb:Int))∨(¬ (k:Int)<(la:Int)/\¬ (k:Int)<(lb:Int)/\(0:Int)<(c:Int)):=Yo;clear hO hb hB hzl hv hc1 hc0 hkk ex ey en ed eq d1 hS hgo
    rcases hways with g1 | ⟨g1,g2⟩ | ⟨g1,g2,g3⟩
    all_goals
     go_wp2_with fail;refine (HPX.out _ HR.p0).mono ?_;rintro e w' ⟨rfl,rfl⟩;go_wp2_with fail;refine (HPY.out _ HR.q1).mono ?_;rintro e w' ⟨rfl,rfl⟩;go_wp2_with (at_builtin;refine Fa rfl _ _ rfl rfl rfl K.p0 K.p1 K.p2 K.p11 K.q12 ?_;intro v5 w5 k1 k2 k3);have J:=Lib.hid (I5.next K.p4 K.p3 HX.p0.1 HX.p1 K.p6 K.p7 K.p8 K.p9 K.p10 q1 hc (by rw [<- HL.p0,<- HL.q1];exact HG.out) K.p5 (by rw [<- HL.p0,<- HL.q1];exact hk) k1 k2 k3);clear k1 k2 k3;go_wp2_with fail;go_roundw
     case rel=>
      refine ⟨k+1,q,by go_num,rfl,q1,?_,J.out⟩;obtain ⟨_,_,_,_,_,_,_,_,h9⟩:=J.out;rw [HL.p0,HL.q1];exact h9
     case measure=>simp [intOf];omega
  · obtain ⟨zs,hO,hb,hB,hzl,hv,hc1,hc0,hkk⟩:=hS.out;have hc':c=0:=Yo;subst hc';have g1:¬ (k:Int)<(la:Int):=Yo;have g2:¬ (k:Int)<(lb:Int):=Yo;rw [UQ,UE,BV _ _ (by have:=HL.p0;omega),BV _ _ (by have:=HL.q1;omega)] at hv;have hnm:Nm wr zs.length _ (val TB xs+val TB ys):=⟨zs,hO.nl,TL _,hv⟩;have htr:=Cu hnm Yo;have HTR:=Lib.hid htr;have HB:=Lib.hid hb;clear hO hb hB hzl hv hc1 hc0 hkk hS hgo htr hnm hc;go_wp2_with fail;refine HTR.out.mono ?_;rintro e w6 ⟨v6,rfl,h6⟩;have H6:=Lib.hid h6;clear h6;go_wp2_with fail;go_ret;exact ⟨_,rfl,H6.p0.mono HB.out.size,Yb HB.out H6.q1⟩
theorem G7 {w:World} {L1 L2 m n:Nat} {a b:Value} (ha:Nm w L1 a m) (hb:Nm w L2 b n) (h1:L1<=274877906944) (h2:L2<=274877906944):Calls Tryz.prog 189 #[a,b] w fun e w'=>∃ v,e=.returned v/\Rs w w' v (m+n):=by
 obtain ⟨xs,⟨A,c,rfl,a1,a2,a3,a4⟩,a5,rfl⟩:=ha;obtain ⟨ys,⟨B,d,rfl,b1,b2,b3,b4⟩,b5,rfl⟩:=hb;exact DG A B c d xs ys w a1 b1 Yo Yo
end I
end
section
namespace I
open Go Go.RowKit Go.Proofs Pl
def G5 (B0:Nat) (w wr:World) (xs ys:List Nat) (k c:Nat) (v:Value):Prop:=
 ∃ zs:List Nat,Ow wr B0 v zs/\Below B0 w wr/\B0<=wr.heap.size/\zs.length=k/\val TB zs+vt TB ys k=vt TB xs k+TB ^ k*c/\c<=1
theorem PS {xs ys:List Nat} {k c:Nat} (hx:All TB xs) (hy:All TB ys) (hc:c<=1):
 ∃ x y d:Nat,∃ t:Int,x=atD xs k/\y=atD ys k/\d=(x+TB - y - c) % TB/\(x<10000/\y<10000)/\((x:Int) - (y:Int) - (c:Int)=t)/\-10001<=t/\t<10000/\d<TB/\((x<y+c/\t<0/\t+10000=(d:Int))∨(¬ x<y+c/\¬ t<0/\t=(d:Int))):=by
 have h1:=AW hx k;have h2:=AW hy k;rw [BD] at h1 h2;refine ⟨_,_,_,_,rfl,rfl,rfl,⟨h1,h2⟩,rfl,Yo,Yo,UB _ BN,?_⟩;rw [BD];by_cases h:atD xs k<atD ys k+c
 · exact .inl ⟨h,Yo,Yo⟩
 · exact .inr ⟨h,Yo,Yo⟩
theorem G5.next {B0:Nat} {w w5:World} {xs ys:List Nat} {k c q:Nat} {v5:Value} {x y d:Nat} {zs:List Nat} (h:val TB zs+vt TB ys k=vt TB xs k+TB ^ k*c) (hl:zs.length=k) (hx:All TB xs) (hy:All TB ys) (ex:x=atD xs k) (ey:y=atD ys k) (ed:d=(x+TB - y - c) % TB) (hq:q=if x<y+c then 1 else 0) (hc:c<=1)
 (h1:Ow w5 B0 v5 (zs++[d])) (h2:Below B0 w w5) (h3:B0<=w5.heap.size):G5 B0 w w5 xs ys (k+1) q v5:=by
 subst ex;subst ey;subst ed;refine ⟨_,h1,h2,h3,by rw [TM,Ui,hl],?_,by rw [hq];split<;>omega⟩;rw [hq];exact JD BN (AW hx k) (AW hy k) hc hl h
theorem IS (A B:Option Addr) (c0 d0:Nat) (xs ys:List Nat) (w:World) (hx:Rd w A xs) (hy:Rd w B ys) (hlx:xs.length<=274877906944) (hll:ys.length<=xs.length) (hle:val TB ys<=val TB xs):
 Calls Tryz.prog 208 #[.slice A xs.length c0,.slice B ys.length d0] w fun e w'=>∃ v,e=.returned v/\Rs w w' v (val TB xs - val TB ys):=by
 have hp2:=fun (i:Nat) (W:World) (h:Rd W B ys)=>LJ (CW B d0 ys i W h (by unfold maxLen;omega));obtain ⟨la,hla⟩:∃ la,la=xs.length:=⟨_,rfl⟩;obtain ⟨lb,hlb⟩:∃ lb,lb=ys.length:=⟨_,rfl⟩;rw [<- hla] at hlx ⊢;rw [<- hlb] at hp2 ⊢;have HX:=Yh2 hx hy;have HL:=Yh3 hla hll hle;have HP2:=Lib.hid hp2;clear hx hy hla hlb hp2 hll hle;go_enter Tryz.func208,Tryz.ntmps208;go_wp2_with fail;go_loopw [5,6,7] (fun v cc i wr=>∃ k c:Nat,i=.int .i64 (k:Int)/\cc=.int .i64 (c:Int)/\c<=1/\k<=la/\Hid (G5 w.heap.size w wr xs ys k c v)) (fun _ _ i _=>la - (intOf i).toNat)
 case atStart=>exact ⟨0,0,rfl,rfl,Yo,Yo,[],BT w 0 0 Yo Yd,Ya _ _,(Ya w _).size,rfl,by simp [val,vt],Yo⟩
 case round=>
  obtain ⟨k,c,rfl,rfl,hc,hk,hS⟩:=hrel;obtain ⟨zs,hO,hb,hB,hzl,hv,hc1⟩:=hS.out;by_cases hgo:k<la
  · obtain ⟨x,y,d,t,ex,ey,ed,⟨x1,y1⟩,it,t1,t2,d1,hw⟩:=PS (k:=k) HX.p0.1 HX.p1 hc;obtain ⟨b,o,rfl,hcell⟩:=(HX.p0.keep hb).at_ (j:=k) (by rw [<- HL.p0];exact hgo);have hm:=hcell k _ (AD (by rw [<- HL.p0];exact hgo));rw [<- ex] at hm;have i0:(0:Int)<=(k:Int):=Yo;have i1:(k:Int)<(la:Int):=Yo;have K:=F9 hO hb hB hzl hv ex ey ed d1 (show zs.length<=1099511627776 by omega);have HPY:=Lib.hid (HP2.out k);rw [<- ey] at HPY;have HR:=Lib.hid (HX.q1.keep hb);clear hO hb hB hzl hv hc1 ex ey ed d1 hS hcell hgo
    rcases hw with ⟨g1,g2,g3⟩ | ⟨g1,g2,g3⟩
    · have G1:=Lib.hid g1;clear g1;go_wp2_with fail;go_quiet ((go_at_call 195;exact Calls.quiet_of_same (HPY.out _ HR.out)));go_wp2_with (at_builtin;refine Fa rfl _ _ rfl rfl rfl (K.p0.drewN _) (BC K.p1 _) K.p2 K.p8 K.q9 ?_;intro v5 w5 k1 k2 k3);have J:=Lib.hid (G5.next (q:=1) K.p4 K.p3 HX.p0.1 HX.p1 K.p5 K.p6 K.p7 (by rw [if_pos G1.out]) hc k1 k2 k3);clear k1 k2 k3;go_wp2_with fail;go_roundw
      case rel=>exact ⟨k+1,1,by go_num,rfl,Yo,Yo,J.out⟩
      case measure=>simp [intOf];omega
    · have G1:=Lib.hid g1;subst g3;clear g1;go_wp2_with fail;go_quiet ((go_at_call 195;exact Calls.quiet_of_same (HPY.out _ HR.out)));go_wp2_with (at_builtin;refine Fa rfl _ _ rfl rfl rfl (K.p0.drewN _) (BC K.p1 _) K.p2 K.p8 K.q9 ?_;intro v5 w5 k1 k2 k3);have J:=Lib.hid (G5.next (q:=0) K.p4 K.p3 HX.p0.1 HX.p1 K.p5 K.p6 K.p7 (by rw [if_neg G1.out]) hc k1 k2 k3);clear k1 k2 k3;go_wp2_with fail;go_roundw
      case rel=>exact ⟨k+1,0,by go_num,rfl,Yo,Yo,J.out⟩
      case measure=>simp [intOf];omega
  · obtain rfl:k=la:=by omega
    rw [BV _ _ (by have:=HL.p0;have:=HL.p1;omega),BV _ _ (by have:=HL.p0;have:=HL.p1;omega)] at hv;have hz:=Bc hO.1
    have hval:val TB zs=val TB xs - val TB ys:=by
     have h3:=HL.q2;rw [hzl] at hz;have h4:c=0∨c=1:=Yo
     rcases h4 with rfl | rfl<;>omega
    have hnm:Nm wr zs.length _ (val TB xs - val TB ys):=⟨zs,hO.nl,TL _,hval⟩;have htr:=Cu hnm Yo;have HTR:=Lib.hid htr;have HB:=Lib.hid hb;clear hO hb hB hzl hv hc1 hS hgo htr hnm hz hval;go_wp2_with fail;refine HTR.out.mono ?_;rintro e w6 ⟨v6,rfl,h6⟩;have H6:=Lib.hid h6;clear h6;go_wp2_with fail;go_ret;exact ⟨_,rfl,H6.p0.mono HB.out.size,Yb HB.out H6.q1⟩
end I
end
section
namespace I
open Go Go.RowKit Go.Proofs Pl
theorem OS {o ys:List Nat} {x j k c:Nat} (hx:x<TB) (hy:All TB ys) (ho:All TB o) (hc:c<TB):
 ∃ y z p s n d q:Nat,y=atD ys k/\z=atD o (j+k)/\n=x*y+z+c/\d=n % TB/\q=n / TB/\((x:Int)*(y:Int)=(p:Int)/\(z:Int)+(p:Int)=(s:Int)/\(s:Int)+(c:Int)=(n:Int)/\(n:Int) % 10000=(d:Int)/\(n:Int) / 10000=(q:Int))/\(p<100000000/\s<100010000/\n<100020000)/\d<TB/\q<TB:=by
 have h2:=AW hy k;have h3:=AW ho (j+k);rw [BD] at hx h2 h3 hc;have h4:x*atD ys k<=9999*9999:=UN Yo Yo;refine ⟨_,_,x*atD ys k,atD o (j+k)+x*atD ys k,_,_,_,rfl,rfl,rfl,rfl,rfl,⟨by rw [Int.natCast_mul],Yo,Yo,?_,?_⟩,⟨Yo,Yo,Yo⟩,UB _ BN,?_⟩
 · rw [BD];omega
 · rw [BD];omega
 · rw [BD];omega
theorem PJ {xs ys o:List Nat} {j k c:Nat} (hx:All TB xs) (hy:All TB ys) (hj:j<xs.length) (h:val TB o+TB ^ (j+k)*c=vt TB xs j*val TB ys+TB ^ j*(atD xs j*vt TB ys k)) (hk:ys.length<k):c=0:=by
 rcases TQ c with h0 | h0
 · exact h0
 exfalso;rw [BV (xs:=ys) TB (by omega)] at h;have e:vt TB xs j*val TB ys+TB ^ j*(atD xs j*val TB ys)=vt TB xs (j+1)*val TB ys:=by rw [vt,Uq,Uf]
 rw [e,N6] at h;have h1:=Ea hx (m:=j+1) Yo;have h2:=Bc hy;have h3:val TB (xs.take (j+1))*val TB ys<TB ^ (j+1+ys.length):=by rw [UF];exact UG h1 h2
 have h4:TB ^ (j+1+ys.length)<=TB ^ (j+k):=Ua BN Yo;have h5:TB ^ (j+k)*1<=TB ^ (j+k)*c:=TY _ h0;omega
theorem OQ {xs ys o:List Nat} {j k:Nat} (h:val TB o+TB ^ (j+k)*0=vt TB xs j*val TB ys+TB ^ j*(atD xs j*vt TB ys k)) (hk:ys.length<=k):val TB o=vt TB xs (j+1)*val TB ys:=by
 rw [BV (xs:=ys) TB hk] at h;rw [vt,Uq,Uf,<- h,UQ,UE]
theorem IU (A B:Option Addr) (c0 d0:Nat) (xs ys:List Nat) (w:World) (hx:Rd w A xs) (hy:Rd w B ys) (hlx:xs.length<=137438953472) (hly:ys.length<=137438953472):
 Calls Tryz.prog 117 #[.slice A xs.length c0,.slice B ys.length d0] w fun e w'=>∃ v,e=.returned v/\Rs w w' v (val TB xs*val TB ys):=by
 have hp2:=fun (i:Nat) (W:World) (h:Rd W B ys)=>LJ (CW B d0 ys i W h (by unfold maxLen;omega));obtain ⟨la,hla⟩:∃ la,la=xs.length:=⟨_,rfl⟩;obtain ⟨lb,hlb⟩:∃ lb,lb=ys.length:=⟨_,rfl⟩;obtain ⟨N,hN⟩:∃ N,N=la+lb+1:=⟨_,rfl⟩;obtain ⟨M,hM⟩:∃ M,M=la+lb:=⟨_,rfl⟩;rw [<- hla] at hlx ⊢;rw [<- hlb] at hp2 hly ⊢;have hM1:(la:Int)+(lb:Int)=(M:Int):=Yo;have hM2:(M:Int)+1=(N:Int):=Yo;have hN3:N<=274877906945:=Yo;have hmk:=fun W=>C1 N N (TL _) Yo W;have hmo:=BT w N N (TL _) (by unfold maxLen;omega);have HX:=Yh2 hx hy;have HL:=Yh4 hla hlb hN hM;have HP2:=Lib.hid hp2;have HMO:=Lib.hid hmo;clear hx hy hla hlb hp2 hN hmo hM;go_enter Tryz.func117,Tryz.ntmps117;go_wp2_with fail;clear hmk;go_loopw [6] (fun i wr=>∃ (j:Nat) (o:List Nat),i=.int .i64 (j:Int)/\j<=la/\Hid (Ow wr w.heap.size (.slice (some ⟨w.heap.size,0,none⟩) N N) o/\Yg w wr/\o.length=N/\val TB o=vt TB xs j*val TB ys)) (fun i _=>la - (intOf i).toNat)
 case atStart=>exact ⟨0,List.replicate N 0,rfl,Yo,HMO.out,Ya _ _,Uk,by rw [Ch,vt,Wk]⟩
 case round=>
  obtain ⟨j,o0,rfl,hj,hS⟩:=hrel;by_cases hgo:j<la
  · obtain ⟨wo,hwo⟩:∃ wo:World,wo=wr:=⟨_,rfl⟩;rw [<- hwo] at hS ⊢;clear hwo;obtain ⟨b,oo,rfl,hcell⟩:=HX.p0.at_ (j:=j) (by rw [<- HL.p0];exact hgo);have hmx:=hcell j _ (AD (by rw [<- HL.p0];exact hgo));obtain ⟨x,hx⟩:∃ x,x=atD xs j:=⟨_,rfl⟩;have hxT:x<TB:=by rw [hx];exact AW HX.p0.1 j
    rw [<- hx] at hmx;have HXX:=Yh3 hx hxT hmx;clear hcell hmx hx hxT;go_wp2_with fail;go_loopw [7,8] (fun cc kk wr=>∃ (c k:Nat) (o:List Nat),cc=.int .i64 (c:Int)/\kk=.int .i64 (k:Int)/\c<10000/\k<=lb+1/\(lb<k->c=0)/\Hid (Ow wr w.heap.size (.slice (some ⟨w.heap.size,0,none⟩) N N) o/\Yg w wr/\o.length=N/\val TB o+TB ^ (j+k)*c=vt TB xs j*val TB ys+TB ^ j*(atD xs j*vt TB ys k))) (fun _ kk _=>lb+2 - (intOf kk).toNat)
    case atStart=>exact ⟨0,0,o0,rfl,rfl,Yo,Yo,Yo,hS.p0,hS.p1,hS.p2,by rw [hS.q3];simp [vt]⟩
    case round=>
     obtain ⟨c,k,o,rfl,rfl,hc,hk,hck,hT⟩:=hrel;by_cases hg2:k<lb∨0<c
     · have hklb:k<=lb:=by omega
       obtain ⟨y,z,p,s,n,d,q,ey,ez,en,ed,eq,⟨i1,i2,i3,i4,i5⟩,⟨b1,b2,b3⟩,d1,q1⟩:=OS (x:=x) (j:=j) (k:=k) (c:=c) HXX.p1 HX.p1 hT.p0.1 (by rw [BD];exact hc);obtain ⟨jk,hjk⟩:∃ jk,jk=j+k:=⟨_,rfl⟩;have hjkI:(j:Int)+(k:Int)=(jk:Int):=Yo;have hjkN:jk<N:=by have:=HL.p2;omega
       have hmx:wr.cell? ⟨b,oo+j,none⟩=some (.int .i64 (x:Int)):=(hT.p1.cell (p:=⟨b,oo+j,none⟩) (CL HXX.q2)).trans HXX.q2;obtain ⟨g',hg',-,-,-,-,-,hcs,hfr⟩:=hT.p0.at_ (j:=jk) (by rw [hT.p2];exact hjkN);injection hg' with hg'
       injection hg' with hg'
       subst hg';have hmz:=hcs jk _ (AD (by rw [hT.p2];exact hjkN));have hfz:=hfr jk;rw [<- hjk] at ez;rw [<- ez] at hmz;have hst:=JQ (B:=TB) (o:=o) (o0:=o0) (ys:=ys) (x:=atD xs j) (i:=j) (k:=k) (c:=c) (by rw [hT.p2,<- hjk];exact hjkN) (by rw [hS.q3];exact hT.q3);rw [<- hjk,<- ey,<- ez,<- HXX.p0,<- en,<- ed,<- eq,hS.q3,HXX.p0] at hst;have hO2:=fun nq:Nat=>(hT.p0.drewN nq).set_ hT.p2.symm (j:=jk) (x:=d) d1;have hb2:∀ nq:Nat,Yg w ((wr.drewN nq).setCell ⟨w.heap.size,jk,none⟩ (.int .i64 (d:Int))):=fun nq=>(BC hT.p1 nq).setCell (p:=⟨w.heap.size,jk,none⟩) (TL _) _;have HPY:=Lib.hid (HP2.out k);rw [<- ey] at HPY;have HR:=Lib.hid (HX.q1.keep hT.p1);have q2:q<10000:=by rw [BD] at q1;exact q1
       have hq0:lb<k+1->q=0:=fun h=>PJ HX.p0.1 HX.p1 (by rw [<- HL.p0];exact hgo) hst (by rw [<- HL.p1];exact h);have K:=Yh5 hO2 hb2 (show (o.set jk d).length=N by rw [Uh];exact hT.p2) hst hq0;have hways:(k:Int)<(lb:Int)∨(¬ (k:Int)<(lb:Int)/\(0:Int)<(c:Int)):=Yo;have j0:(0:Int)<=(j:Int):=Yo;have j1:(j:Int)<(la:Int):=Yo;have j2:(0:Int)<=(jk:Int):=Yo;have j3:(jk:Int)<(N:Int):=Yo;have k0:(k:Int)<=137438953472:=Yo;clear hg2 hck hT ey ez en ed eq d1 q1 hjk hcs hfr hst hO2 hb2 hS hq0
       rcases hways with g1 | ⟨g1,g2⟩
       all_goals
        go_wp2_with fail;go_quiet ((go_at_call 195;exact Calls.quiet_of_same (HPY.out _ HR.out)));go_wp2_with fail;go_roundw
        case rel=>exact ⟨q,k+1,o.set jk d,rfl,by go_num,q2,Yo,K.q4,K.p0 _,K.p1 _,K.p2,K.p3⟩
        case measure=>simp [intOf];omega
     · have hc0:c=0:=by omega
       subst hc0;have g1:¬ (k:Int)<(lb:Int):=Yo;have hd:=OQ hT.q3 (by rw [<- HL.p1];omega);have K:=Yh4 hT.p0 hT.p1 hT.p2 hd;clear hd hT hg2 hc hck hS;go_wp2_with fail;go_roundw
       case rel=>exact ⟨j+1,o,by go_num,Yo,K.out⟩
       case measure=>simp [intOf];omega
  · obtain rfl:j=la:=by omega
    have hnm:Nm wr o0.length _ (val TB xs*val TB ys):=⟨o0,hS.p0.nl,TL _,by rw [hS.q3,BV TB xs (by have:=HL.p0;omega)]⟩;have htr:=Cu hnm (by rw [hS.p2];omega);have HTR:=Lib.hid htr;have HB:=Lib.hid hS.p1;clear hS hgo htr hnm;go_wp2_with fail;refine HTR.out.mono ?_;rintro e w6 ⟨v6,rfl,h6⟩;have H6:=Lib.hid h6;clear h6;go_wp2_with fail;go_ret;exact ⟨_,rfl,H6.p0.mono HB.out.size,Yb HB.out H6.q1⟩
theorem Dj {w:World} {L1 L2 m n:Nat} {a b:Value} (ha:Nm w L1 a m) (hb:Nm w L2 b n) (h1:L1<=137438953472) (h2:L2<=137438953472):Calls Tryz.prog 117 #[a,b] w fun e w'=>∃ v,e=.returned v/\Rs w w' v (m*n):=by
 obtain ⟨xs,⟨A,c,rfl,a1,a2,a3,a4⟩,a5,rfl⟩:=ha;obtain ⟨ys,⟨B,d,rfl,b1,b2,b3,b4⟩,b5,rfl⟩:=hb;exact IU A B c d xs ys w a1 b1 Yo Yo
end I
end
end Go.Proofs.YtlblnmmfphiobaaGreat
