import Derived.Test.YtlblnmmfphiobaaGreatPNA6
import Derived.Handy
import Derived.RangeFuncBox
set_option maxRecDepth 100000
set_option maxHeartbeats 8000000
set_option linter.unusedVariables false
set_option linter.unusedSimpArgs false
namespace Go.Proofs.YtlblnmmfphiobaaGreat
section
namespace I
open Go Go.RowKit Go.Proofs Pl
theorem FD (w:World) (x b:Nat) (hb:b=w.heap.size) (hx:x<TB):Ow (w.alloc (.cells #[.int .i64 (x:Int)] 3)) w.heap.size (.slice (some ⟨b,0,none⟩) 1 1) [x]:=by
 subst hb;refine ⟨All.cons hx All.nil,by simp [wis],.inr ⟨w.heap.size,1,#[.int .i64 (x:Int)],by simp,TL _,heap_alloc_new _ _,by simp,Yd,by simp,by simp [wis]⟩⟩
theorem KK (w:World) (x b:Nat) (hb:b=w.heap.size) (hx:x<TB):Nm (w.alloc (.cells #[.int .i64 (x:Int)] 3)) 1 (.slice (some ⟨b,0,none⟩) 1 1) x:=⟨_,(FD w x b hb hx).nl,by simp,by simp [val]⟩
theorem Ow.far {w w':World} {B g:Nat} {v:Value} {xs:List Nat} (h:Ow w B v xs) (hg:w.grownBy w' (some g)) (hlt:g<B):Ow w' B v xs:=
 ⟨h.1,F7 h.2 hg (fun k hk=>by injection hk with hk;omega)⟩
theorem Mk {wr:World} {ops:Array Oper} {rest:List Oper} {o:Oper} {a:Act} {Q:Exit->Act->World->Prop} {v:Value} {ys:List Nat} {x b:Nat} (hgd:o.guard=none) (s t:Operand)
 (ho:o.op=.call { callee:=.builtin .append,args:=#[s,t],argTypes:=#[79,79] }) (hs:a.eval s=.slice (some ⟨b,0,none⟩) 1 1) (hb:b=wr.heap.size) (hx:a.eval t=v) (hv:Nl wr v ys)
 (hy:x<TB) (hl:ys.length<=1099511627776)
 (h:∀ v' w',Ow w' wr.heap.size v' (x::ys)->Yg wr w'->wpList Tryz.prog ops Q rest (a.put o.dst v') w'):wpList Tryz.prog ops Q (o::rest) a (wr.alloc (.cells #[.int .i64 (x:Int)] 3)):=by
 obtain ⟨i0,hi,hz0,hz1,hz2⟩:=info_parts Bf;have hO:=FD wr x b hb hy;have hv':=hv.keep (Ya wr (.cells #[.int .i64 (x:Int)] 3));obtain ⟨A,c,rfl,h1,h2,h3,h4⟩:=hv'
 cases A with
 | none=>
  have hc:=h4 rfl
  have hy0:ys=[]:=by
   rcases h1.2 with e | ⟨b,o,e,_⟩
   · exact e
   · cases e
  subst hy0;subst hc;exact wpList_append_own_none hgd s t 79 ho wr.heap.size 3 i0 1 Tryz.underlying79 hi _ 1 (wis [x]) hs hO.2 hx (h _ _ hO (Ya _ _))
 | some ad=>
  refine wpList_append_own _ hgd s t 79 ho wr.heap.size 3 i0 (.int .i64 0) 1 8 Tryz.underlying79 hi hz0 hz1 hz2 rfl Yd _ 1 (wis [x]) hs hO.2 ad ys.length c (wis ys) hx (by rw [AU,Vk]) (EO h1 ad rfl) (Eg ys) (by unfold maxLen;omega) Yo (Ya _ _).size ?_;intro v' w' hown hg _;refine h v' w' ⟨All.cons hy hv.all,?_⟩ ((Ya wr _).grown hg (Ya _ _).size (fun j hj=>Kx hO.2 j hj));rw [Da,VL] at hown;exact hown
theorem Oc {w:World} {a b:Value} {m n:Nat} (ha:Nl w a (dg TB m)) (hb:Nl w b (dg TB n)) (hl:(dg TB m).length<=274877906944) (h:n<=m):Calls Tryz.prog 208 #[a,b] w fun e w'=>∃ v,e=.returned v/\Rs w w' v (m - n):=by
 obtain ⟨A,c,rfl,a1,a2,a3,a4⟩:=ha;obtain ⟨B,d,rfl,b1,b2,b3,b4⟩:=hb;have:=IS A B c d (dg TB m) (dg TB n) w a1 b1 hl (Bi AH h) (by rw [AR AH,AR AH];exact h);rw [AR AH,AR AH] at this;exact this
def KZ (n:Nat) (xs:List Nat) (B0 g la:Nat) (w wr:World) (k:Nat) (rv:Value):Prop:=
 ∃ (R:Nat) (qs:List Nat),Ow wr B0 rv (dg TB R)/\Ow wr B0 (.slice (some ⟨g,0,none⟩) la la) qs/\qs.length=la/\Below B0 w wr/\val TB (xs.drop k)=val TB (qs.drop k)*n+R/\R<n/\g<wr.heap.size
theorem NK {low high:Nat} (h1:low+1<high) (h2:high<=TB):∃ sm mid:Nat,(low:Int)+(high:Int)=(sm:Int)/\(sm:Int) / 2=(mid:Int)/\sm<20001/\low<mid/\mid<high/\mid<TB:=
 ⟨low+high,(low+high) / 2,Yo,Yo,by rw [BD] at h2;omega,Yo,Yo,Yo⟩
theorem Mt {n R x low k la:Nat} {xs qs:List Nat} (hlow:low*n<=R*TB+x) (hhigh:R*TB+x<(low+1)*n) (hx:x=atD xs k) (hk:k<xs.length) (hq:k<qs.length) (h:val TB (xs.drop (k+1))=val TB (qs.drop (k+1))*n+R):
 val TB (xs.drop k)=val TB ((qs.set k low).drop k)*n+(R*TB+x - n*low)/\R*TB+x - n*low<n:=by
 have hn:0<n:=by
  rcases TQ n with h0 | h0
  · rw [h0] at hhigh;omega
  · exact h0
 rw [Uq] at hhigh
 have e1:(R*TB+x) / n=low:=by
  apply Nat.div_eq_of_lt_le
  · exact hlow
  · rw [Uq];exact hhigh
 have e2:=Li (W:=n) hk hq h;have e3:=Uu (R*TB+x) n;rw [<- hx,e1] at e2;rw [e1] at e3;rw [TX low n] at hlow hhigh;refine ⟨by rw [e2];omega,Yo⟩
end I
end
section
namespace I
open Go Go.RowKit Go.Proofs Pl
theorem Jr (W:World) (b:Nat) (hb:b=W.heap.size):Ow (W.alloc (.cells #[] 3)) W.heap.size (.slice (some ⟨b,0,none⟩) 0 0) []:=by
 subst hb;exact BT W 0 0 Yo Yd
theorem Dz (A:Option Addr) (c0:Nat) (xs:List Nat) (b:Value) (L n:Nat) (w:World) (hx:Rd w A xs) (hb:Nm w L b n) (h0:n≠0) (hlx:xs.length<=1073741824) (hL:L<=1073741824):
 Calls Tryz.prog 191 #[.slice A xs.length c0,b] w fun e w'=>∃ q r,e=.returned (.tuple #[q,r])/\Rs w w' q (val TB xs / n)/\Rs w w' r (val TB xs % n):=by
 obtain ⟨la,hla⟩:∃ la,la=xs.length:=⟨_,rfl⟩;rw [<- hla] at hlx ⊢;have hmk:=fun W=>C1 la la (TL _) Yo W;have hmo:=BT w la la (TL _) (by unfold maxLen;omega);have he:=Jr (w.alloc (.cells (wis (List.replicate la 0)).toArray 3)) (w.heap.size+1) (by simp)
 have hst:KZ n xs w.heap.size w.heap.size la w ((w.alloc (.cells (wis (List.replicate la 0)).toArray 3)).alloc (.cells #[] 3)) la (.slice (some ⟨w.heap.size+1,0,none⟩) 0 0):=
  ⟨0,List.replicate la 0,by rw [BP];exact he.mono (Ya _ _).size,hmo.keep (Ya _ _),Uk,Yb (Ya _ _) (Ya _ _),by rw [UI (by omega),UI (by simp)];simp [val],Yo,by simp;omega⟩
 have HST:=Lib.hid hst;have HX:=Lib.hid hx;have HB:=Lib.hid hb;have HN:=Yh3 hla h0 hb.lt;clear hx hb hla h0 hmo he hst;go_enter Tryz.func191,Tryz.ntmps191;go_wp2_with fail;clear hmk;go_loopw [7,8] (fun rv i wr=>∃ k:Nat,i=.int .i64 ((k:Int) - 1)/\k<=la/\Hid (KZ n xs w.heap.size w.heap.size la w wr k rv)) (fun _ i _=>(intOf i+1).toNat)
 case atStart=>exact ⟨la,rfl,TL _,HST.out⟩
 case round=>
  obtain ⟨k,rfl,hk,hS⟩:=hrel;obtain ⟨R,qs,hr,hq,hql,hbw,hv,hRn,hgw⟩:=hS.out
  cases k with
  | zero=>
   have hw0:(((0:Nat):Int) - 1)=-1:=Yo;rw [hw0];clear hw0;rw [VI,VI] at hv;obtain ⟨e1,e2⟩:=Ks (n:=0) hv hRn;have hnm:Nm wr qs.length _ (val TB xs / n):=⟨qs,hq.nl,TL _,e1⟩;have htr:=Cu hnm Yo;rw [e2] at hr;have HTR:=Lib.hid htr;have K:=Yh2 hr hbw;clear htr hr hbw hS hq hql hv hRn hgw hnm e1 e2;go_wp2_with fail;refine HTR.out.mono ?_;rintro e w6 ⟨v6,rfl,h6⟩;have H6:=Lib.hid h6;clear h6;go_wp2_with fail;go_ret2;exact ⟨_,_,rfl,⟨H6.p0.mono K.q1.size,Yb K.q1 H6.q1⟩,⟨K.p0.keep H6.q1,Yb K.q1 H6.q1⟩⟩
  | succ m=>
   have hkm:(((m+1:Nat):Int) - 1)=(m:Int):=Yo;rw [hkm];clear hkm;have hml:m<la:=Yo;obtain ⟨ab,ao,rfl,hcell⟩:=(HX.out.keep hbw).at_ (j:=m) (by rw [<- HN.p0];exact hml);have hmx:=hcell m _ (AD (by rw [<- HN.p0];exact hml));obtain ⟨x,hx⟩:∃ x,x=atD xs m:=⟨_,rfl⟩;have hxT:x<TB:=by rw [hx];exact AW HX.p0 m
   rw [<- hx] at hmx;have i0:(0:Int)<=(m:Int):=Yo;have i1:(m:Int)<(la:Int):=Yo;have hRL:(dg TB R).length<=L:=Au AH (Vg hRn HN.q2);have K:=F9 hr hq hql hbw hv hRn hgw hx hxT (show (dg TB R).length<=1099511627776 by omega);clear hr hq hql hbw hv hRn hgw hx hxT hS hcell;go_wp2_with (at_builtin;refine Mk rfl _ _ rfl rfl rfl rfl K.p0.nl K.p8 K.q9 ?_;intro v5 w5 k1 k2);obtain ⟨R1,hR1⟩:∃ R1,R1=R*TB+x:=⟨_,rfl⟩;have hnm:Nm w5 (x::dg TB R).length v5 R1:=⟨_,k1.nl,TL _,by rw [AY,AR AH,hR1,TX];omega⟩;have htr:=Cu hnm (by rw [U7];omega);have HTR:=Lib.hid htr;have J:=Yh2 k2 hR1;clear k1 k2 hR1 hnm htr;refine HTR.out.mono ?_;rintro e w6 ⟨v6,rfl,h6⟩;have hb6:Yg wr w6:=Yb J.p0 h6.2;have hlow0:0*n<=R1:=Yo
   have hhigh0:R1<TB*n:=by
    have h1:(R+1)*TB<=n*TB:=TW _ K.p5;rw [Uq,TX n TB] at h1;have h2:=K.p8;have h3:=J.q1;omega
   have hg5:w.heap.size<w5.heap.size:=TV K.p6 J.p0.size;have M:=Yh7 h6.1 (K.p1.keep hb6) (Yb K.p3 hb6) hlow0 hhigh0 hg5 h6.2.size;clear h6 hb6 hlow0 hhigh0 hg5 HTR hRL;go_wp2_with fail;go_loopw [9,10] (fun lo hi wr2=>∃ low high:Nat,lo=.int .i64 (low:Int)/\hi=.int .i64 (high:Int)/\low<high/\high<=10000/\Hid (Yg w6 wr2/\low*n<=R1/\R1<high*n)) (fun lo hi _=>(intOf hi).toNat - (intOf lo).toNat)
   case atStart=>exact ⟨0,10000,rfl,rfl,Yo,Yo,Below.refl _ _,M.p3,by have:=M.p4;rw [BD] at this;exact this⟩
   case round=>
    obtain ⟨low,high,rfl,rfl,hlh,hh,hT⟩:=hrel;by_cases hgo:low+1<high
    · obtain ⟨sm,mid,j1,j2,j3,j4,j5,j6⟩:=NK hgo (by rw [BD];exact hh);have hgt:(1:Int)<(high:Int) - (low:Int):=Yo;have hbw2:=Yb M.p2 hT.p0;have hlit:=KK wr mid wr.heap.size rfl j6;have hmul:=Dj ((HB.out.keep hbw2).keep (Ya wr _)) hlit Yo Yd;have HMU:=Lib.hid hmul;have T:=Yh5 hT.out hbw2 j4 j5 j6;clear hlit hmul hbw2 hT j4 j5 j6 hgo;go_wp2_with fail;refine HMU.out.mono ?_;rintro e w7 ⟨v7,rfl,h7⟩;have hb7:Yg wr w7:=Yb (Ya wr _) h7.2;have hb67:Yg w6 w7:=Yb T.p0.1 hb7
      have hc:=Gr (L1:=L+1) (L2:=1073741825) (h7.nm (L:=L+1) (by
       have h1:=HN.q2;have h2:=T.q4;have h3:n*mid<TB ^ L*TB:=UG h1 h2
       rw [UD];exact h3)) (show Nm w7 1073741825 v6 R1 from ⟨_,(M.p0.keep hb67).nl,by
        have h1:R1<TB ^ (L+1):=by
         have h2:=M.p4;have h3:TB*n<TB*TB ^ L:=Nat.mul_lt_mul_of_pos_left HN.q2 BN;rw [UD,TX];omega
        have:=Au AH h1;omega,AR AH _⟩) Yo Yo
      obtain ⟨sg,hsg⟩:∃ sg,sg=Bk (n*mid) R1:=⟨_,rfl⟩;rw [<- hsg] at hc;have HC:=Lib.hid hc
      have hw:(sg<=0/\mid*n<=R1)∨(¬ sg<=0/\R1<mid*n):=by
       rw [hsg,Bk,TX mid n]
       split
       · exact .inl ⟨Yo,Yo⟩
       · split
         · exact .inr ⟨Yo,Yo⟩
         · exact .inl ⟨Yo,Yo⟩
      have T7:=Yh5 hb67 T.p0.2.1 T.p0.2.2 T.p2 T.p3;clear h7 hb7 hb67 hc hsg HMU T;go_wp2_with fail;refine HC.out.mono ?_;rintro e w' ⟨rfl,rfl⟩
      rcases hw with ⟨g1,g2⟩ | ⟨g1,g2⟩
      · have G2:=Lib.hid g2;clear g2;go_wp2_with fail;go_roundw
        case rel=>exact ⟨mid,high,rfl,rfl,T7.q4,Yo,T7.p0,G2.out,T7.p2⟩
        case measure=>have:=T7.p3;have:=T7.q4;simp [intOf];omega
      · have G2:=Lib.hid g2;clear g2;go_wp2_with fail;go_roundw
        case rel=>exact ⟨low,mid,rfl,rfl,T7.p3,by have:=T7.q4;omega,T7.p0,T7.p1,G2.out⟩
        case measure=>have:=T7.p3;have:=T7.q4;simp [intOf];omega
    · have hgt:¬ (1:Int)<(high:Int) - (low:Int):=by omega
      obtain rfl:high=low+1:=by omega
      have hlT:low<TB:=by rw [BD];omega
      have hq2:=M.p1.keep hT.p0;obtain ⟨g',hg',-,-,hgs,-,-,hcs,hfr⟩:=hq2.at_ (j:=m) (by rw [K.p2];exact hml);injection hg' with hg'
      injection hg' with hg'
      subst hg';have hmq:=hcs m _ (AD (by rw [K.p2];exact hml));have hfq:=hfr m;have hbw2:=Yb M.p2 hT.p0;have hbs:Yg w (wr.setCell ⟨w.heap.size,m,none⟩ (.int .i64 (low:Int))):=hbw2.setCell (p:=⟨w.heap.size,m,none⟩) (TL _) _;have hgr:=Lib.grownBy_setCell wr w.heap.size m (.int .i64 (low:Int));have hr2:Ow (wr.setCell ⟨w.heap.size,m,none⟩ (.int .i64 (low:Int))) w5.heap.size v6 (dg TB R1):=(M.p0.keep hT.p0).far hgr M.p5;have hqs:=hq2.set_ K.p2.symm (j:=m) (x:=low) hlT;have T:=Yh7 hbs hr2 hqs hlT hT.p1 hT.q2 hgs;clear hq2 hcs hfr hbw2 hbs hgr hr2 hqs hlT hgs hT;go_wp2_with fail;obtain ⟨ws,hws⟩:∃ ws:World,ws=wr.setCell ⟨w.heap.size,m,none⟩ (.int .i64 (low:Int)):=⟨_,rfl⟩;have hwsz:wr.heap.size=ws.heap.size:=by rw [hws];simp [World.setCell]
      rw [<- hws] at T ⊢;have hlit:=KK ws low wr.heap.size hwsz T.p3;refine (Dj ((HB.out.keep T.p0).keep (Ya ws _)) hlit Yo Yd).mono ?_;rintro e w8 ⟨v8,rfl,h8⟩;have hb8:Yg ws w8:=Yb (Ya ws _) h8.2;have T8:=Yh4 (T.p1.keep hb8) (T.p2.keep hb8) (Yb T.p0 hb8) h8.nl;have hln:n*low<=R1:=by rw [TX];exact T.p4
      have hR1L:(dg TB R1).length<=274877906944:=by
       have h1:R1<TB ^ (L+1):=by
        have h2:=M.p4;have h3:TB*n<TB*TB ^ L:=Nat.mul_lt_mul_of_pos_left HN.q2 BN;rw [UD,TX];omega
       have:=Au AH h1;omega
      have hpl:=Mt (low:=low) (x:=x) (R:=R) (k:=m) (xs:=xs) (qs:=qs) (n:=n) (la:=la) (by rw [<- J.q1];exact T.p4) (by rw [<- J.q1];exact T.p5) K.p7 (by rw [<- HN.p0];exact hml) (by rw [K.p2];exact hml) K.p4;rw [<- J.q1] at hpl;have P:=Lib.hid hpl;have hsub:=Oc T8.p0.nl T8.q3 hR1L hln;have HSU:=Lib.hid hsub
      have hg8:w.heap.size<w8.heap.size:=by
       have h1:=T.q6;have h2:=hb8.size;omega
      have HG8:=Lib.hid hg8;clear h8 hb8 hlit hws hwsz hln hR1L hpl hsub T hg8;go_wp2_with fail;refine HSU.out.mono ?_;rintro e w9 ⟨v9,rfl,h9⟩;have D:Hid (KZ n xs w.heap.size w.heap.size la w w9 m v9):=⟨_,_,h9.1.mono T8.p2.size,T8.p1.keep h9.2,by rw [Uh];exact K.p2,Yb T8.p2 h9.2,P.p0,P.q1,TV HG8.out h9.2.size⟩;clear h9;go_wp2_with fail;go_roundw
      case rel=>exact ⟨m,rfl,Yo,D⟩
      case measure=>simp [intOf]
theorem BY {w:World} {L1 L2 m n:Nat} {a b:Value} (ha:Nm w L1 a m) (hb:Nm w L2 b n) (h0:n≠0) (h1:L1<=1073741824) (h2:L2<=1073741824):Calls Tryz.prog 191 #[a,b] w fun e w'=>∃ q r,e=.returned (.tuple #[q,r])/\Rs w w' q (m / n)/\Rs w w' r (m % n):=by
 obtain ⟨xs,⟨A,c,rfl,a1,a2,a3,a4⟩,a5,rfl⟩:=ha;exact Dz A c xs b L2 n w a1 hb h0 Yo h2
end I
end
section
namespace I
open Go Go.RowKit Go.Proofs Pl
theorem Mx (A:Option Addr) (c:Nat) (xs:List Nat) (w:World) (hx:Rd w A xs) (hl:xs.length<=1099511627776) (hv:val TB xs<4611686018427387904):
 Calls Tryz.prog 194 #[.slice A xs.length c] w fun e w'=>e=.returned (.int .i64 (val TB xs:Int))/\w=w':=by
 obtain ⟨n,hn⟩:∃ n,n=xs.length:=⟨_,rfl⟩;rw [<- hn] at hl ⊢;have HX:=Lib.hid hx;have HN:=Yh2 hn hv;clear hx hn hv;go_enter Tryz.func194,Tryz.ntmps194;go_wp2_with fail;go_loop [3,4] (fun s i=>∃ k t:Nat,i=.int .i64 ((k:Int) - 1)/\k<=n/\s=.int .i64 (t:Int)/\Hid (t=val TB (xs.drop k))) (fun _ i=>(intOf i+1).toNat)
 case atStart=>exact ⟨n,0,rfl,TL _,rfl,by show _=_;rw [HN.p0,VW];rfl⟩
 case round=>
  obtain ⟨k,t,rfl,hk,rfl,ht⟩:=hrel
  cases k with
  | zero=>
   have hfin:Hid (t=val TB xs):=by show _=_;rw [ht.out,VI]
   go_wp2_with fail;go_ret;exact ⟨by rw [<- hfin.out];rfl,rfl⟩
  | succ m=>
   have hkm:(((m+1:Nat):Int) - 1)=(m:Int):=Yo;rw [hkm];clear hkm;obtain ⟨b,o,rfl,hcell⟩:=HX.out.at_ (j:=m) (by rw [<- HN.p0];omega);have hm:=hcell m _ (AD (by rw [<- HN.p0];omega));obtain ⟨x,hx⟩:∃ x,x=atD xs m:=⟨_,rfl⟩;rw [<- hx] at hm;have e1:=BJ TB xs m (by rw [<- HN.p0];omega);rw [<- ht.out,<- hx] at e1
   have hle:val TB (xs.drop m)<=val TB xs:=by
    have:=AC TB xs m (by rw [<- HN.p0];omega);have h1:1*val TB (xs.drop m)<=TB ^ m*val TB (xs.drop m):=TW _ (Ve BN);omega
   have hvv:=HN.q1;obtain ⟨p,hp⟩:∃ p,p=t*TB:=⟨_,rfl⟩;obtain ⟨s,hs⟩:∃ s,s=p+x:=⟨_,rfl⟩;rw [TX,<- hp] at e1;have hsv:s=val TB (xs.drop m):=Yo;have i1:(t:Int)*10000=(p:Int):=by rw [hp,BD];omega
   have i2:(p:Int)+(x:Int)=(s:Int):=Yo;have i3:s<4611686018427387904:=Yo;have i4:p<4611686018427387904:=Yo;have K:=Lib.hid hsv;clear hcell hx e1 hle hp hs hsv hvv;go_wp2_with fail;go_round
   case rel=>exact ⟨m,s,rfl,Yo,rfl,K⟩
   case measure=>simp [intOf]
theorem JU {w:World} {L m:Nat} {a:Value} (ha:Nm w L a m) (hL:L<=1099511627776) (hm:m<4611686018427387904):Calls Tryz.prog 194 #[a] w fun e w'=>e=.returned (.int .i64 (m:Int))/\w=w':=by
 obtain ⟨xs,⟨A,c,rfl,a1,a2,a3,a4⟩,a5,rfl⟩:=ha;exact Mx A c xs w a1 Yo hm
theorem KM {L a b:Nat} {va vb:Value} (w:World) (ha:Nm w L va a) (hb:Nm w L vb b) (hL:L<=1073741824):
 Calls Tryz.prog 190 #[va,vb] w fun e w'=>∃ v,e=.returned v/\Rs w w' v (Nat.gcd a b):=by
 have HI:=Yh4 ha hb ha.lt hb.lt;clear ha hb;go_enter Tryz.func190,Tryz.ntmps190;go_wp2_with fail;refine (Cu HI.p0 Yo).mono ?_;rintro e w1 ⟨v1,rfl,h1⟩;have H1:=Lib.hid h1;clear h1;go_wp2_with fail;refine (Cu (HI.p1.keep H1.q1) Yo).mono ?_;rintro e w2 ⟨v2,rfl,h2⟩;have H2:=Lib.hid h2;clear h2;go_wp2_with fail
 go_loopg [5,6] b (fun k x y wr=>∃ (m:Nat) (lb d:Nat) (B:Option Addr),y=.slice B lb d/\Hid ((dg TB k).length=lb/\Nat.gcd m k=Nat.gcd a b/\m<TB ^ L/\k<TB ^ L)/\
  Hid (Ow wr w.heap.size x (dg TB m)/\Ow wr w.heap.size (.slice B lb d) (dg TB k)/\Yg w wr))
 case atStart=>
  obtain ⟨A2,c2,rfl,h3,h4⟩:=H2.p0.slice;exact ⟨a,_,c2,A2,rfl,⟨rfl,rfl,HI.p2,HI.q3⟩,(H1.p0.keep H2.q1),H2.p0.mono H1.q1.size,Yb H1.q1 H2.q1⟩
 case round=>
  obtain ⟨m,lb,d1,B1,rfl,hv,hO⟩:=hrel;by_cases h0:lb=0
  · subst h0;go_wp2_with fail;go_ret;have hk:gk=0:=(BL AH gk).1 (TN hv.p0);refine ⟨_,rfl,?_,hO.q2⟩;have hg:=hv.p1;rw [hk,Nat.gcd_zero_right] at hg;rw [<- hg];exact hO.p0
  · have hk0:gk≠0:=by
     rintro rfl;have:=hv.p0;rw [BP] at this;exact h0 this.symm
    have hdm:=BY (w:=wr) (show Nm wr L _ m from ⟨_,hO.p0.nl,Au AH hv.p2,AR AH _⟩) (show Nm wr L (.slice B1 lb d1) gk from ⟨_,hO.p1.nl,Au AH hv.q3,AR AH _⟩) hk0 hL hL;have hpos:(0:Int)<(lb:Int):=Yo;have HDM:=Lib.hid hdm;have HK:=Lib.hid hk0;clear hdm hk0;go_wp2_with fail;refine HDM.out.mono ?_;rintro e w3 ⟨q,r,rfl,hq,hr⟩;obtain ⟨A3,c3,rfl,h5,h6⟩:=hr.1.slice;have H3:=Lib.hid hr;clear hq hr;go_wp2_with fail;have hlt:=UB m (U9 HK.out);go_roundg (m % gk)
    case measure=>exact hlt
    case rel=>
     refine ⟨gk,(dg TB (m % gk)).length,c3,A3,rfl,⟨rfl,?_,hv.q3,Vg hlt hv.q3⟩,hO.p1.keep H3.q1,H3.p0.mono hO.q2.size,Yb hO.q2 H3.q1⟩;rw [<- hv.p1,Nat.gcd_comm m gk,Nat.gcd_rec gk m,Nat.gcd_comm]
end I
end
section
namespace I
open Go Go.RowKit Go.Proofs Pl
theorem NI {B m n p q r:Nat} (hB:1<B) (hm:m<B ^ p) (hn:n<B ^ q) (hp:p+1<=r) (hq:q+1<=r):m+n<B ^ r:=by
 have h1:B ^ p<=B ^ (r - 1):=Ua Yo Yo;have h2:B ^ q<=B ^ (r - 1):=Ua Yo Yo;have h3:B ^ (r - 1)*2<=B ^ (r - 1)*B:=TY _ hB;rw [show r=(r - 1)+1 from by omega,UD];omega
def HB:Nat:=4294967296
theorem C3:HB=4294967296:=rfl
theorem RD:HB*HB=WB:=by rw [C3,Bz]
theorem Eu:HB<TB ^ 3:=by rw [C3,BD];decide
theorem Sm:WB<=TB ^ 5:=by rw [Bz,BD];decide
attribute [irreducible] HB
theorem Gl {X k:Nat} (h:X<WB ^ k):X<TB ^ (5*k):=by
 rw [Nat.pow_mul];exact TV h (Nat.pow_le_pow_left Sm k)
theorem Ml (x:Nat) (hx:x<WB):∃ h l:Nat,h<HB/\l<HB/\h*HB+l=x/\(x:Int) / 4294967296=(h:Int)/\bits .and .u64 (x:Int) 4294967295=(l:Int)/\IntKind.i64.wrap (h:Int)=(h:Int)/\IntKind.i64.wrap (l:Int)=(l:Int)/\h<4294967296/\l<4294967296:=by
 have hm:=KG x hx;rw [F2] at hm;have hx2:=hx;rw [Bz] at hx2;have h1:x / 4294967296<4294967296:=Yo;have h2:x % 4294967296<4294967296:=Yo;exact ⟨x / 4294967296,x % 4294967296,by rw [C3];exact h1,by rw [C3];exact h2,by rw [C3];omega,Yo,hm,BU _ Yo,BU _ Yo,h1,h2⟩
theorem RV (A:Option Addr) (c0:Nat) (xs:List Nat) (w:World) (hx:_root_.Go.Proofs.YtlblnmmfphiobaaGreat.Rd w A xs) (hl:xs.length<=1048576):
 Calls Tryz.prog 109 #[.slice A xs.length c0] w fun e w'=>∃ v,e=.returned v/\Rs w w' v (val WB xs):=by
 obtain ⟨n,hn⟩:∃ n,n=xs.length:=⟨_,rfl⟩;rw [<- hn] at hl ⊢;have hX:=hx;have HX:=Lib.hid hX;have HN:=Lib.hid hn;clear hx hX hn;go_enter Tryz.func109,Tryz.ntmps109;go_wp2_with fail;have hw1:Yg w (w.alloc (.cells #[] 3)):=Ya _ _;have he:=Jr w w.heap.size rfl;have hsm:=CY HB (w.alloc (.cells #[] 3)) (by rw [C3];decide);rw [C3] at hsm;refine hsm.mono ?_;rintro e w1 ⟨vh,rfl,h1⟩;rw [<- C3] at h1;have H1:=Yh3 (he.keep h1.2) (Yb hw1 h1.2) (h1.nm Eu);clear hw1 he hsm h1;go_wp2_with fail;go_loopw [3,5] (fun v i wr=>∃ k:Nat,i=.int .i64 ((k:Int) - 1)/\k<=n/\Hid (Ow wr w.heap.size v (dg TB (val WB (xs.drop k)))/\Yg w1 wr)) (fun _ i _=>(intOf i+1).toNat)
 case atStart=>exact ⟨n,rfl,TL _,by rw [HN.out,VW,De,BP];exact H1.p0,Below.refl _ _⟩
 case round=>
  obtain ⟨k,rfl,hk,hO⟩:=hrel
  cases k with
  | zero=>
   have hw0:(((0:Nat):Int) - 1)=-1:=Yo;rw [hw0];clear hw0;go_wp2_with fail;go_ret;have h2:=hO.p0;rw [VI] at h2;exact ⟨_,rfl,h2,Yb H1.p1 hO.q1⟩
  | succ m=>
   have hkm:(((m+1:Nat):Int) - 1)=(m:Int):=Yo;rw [hkm];clear hkm;obtain ⟨b,o,rfl,hcell⟩:=(HX.out.keep (Yb H1.p1 hO.q1)).at_ (j:=m) (by rw [<- HN.out];omega);have hm0:=hcell m _ (AD (by rw [<- HN.out];omega));obtain ⟨x,hx⟩:∃ x,x=atD xs m:=⟨_,rfl⟩;have hxW:x<WB:=by rw [hx];exact _root_.Go.Proofs.YtlblnmmfphiobaaGreat.AW HX.p0 m
   rw [<- hx] at hm0;have e1:=BJ WB xs m (by rw [<- HN.out];omega);rw [<- hx] at e1;obtain ⟨X,hXv⟩:∃ X,X=val WB (xs.drop (m+1)):=⟨_,rfl⟩;rw [<- hXv] at hO e1
   have hXlt:X<WB ^ n:=by
    have h2:=Bc (HX.p0.drop (m+1));rw [<- hXv] at h2;exact TV h2 (Ua Ay (by rw [UJ,<- HN.out];omega))
   have hXT:=Gl hXlt;obtain ⟨h,l,hh,hl2,hhl,i1,i2,i3,i4,i5,i6⟩:=Ml x hxW;have p1:X*HB<TB ^ (5*n+3):=by rw [UF];exact UG hXT Eu
   have p2:X*HB+h<TB ^ (5*n+4):=NI AH p1 (Vg hh Eu) Yo Yo
   have p3:(X*HB+h)*HB<TB ^ (5*n+7):=by
    rw [show 5*n+7=(5*n+4)+3 from by omega,UF];exact UG p2 Eu
   have pv:(X*HB+h)*HB+l=val WB (xs.drop m):=by
    rw [e1,Uq,Uf,RD,TX X WB,Vc,hhl];omega
   have hM1:∀ W:World,Yg wr W->Calls Tryz.prog 117 #[_,vh] W fun e w'=>∃ v,e=.returned v/\Rs W w' v (X*HB):=fun W hb=>
    Dj (show Nm W (5*n) _ X from ⟨_,(hO.p0.keep hb).nl,Au AH hXT,AR AH _⟩) (H1.q2.keep (Yb hO.q1 hb)) Yo Yd
   have hS1:∀ W:World,Calls Tryz.prog 188 #[.int .i64 (h:Int)] W fun e w'=>∃ v,e=.returned v/\Rs W w' v h:=fun W=>CY h W Yo;have hS2:∀ W:World,Calls Tryz.prog 188 #[.int .i64 (l:Int)] W fun e w'=>∃ v,e=.returned v/\Rs W w' v l:=fun W=>CY l W Yo;have M1:=Lib.hid hM1;have S1:=Lib.hid hS1;have S2:=Lib.hid hS2;have P:=Yh6 p1 p2 p3 pv (Vg hh Eu) (Vg hl2 Eu);have i7:(0:Int)<=(m:Int):=Yo;have i8:(m:Int)<(n:Int):=Yo;clear hcell hx hxW e1 hXv hXlt hXT hh hl2 hhl p1 p2 p3 pv hM1 hS1 hS2;go_upto_region 6 with (fail)
   go_region_held3 (fun w'=>w'.cell? ⟨b,o+m,none⟩=some (.int .u64 (x:Int))) (first | exact hm0 | exact hm3 | exact hm4 | exact hm5)
    (first
     | (go_at_call 117;refine (M1.out _ (by exact Ai _ 1)).mono ?_;rintro e w3 ⟨v3,rfl,h3⟩;have hm3:w3.cell? ⟨b,o+m,none⟩=some (.int .u64 (x:Int)):=((Yb (Ai wr 1) h3.2).cell (p:=⟨b,o+m,none⟩) (CL hm0)).trans hm0;have H3:=Lib.hid h3;clear h3)
     | (go_at_call 188;refine (S1.out _).mono ?_;rintro e w4 ⟨v4,rfl,h4⟩;have hm4:w4.cell? ⟨b,o+m,none⟩=some (.int .u64 (x:Int)):=(h4.2.cell (p:=⟨b,o+m,none⟩) (CL hm3)).trans hm3;have H4:=Lib.hid h4;clear h4)
     | (go_at_call 189;refine (G7 (L1:=5*n+3) (L2:=3) ((H3.out.nm P.p0).keep H4.q1) (H4.out.nm P.p4) Yo Yd).mono ?_;rintro e w5 ⟨v5,rfl,h5⟩;have hm5:w5.cell? ⟨b,o+m,none⟩=some (.int .u64 (x:Int)):=(h5.2.cell (p:=⟨b,o+m,none⟩) (CL hm4)).trans hm4;have H5:=Lib.hid h5;clear h5))
   have hb5:Yg wr w5:=Yb (Yb (Yb (Ai wr 1) H3.q1) H4.q1) H5.q1
   have hM2:∀ W:World,Yg w5 W->Calls Tryz.prog 117 #[v5,vh] W fun e w'=>∃ v,e=.returned v/\Rs W w' v ((X*HB+h)*HB):=fun W hb=>
    Dj ((H5.out.nm P.p1).keep hb) (H1.q2.keep (Yb (Yb hO.q1 hb5) hb)) Yo Yd
   have M2:=Lib.hid hM2;have B5:=Lib.hid (Yb hO.q1 hb5);clear hM2 hb5;go_upto_region 7 with (fail)
   go_region_held3 (fun w'=>w'.cell? ⟨b,o+m,none⟩=some (.int .u64 (x:Int))) (first | exact hm5 | exact hm6 | exact hm7 | exact hm8)
    (first
     | (go_at_call 117;refine (M2.out _ (by exact Ai _ 1)).mono ?_;rintro e w6 ⟨v6,rfl,h6⟩;have hm6:w6.cell? ⟨b,o+m,none⟩=some (.int .u64 (x:Int)):=((Yb (Ai w5 1) h6.2).cell (p:=⟨b,o+m,none⟩) (CL hm5)).trans hm5;have H6:=Lib.hid h6;clear h6)
     | (go_at_call 188;refine (S2.out _).mono ?_;rintro e w7 ⟨v7,rfl,h7⟩;have hm7:w7.cell? ⟨b,o+m,none⟩=some (.int .u64 (x:Int)):=(h7.2.cell (p:=⟨b,o+m,none⟩) (CL hm6)).trans hm6;have H7:=Lib.hid h7;clear h7)
     | (go_at_call 189;refine (G7 (L1:=5*n+7) (L2:=3) ((H6.out.nm P.p2).keep H7.q1) (H7.out.nm P.q5) Yo Yd).mono ?_;rintro e w8 ⟨v8,rfl,h8⟩;have hm8:w8.cell? ⟨b,o+m,none⟩=some (.int .u64 (x:Int)):=(h8.2.cell (p:=⟨b,o+m,none⟩) (CL hm7)).trans hm7;have H8:=Lib.hid h8;clear h8))
   have hb8:Yg w1 w8:=Yb (Yb (Yb (Yb B5.out (Ai w5 1)) H6.q1) H7.q1) H8.q1;have h8:=H8.p0;rw [P.p3] at h8;have K:=Yh2 (h8.mono (TP H1.p1.size (Yb (Yb (Yb B5.out (Ai w5 1)) H6.q1) H7.q1).size)) hb8;clear h8 hb8;go_wp2_with fail;go_roundw
   case rel=>exact ⟨m,rfl,Yo,K.out⟩
   case measure=>simp [intOf]
theorem SZ {w:World} {a:Value} {xs:List Nat} (ha:_root_.Go.Proofs.YtlblnmmfphiobaaGreat.Nl w a xs) (hl:xs.length<=1048576):Calls Tryz.prog 109 #[a] w fun e w'=>∃ v,e=.returned v/\Rs w w' v (val WB xs):=by
 obtain ⟨A,c,rfl,a1,a2,a3,a4⟩:=ha;exact RV A c xs w a1 hl
end I
end
section
open Go Go.RowKit Go.Proofs Pl
theorem Oi {w0 wr:World} {B:Nat} {ops:Array Oper} {rest:List Oper} {o:Oper} {a:Act} {Q:Exit->Act->World->Prop} {v:Value} {ys:List Nat} {y:Nat} (hgd:o.guard=none) (s x:Operand)
 (ho:o.op=.call { callee:=.builtin .append,args:=#[s,x],argTypes:=#[32,32] }) (hs:a.eval s=v) (hx:a.eval x=.slice (some ⟨wr.heap.size,0,none⟩) 1 1)
 (hO:Ow wr B v ys) (hb:Below B w0 wr) (hB:B<=wr.heap.size) (hy:y<WB) (hl:ys.length<=1099511627776)
 (h:∀ v' w',Ow w' B v' (ys++[y])->Below B w0 w'->wr.grownBy w' v.ownBlock->wpList Tryz.prog ops Q rest (a.put o.dst v') w'):wpList Tryz.prog ops Q (o::rest) a (wr.alloc (.cells #[.int .u64 (y:Int)] 146)):=by
 obtain ⟨i0,hi,hz0,hz1,hz2⟩:=info_parts Bf
 refine wpList_append_own _ hgd s x 32 ho B 146 i0 (.int .u64 0) 1 8 Tryz.underlying32 hi hz0 hz1 hz2 rfl Yd v ys.length (wis ys) hs (hO.2.alloc _) ⟨wr.heap.size,0,none⟩ 1 1 [.int .u64 (y:Int)] hx rfl (cell_one_new _ _ _)
  (fun u hu=>by rw [Uj] at hu;subst hu;rfl) (by unfold maxLen;omega) Yo (TP hB (Ya _ _).size) ?_
 intro v' w' hown hg _;have h2:Below B w0 (wr.alloc (.cells #[.int .u64 (y:Int)] 146)):=hb.alloc hB _;refine h v' w' (IN hO.1 hy rfl hown) (h2.grown hg (TP hB (Ya _ _).size) (fun j hj=>Kx hO.2 j hj)) ?_;exact ⟨hg.os,hg.tape,hg.output,TP (Ya _ _).size hg.size,fun k hk hne=>(hg.block k (TV hk (Ya _ _).size) hne).trans (Below.heap_alloc wr _ k hk)⟩
theorem I.Ow.other {w w':World} {B B':Nat} {v u:Value} {xs ys:List Nat} (h:I.Ow w B v xs) (ho:_root_.Go.Proofs.YtlblnmmfphiobaaGreat.Ow w B' u ys) (hg:w.grownBy w' u.ownBlock):I.Ow w' B v xs:=
 ⟨h.1,AQ h.2 (BX ho.2 hg Yd)⟩
theorem QS {hi lo:Nat} (h1:hi<I.HB) (h2:lo<I.HB):∃ hh wd:Nat,wd=hi*I.HB+lo/\wd<WB/\IntKind.u64.wrap (hi:Int)=(hi:Int)/\IntKind.u64.wrap (lo:Int)=(lo:Int)/\(hi:Int)*4294967296=(hh:Int)/\IntKind.u64.wrap (hh:Int)=(hh:Int)/\(hh:Int)+(lo:Int)=(wd:Int)/\IntKind.u64.wrap (wd:Int)=(wd:Int):=by
 rw [I.C3] at h1 h2 ⊢;refine ⟨hi*4294967296,_,rfl,by rw [Bz];omega,wrap_u64 _ (by rw [Bz];omega),wrap_u64 _ (by rw [Bz];omega),Yo,wrap_u64 _ (by rw [Bz];omega),Yo,wrap_u64 _ (by rw [Bz];omega)⟩
def Ry (n B0:Nat) (w wr:World) (m:Nat) (xv v:Value):Prop:=
 ∃ ys:List Nat,I.Ow wr B0 xv (dg I.TB m)/\Ow wr B0 v ys/\Below B0 w wr/\val WB ys+WB ^ ys.length*m=n/\(m=0->Cw ys)
theorem I9 {ys:List Nat} {x:Nat} (hx:x≠0):Cw (ys++[x]):=by
 unfold Cw;rw [C5,if_neg hx]
theorem Oh {n m l v K:Nat} (hn:n<WB ^ K) (hm:0<m) (h:v+WB ^ l*m=n):l<K:=by
 rcases Ul l K with hlt | hge
 · exact hlt
 · have h1:WB ^ K<=WB ^ l:=Ua Ay hge;have h2:WB ^ l*1<=WB ^ l*m:=TY _ hm;omega
theorem Of {L n K:Nat} {a:Value} (w:World) (ha:I.Nm w L a n) (hL:L<=1073741824) (hn:n<WB ^ K) (hK:K<=1048576):
 Calls Tryz.prog 115 #[a] w fun e w'=>∃ v,e=.returned v/\Rs w w' v n:=by
 have HA:=Yh3 ha hn (I.Gl hn);clear ha hn;go_enter Tryz.func115,Tryz.ntmps115;go_wp2_with fail;have hw1:Yg w (w.alloc (.cells #[] 146)):=Ya _ _;have he:Ow (w.alloc (.cells #[] 146)) w.heap.size (.slice (some ⟨w.heap.size,0,none⟩) 0 0) []:=BT w 0 0 Yo Yd;have hsm:=I.CY I.HB (w.alloc (.cells #[] 146)) (by rw [I.C3];decide);rw [I.C3] at hsm;refine hsm.mono ?_;rintro e w1 ⟨vh,rfl,h1⟩;rw [<- I.C3] at h1;have H1:=Yh3 (he.keep h1.2) (Yb hw1 h1.2) (h1.1.mono hw1.size);clear hw1 he hsm h1;go_wp2_with fail;refine (I.Cu (HA.p0.keep H1.p1) Yo).mono ?_;rintro e w2 ⟨v2,rfl,h2⟩;have H2:=Yh4 h2.1 (H1.q2.keep h2.2) (H1.p0.keep h2.2) (Yb H1.p1 h2.2);clear h2;go_wp2_with fail;go_loopg [3,5] n (fun m v x wr=>∃ (lx dx:Nat) (Bx:Option Addr),x=.slice Bx lx dx/\m<=n/\Hid ((dg I.TB m).length=lx/\Ry n w.heap.size w wr m (.slice Bx lx dx) v/\I.Ow wr w.heap.size vh (dg I.TB I.HB)))
 case atStart=>
  obtain ⟨A2,c2,rfl,h3,h4⟩:=H2.p0.slice;exact ⟨_,c2,A2,rfl,TL _,rfl,⟨[],H2.p0.mono H1.p1.size,H2.p2,H2.q3,by simp [val],fun _=>rfl⟩,H2.p1⟩
 case round=>
  obtain ⟨lx,dx,Bx,rfl,hmn,hS⟩:=hrel;obtain ⟨hlx,⟨ys,hx,hy,hb,hv,hc⟩,hb2⟩:=hS.out;by_cases h0:lx=0
  · subst h0;have hk:gk=0:=(BL I.AH gk).1 (TN hlx);rw [hk,UQ,UE] at hv;have hfin:dg WB n=ys:=by rw [<- hv];exact FG Aw hy.1 (hc hk)
    have K2:=Yh3 hfin hy hb;clear hlx hx hy hb hv hc hb2 hS hk hfin;go_wp2_with fail;go_ret;exact ⟨_,rfl,by rw [K2.p0];exact K2.p1,K2.q2⟩
  · have hk0:gk≠0:=by
     rintro rfl;rw [BP] at hlx;exact h0 hlx.symm
    have hsh:=Oh HA.p1 (U9 hk0) hv;have hgT:gk<I.TB ^ (5*K):=Ug hmn HA.q2;have hpos:(0:Int)<(lx:Int):=Yo;have hHB0:I.HB≠0:=by rw [I.C3];decide
    have hHBp:0<I.HB:=U9 hHB0;obtain ⟨q,hq⟩:∃ q,q=gk / I.HB:=⟨_,rfl⟩;obtain ⟨lo,hlo⟩:∃ lo,lo=gk % I.HB:=⟨_,rfl⟩;obtain ⟨p,hp⟩:∃ p,p=q / I.HB:=⟨_,rfl⟩;obtain ⟨hi,hhi⟩:∃ hi,hi=q % I.HB:=⟨_,rfl⟩;have hlo2:lo<I.HB:=by rw [hlo];exact UB _ hHBp
    have hhi2:hi<I.HB:=by rw [hhi];exact UB _ hHBp
    obtain ⟨hh,wd,ewd,w1',j1,j2,j3,j4,j5,j6⟩:=QS hhi2 hlo2
    have hsplit:p*WB+wd=gk:=by
     have e1:=Uu gk I.HB;have e2:=Uu q I.HB;rw [<- hq,<- hlo] at e1;rw [<- hp,<- hhi] at e2;rw [ewd,<- e1,<- e2,T9,<- Uf,I.RD,TX WB p,TX I.HB hi];omega
    have hd1:=I.BY (show I.Nm wr (5*K) _ gk from ⟨_,hx.nl,Au I.AH hgT,AR I.AH _⟩) (show I.Nm wr 3 vh I.HB from ⟨_,hb2.nl,Au I.AH I.Eu,AR I.AH _⟩) hHB0 Yo Yd;rw [<- hq,<- hlo] at hd1;have HD1:=Lib.hid hd1;have X:=RJ hy hb hv hb2 hsh hgT hHB0 (And.intro hp hhi) hlo2 hhi2 w1' hsplit hk0 (show q<I.TB ^ (5*K) by rw [hq];exact Ug (Vh _ _) hgT);clear hlx hx hy hb hv hc hb2 hS hk0 hsh hgT hHB0 hHBp hq hlo hp hhi hlo2 hhi2 ewd w1' hsplit hd1;go_wp2_with fail;refine HD1.out.mono ?_;rintro e w3 ⟨vq,vl,rfl,h3,h4⟩;have H3:=Yh2 h3 (h4.nm (L:=3) (Vg X.p8 I.Eu));clear h3 h4;have hd2:=I.BY (H3.p0.nm X.q13) (show I.Nm w3 3 vh I.HB from ⟨_,(X.p3.keep H3.p0.2).nl,Au I.AH I.Eu,AR I.AH _⟩) X.p6 Yo Yd;rw [<- X.p7.1,<- X.p7.2] at hd2;have HD2:=Lib.hid hd2;clear hd2;go_wp2_with fail;refine HD2.out.mono ?_;rintro e w4 ⟨vp,vi,rfl,h5,h6⟩;obtain ⟨A5,c5,rfl,h7,h8⟩:=h5.1.slice;have H4:=Yh3 h5 (h6.nm (L:=3) (Vg X.p9 I.Eu)) (H3.q1.keep h5.2);clear h5 h6 h7 h8;go_wp2_with fail;have hhib:hi<4611686018427387904:=by have:=X.p9;rw [I.C3] at this;omega
    refine (I.JU H4.p1 Yd hhib).mono ?_;rintro e w' ⟨rfl,rfl⟩;go_wp2_with fail;have hlob:lo<4611686018427387904:=by have:=X.p8;rw [I.C3] at this;omega
    refine (I.JU H4.q2 Yd hlob).mono ?_;rintro e w' ⟨rfl,rfl⟩;have hby:Yg w w4:=Yb (Yb X.p1 H3.p0.2) H4.p0.2;have Y:=Yh3 ((X.p0.keep H3.p0.2).keep H4.p0.2) hby hby.size;clear hby hhib hlob;go_wp2_with (at_builtin;refine Oi rfl _ _ rfl rfl rfl Y.p0 Y.p1 Y.q2 X.p10 (TP (VZ X.p4) (TP hK Yd)) ?_;intro v5 w5 k1 k2 k3);have hx5:=((H4.p0.1.mono (Yb X.p1 H3.p0.2).size).other Y.p0 k3);have hh5:=(((X.p3.keep H3.p0.2).keep H4.p0.2).other Y.p0 k3);obtain ⟨l5,hl5⟩:∃ l5,l5=(dg I.TB p).length:=⟨_,rfl⟩;rw [<- hl5] at hx5 ⊢
    have hval:val WB (ys++[wd])+WB ^ (ys++[wd]).length*p=n:=by
     rw [Cr,TM,Ui,UD,Uf,Vc,<- T9,<- X.p2,<- X.p11];rw [TX WB p,VL wd]
    have hplt:p<gk:=by
     have h1:=X.p11;have h2:=X.p12
     rcases TQ p with h3 | h3
     · omega
     · have h4:p*2<=p*WB:=TY _ Aw;omega
    have hcan:p=0->Cw (ys++[wd]):=fun h3=>I9 (by
     have h1:=X.p11;have h2:=X.p12;rw [h3,Wk] at h1;omega)
    have Z:=Yh4 hl5.symm (show Ry n w.heap.size w w5 p (.slice A5 l5 c5) v5 from ⟨_,hx5,k1,k2,hval,hcan⟩) hh5 hplt;clear hx5 hh5 hl5 hval hplt hcan k1 k2 k3;go_wp2_with fail;go_roundg p
    case measure=>exact Z.q3
    case rel=>exact ⟨l5,c5,A5,rfl,by have:=Z.q3;omega,Z.p0,Z.p1,Z.p2⟩
end
section
namespace I
open Go Go.RowKit Go.Proofs Pl
def Dn (w:World) (L:Nat) (v:Value) (n:Nat):Prop:=Nl w v (dg TB n)/\n<TB ^ L
section
variable {w w':World} {L L1 L2 m n:Nat} {v a b:Value}
theorem Dn.keep (h:Dn w L v n) (hb:Below w.heap.size w w'):Dn w' L v n:=⟨h.1.keep hb,h.2⟩
theorem Dn.nm (h:Dn w L v n):Nm w L v n:=⟨_,h.1,Au AH h.2,AR AH _⟩
theorem Dn.mono {L':Nat} (h:Dn w L v n) (hL:L<=L'):Dn w L' v n:=⟨h.1,TV h.2 (Ua BN hL)⟩
theorem Rs.dn (h:Rs w w' v n) (hn:n<TB ^ L):Dn w' L v n:=⟨h.nl,hn⟩
theorem OJ {xs:List Nat} (ha:_root_.Go.Proofs.YtlblnmmfphiobaaGreat.Nl w a xs) (hl:xs.length<=L) (hL:L<=1048576) (em:val WB xs=m):Calls Tryz.prog 109 #[a] w fun e w'=>∃ v,e=.returned v/\Dn w' (5*L) v m/\Below w.heap.size w w':=by
 refine (SZ ha Yo).mono ?_;rintro e w' ⟨v,he,h⟩;have hlt:m<WB ^ L:=by rw [<- em];exact TV (Bc ha.all) (Ua Ay hl)
 rw [em] at h;exact ⟨v,he,h.dn (Gl hlt),h.2⟩
theorem OR (ha:Dn w L1 a m) (hb:Dn w L2 b n) (h1:L1<=1073741824) (h2:L2<=1073741824):Calls Tryz.prog 189 #[a,b] w fun e w'=>∃ v,e=.returned v/\Dn w' (L1+L2+1) v (m+n)/\Below w.heap.size w w':=by
 refine (G7 ha.nm hb.nm Yo Yo).mono ?_;rintro e w' ⟨v,he,h⟩;exact ⟨v,he,h.dn (NI AH ha.2 hb.2 Yo Yo),h.2⟩
theorem N5 (ha:Dn w L1 a m) (hb:Dn w L2 b n) (h1:L1<=1073741824) (h2:L2<=1073741824):Calls Tryz.prog 117 #[a,b] w fun e w'=>∃ v,e=.returned v/\Dn w' (L1+L2) v (m*n)/\Below w.heap.size w w':=by
 refine (Dj ha.nm hb.nm Yo Yo).mono ?_;rintro e w' ⟨v,he,h⟩;exact ⟨v,he,h.dn (by rw [UF];exact UG ha.2 hb.2),h.2⟩
theorem Od (ha:Dn w L1 a m) (hb:Dn w L2 b n) (h1:L1<=1073741824) (h:n<=m):Calls Tryz.prog 208 #[a,b] w fun e w'=>∃ v,e=.returned v/\Dn w' L1 v (m - n)/\Below w.heap.size w w':=by
 refine (Oc ha.1 hb.1 (by have:=Au AH ha.2;omega) h).mono ?_;rintro e w' ⟨v,he,hr⟩;exact ⟨v,he,hr.dn (Ug (Nat.sub_le _ _) ha.2),hr.2⟩
theorem NM (ha:Dn w L1 a m) (hb:Dn w L2 b n) (h1:L1<=1073741824) (h2:L2<=1073741824):Calls Tryz.prog 172 #[a,b] w fun e w'=>e=.returned (.int .i64 (Bk m n))/\w=w':=
 Gr ha.nm hb.nm Yo Yo
theorem SA (ha:Dn w L a m) (hb:Dn w L b n) (h1:L<=1073741824):Calls Tryz.prog 190 #[a,b] w fun e w'=>∃ v,e=.returned v/\Dn w' L v (Nat.gcd m n)/\Below w.heap.size w w':=by
 refine (KM w ha.nm hb.nm h1).mono ?_;rintro e w' ⟨v,he,h⟩;refine ⟨v,he,h.dn ?_,h.2⟩
 rcases TQ m with h0 | h0
 · rw [h0,Nat.gcd_zero_left];exact hb.2
 · exact Ug (Nat.gcd_le_left n h0) ha.2
theorem Hi (ha:Dn w L1 a m) (hb:Dn w L2 b n) (h0:n≠0) (h1:L1<=1073741824) (h2:L2<=1073741824):Calls Tryz.prog 191 #[a,b] w fun e w'=>∃ q r,e=.returned (.tuple #[q,r])/\Dn w' L1 q (m / n)/\Dn w' L1 r (m % n)/\Below w.heap.size w w':=by
 refine (BY ha.nm hb.nm h0 h1 h2).mono ?_;rintro e w' ⟨q,r,he,hq,hr⟩;exact ⟨q,r,he,hq.dn (Ug (Vh _ _) ha.2),hr.dn (Ug (Nat.mod_le _ _) ha.2),hq.2⟩
end
end I
end
section
namespace Pl
def sg (b:Bool) (n:Nat):Int:=if b then -(n:Int) else n
theorem Iw (b:Bool):sg b 0=0:=by cases b<;>rfl
theorem Cb (b:Bool) (n:Nat):(sg b n).natAbs=n:=by cases b<;>simp [sg]
theorem KA (b:Bool) (n:Nat):decide (sg b n<0)=(b && decide (n≠0)):=by
 cases b
 · simp [sg]
 · cases n with
   | zero=>rfl
   | succ n=>
    have h:sg true (n+1)<0:=by simp only [sg,if_true];omega
    rw [decide_eq_true h];rfl
theorem EZ (z:Int):sg (decide (z<0)) z.natAbs=z:=by
 unfold sg;by_cases h:z<0
 · simp [h];omega
 · simp [h];omega
theorem OM (b:Bool) (n:Nat):sg (!b) n=-sg b n:=by cases b<;>simp [sg]
theorem Pu (b:Bool) (m n:Nat):sg b m+sg b n=sg b (m+n):=by cases b<;>simp [sg]<;>omega
theorem OL (b:Bool) (m n:Nat) (h:n<=m):sg b m+sg (!b) n=sg b (m - n):=by cases b<;>simp [sg]<;>omega
theorem Lz (b:Bool) (m n:Nat) (h:m<=n):sg b m+sg (!b) n=sg (!b) (n - m):=by cases b<;>simp [sg]<;>omega
theorem Kz (a b:Bool) (m n:Nat):sg a m*sg b n=sg (a !=b) (m*n):=by cases a<;>cases b<;>simp [sg,Int.mul_neg,Int.neg_mul]
def BH (z:Int):Int:=if z=0 then 0 else if z<0 then -1 else 1
def Bp (x y:Int):Int:=if x<y then -1 else if x=y then 0 else 1
theorem Pr (x y:Int):BH (x - y)=Bp x y:=by unfold BH Bp;split<;>(try split)<;>(try split)<;>(try split)<;>omega
theorem Ia (b:Bool) (m n:Nat):Int.fdiv (sg b m) (sg b n)=((m / n:Nat):Int):=by
 cases b
 · simp [sg,Int.natCast_ediv,VD]
 · simp only [sg,if_true,Int.neg_fdiv_neg];rw [VD _ (by omega)];simp
theorem DU (b:Bool) (m n:Nat) (h:n≠0):Int.fdiv (sg b m) (sg (!b) n)=-((m / n:Nat):Int) - (if m % n=0 then 0 else 1):=by
 have key:Int.fdiv (-(m:Int)) (n:Int)=-((m / n:Nat):Int) - (if m % n=0 then 0 else 1):=by
  rw [VD _ (by omega)];have hd:=Uu m n;have hl:=UB m (U9 h);have hn:(0:Int)<(n:Int):=Yo;have hI:(n:Int)*((m / n:Nat):Int)+((m % n:Nat):Int)=(m:Int):=by exact_mod_cast hd
  split
  · rename_i h0;rw [h0] at hI;have e:-(m:Int)=(n:Int)*(-((m / n:Nat):Int)):=by rw [Int.mul_neg];omega
    rw [e,Int.mul_ediv_cancel_left _ (by omega)];omega
  · rename_i h0
    have e:-(m:Int)=((n:Int) - ((m % n:Nat):Int))+(n:Int)*(-((m / n:Nat):Int) - 1):=by
     rw [Int.mul_sub,Int.mul_neg];omega
    rw [e,Int.add_mul_ediv_left _ _ (by omega),Int.ediv_eq_zero_of_lt (by omega) (by omega)];omega
 cases b
 · have e:=Int.neg_fdiv_neg (-(m:Int)) (n:Int);rw [Int.neg_neg] at e
   simpa [sg,e] using key
 · simpa [sg] using key
end Pl
end
section
open Go Go.RowKit Go.Proofs Pl
def Bx (t:TypeId) (w:World) (g:Nat) (a b:Value):Prop:=w.heap[g]?=some (.cells #[a,b] t (0,0))
section
variable {t:TypeId} {w w':World} {g:Nat} {a b x y:Value}
theorem Bx.lt (h:Bx t w g a b):g<w.heap.size:=CK h
theorem Bx.facts (h:Bx t w g a b):w.cell? ⟨g,0,none⟩=some a/\w.cell? ⟨g,1,none⟩=some b/\w.frozen? ⟨g,0,none⟩=false/\w.frozen? ⟨g,1,none⟩=false:=by
 have h':w.heap[g]?=_:=h;refine ⟨?_,?_,?_,?_⟩<;>simp [World.cell?,World.frozen?,h']
theorem Bx.new (t:TypeId) (w:World) (a b:Value):Bx t (w.alloc (.cells #[a,b] t)) w.heap.size a b:=World.alloc_heap_new w _
theorem Bx.new1 (t:TypeId) (w:World) (o:Obj) (a b:Value):Bx t ((w.alloc o).alloc (.cells #[a,b] t)) (w.heap.size+1) a b:=by
 have:=Bx.new t (w.alloc o) a b
 rwa [World.size_alloc] at this
theorem Bx.new2 (t:TypeId) (w:World) (o o':Obj) (a b:Value):Bx t (((w.alloc o).alloc o').alloc (.cells #[a,b] t)) (w.heap.size+1+1) a b:=by
 have:=Bx.new t ((w.alloc o).alloc o') a b
 rwa [World.size_alloc,World.size_alloc] at this
theorem Bx.new3 (t:TypeId) (w:World) (o o' o'':Obj) (a b:Value):Bx t ((((w.alloc o).alloc o').alloc o'').alloc (.cells #[a,b] t)) (w.heap.size+1+1+1) a b:=by
 have:=Bx.new t (((w.alloc o).alloc o').alloc o'') a b
 rwa [World.size_alloc,World.size_alloc,World.size_alloc] at this
theorem Bx.keep (h:Bx t w g a b) (hb:Below w.heap.size w w'):Bx t w' g a b:=(hb.block g h.lt).trans h
theorem Bx.alloc (h:Bx t w g a b) (o:Obj):Bx t (w.alloc o) g a b:=(Below.heap_alloc w o g h.lt).trans h
theorem Bx.set0 (h:Bx t w g a b) (x:Value):Bx t (w.setCell ⟨g,0,none⟩ x) g x b:=by
 obtain ⟨hlt,hk⟩:=Array.getElem?_eq_some_iff.1 h;show (w.heap.modify g _)[g]?=_;rw [Array.getElem?_eq_getElem (by rw [VT];exact hlt),Vo,hk];rfl
theorem Bx.set1 (h:Bx t w g a b) (y:Value):Bx t (w.setCell ⟨g,1,none⟩ y) g a y:=by
 obtain ⟨hlt,hk⟩:=Array.getElem?_eq_some_iff.1 h;show (w.heap.modify g _)[g]?=_;rw [Array.getElem?_eq_getElem (by rw [VT];exact hlt),Vo,hk];rfl
theorem Bx.set (h:Bx t w g a b) (x y:Value):Bx t ((w.setCell ⟨g,0,none⟩ x).setCell ⟨g,1,none⟩ y) g x y:=(h.set0 x).set1 y
theorem Bx.other (h:Bx t w g a b) {p:Addr} (hp:p.block≠g) (u:Value):Bx t (w.setCell p u) g a b:=(Below.heap_setCell w p u g (fun e=>hp e.symm)).trans h
theorem Bx.other2 (h:Bx t w g a b) {k:Nat} (hp:k≠g) (u v:Value):Bx t ((w.setCell ⟨k,0,none⟩ u).setCell ⟨k,1,none⟩ v) g a b:=(h.other hp u).other hp v
theorem Bx.keepT (h:Bx t w g a b) {e:TypeId} (hne:t≠e) (x y:Value):Ak e w ((w.setCell ⟨g,0,none⟩ x).setCell ⟨g,1,none⟩ y):=
 (Ak.setCell h hne rfl x).trans (Ak.setCell (h.set0 x) hne rfl y)
theorem Bx.below (h:Bx t w' g a b) {B:Nat} (hb:Below B w w') (hg:B<=g) (hs:B<=w.heap.size) (x y:Value):Below B w ((w'.setCell ⟨g,0,none⟩ x).setCell ⟨g,1,none⟩ y):=
 (hb.setCell hg x).setCell hg y
def F4 (t t' t'':TypeId) (w W:World) (a b c d e f:Value):Prop:=Bx t W w.heap.size a b/\Bx t' W (w.heap.size+1) c d/\Bx t'' W (w.heap.size+1+1) e f/\Yg w W
theorem new3 (t t' t'':TypeId) (w:World) (a b c d e f:Value):F4 t t' t'' w (((w.alloc (.cells #[a,b] t)).alloc (.cells #[c,d] t')).alloc (.cells #[e,f] t'')) a b c d e f:=
 ⟨((Bx.new t w a b).alloc _).alloc _,(Bx.new1 t' w _ c d).alloc _,Bx.new2 t'' w _ _ e f,by go_grown⟩
def EL (t t':TypeId) (w W:World) (a b c d:Value):Prop:=Bx t W w.heap.size a b/\Bx t' W (w.heap.size+1) c d/\Yg w W
theorem new2 (t t':TypeId) (w:World) (a b c d:Value):EL t t' w ((w.alloc (.cells #[a,b] t)).alloc (.cells #[c,d] t')) a b c d:=
 ⟨(Bx.new t w a b).alloc _,Bx.new1 t' w _ c d,by go_grown⟩
theorem F4.keep {t t' t'':TypeId} {w W W':World} {a b c d e f:Value} (h:F4 t t' t'' w W a b c d e f) (hb:Below W.heap.size W W'):F4 t t' t'' w W' a b c d e f:=
 ⟨h.1.keep hb,h.2.1.keep hb,h.2.2.1.keep hb,Yb h.2.2.2 hb⟩
theorem EL.keep {t t':TypeId} {w W W':World} {a b c d:Value} (h:EL t t' w W a b c d) (hb:Below W.heap.size W W'):EL t t' w W' a b c d:=
 ⟨h.1.keep hb,h.2.1.keep hb,Yb h.2.2 hb⟩
theorem F4.drew {t t' t'':TypeId} {w W:World} {a b c d e f:Value} (h:F4 t t' t'' w W a b c d e f) (q:Nat):F4 t t' t'' w (W.drewN q) a b c d e f:=h.keep ⟨rfl,rfl,rfl,TL _,fun _ _=>rfl⟩
theorem EL.drew {t t':TypeId} {w W:World} {a b c d:Value} (h:EL t t' w W a b c d) (q:Nat):EL t t' w (W.drewN q) a b c d:=h.keep ⟨rfl,rfl,rfl,TL _,fun _ _=>rfl⟩
theorem F4.st {t t' t'':TypeId} {w W:World} {a b c d e f:Value} (h:F4 t t' t'' w W a b c d e f) (x y:Value):
 F4 t t' t'' w ((W.setCell ⟨w.heap.size+1+1,0,none⟩ x).setCell ⟨w.heap.size+1+1,1,none⟩ y) a b c d x y:=
 ⟨h.1.other2 Yo x y,h.2.1.other2 Yo x y,h.2.2.1.set x y,h.2.2.1.below h.2.2.2 Yo (TL _) x y⟩
theorem EL.st {t t':TypeId} {w W:World} {a b c d:Value} (h:EL t t' w W a b c d) (x y:Value):
 EL t t' w ((W.setCell ⟨w.heap.size+1,0,none⟩ x).setCell ⟨w.heap.size+1,1,none⟩ y) a b x y:=
 ⟨h.1.other2 Yo x y,h.2.1.set x y,h.2.1.below h.2.2 Yo (TL _) x y⟩
theorem F4.ld {t t' t'':TypeId} {w W:World} {a b c d e f:Value} (h:F4 t t' t'' w W a b c d e f):
 W.cell? ⟨w.heap.size,0,none⟩=some a/\W.cell? ⟨w.heap.size,1,none⟩=some b/\W.cell? ⟨w.heap.size+1,0,none⟩=some c/\W.cell? ⟨w.heap.size+1,1,none⟩=some d:=
 ⟨h.1.facts.1,h.1.facts.2.1,h.2.1.facts.1,h.2.1.facts.2.1⟩
theorem EL.ld2 {t t':TypeId} {w W:World} {a b c d:Value} (h:EL t t' w W a b c d):
 W.cell? ⟨w.heap.size,0,none⟩=some a/\W.cell? ⟨w.heap.size,1,none⟩=some b/\W.cell? ⟨w.heap.size+1,0,none⟩=some c/\W.cell? ⟨w.heap.size+1,1,none⟩=some d:=
 ⟨h.1.facts.1,h.1.facts.2.1,h.2.1.facts.1,h.2.1.facts.2.1⟩
theorem EL.ld {t t':TypeId} {w W:World} {a b c d:Value} (h:EL t t' w W a b c d):
 W.cell? ⟨w.heap.size,0,none⟩=some a/\W.cell? ⟨w.heap.size,1,none⟩=some b:=⟨h.1.facts.1,h.1.facts.2.1⟩
theorem Bm {P:Program} {fn:Func} {R:Ending->World->Prop} {act:Act} (X:Bx t w g a b)
 (hr:∀ W:World,W.cell? ⟨g,0,none⟩=some x->W.cell? ⟨g,1,none⟩=some y->(results fn act.tmps).run P W=.ok (.agg #[x,y]) W) (hd:act.defers=[])
 (hR:R (.returned (.agg #[x,y])) ((w.setCell ⟨g,0,none⟩ x).setCell ⟨g,1,none⟩ y)):bodyPost P fn R .ret act ((w.setCell ⟨g,0,none⟩ x).setCell ⟨g,1,none⟩ y):=
 bodyPost_ret (hr _ (X.set x y).facts.1 (X.set x y).facts.2.1) hd hR
end
end
section
open Go Go.RowKit Go.Proofs Pl
def Zn (w:World) (L:Nat) (v:Value) (z:Int):Prop:=∃ b s n,v=.agg #[.bool b,s]/\Nm w L s n/\z=sg b n
def Zo (w:World) (v:Value) (z:Int):Prop:=∃ s,v=.agg #[.bool (decide (z<0)),s]/\Nl w s (dg WB z.natAbs)
def Zs (w w':World) (v:Value) (z:Int):Prop:=∃ s,v=.agg #[.bool (decide (z<0)),s]/\Rs w w' s z.natAbs
section
variable {w w':World} {L L' n:Nat} {v s:Value} {z:Int} {b:Bool}
theorem Zn.keep (h:Zn w L v z) (hb:Below w.heap.size w w'):Zn w' L v z:=by
 obtain ⟨b,s,n,h1,h2,h3⟩:=h;exact ⟨b,s,n,h1,h2.keep hb,h3⟩
theorem Zn.lt (h:Zn w L v z):z.natAbs<WB ^ L:=by
 obtain ⟨b,s,n,h1,h2,rfl⟩:=h;rw [Cb];exact h2.lt
theorem Zo.zn (h:Zo w v z) (hz:z.natAbs<WB ^ L):Zn w L v z:=by
 obtain ⟨s,h1,h2⟩:=h;exact ⟨_,s,_,h1,⟨_,h2,Au Aw hz,AR Aw _⟩,(EZ z).symm⟩
theorem Zs.zo (h:Zs w w' v z):Zo w' v z:=by
 obtain ⟨s,h1,h2⟩:=h;exact ⟨s,h1,h2.nl⟩
theorem Zs.zn (h:Zs w w' v z) (hz:z.natAbs<WB ^ L):Zn w' L v z:=h.zo.zn hz
theorem Zs.below (h:Zs w w' v z):Below w.heap.size w w':=by
 obtain ⟨s,h1,h2⟩:=h;exact h2.2
theorem Zs.from (h:Zs w' w v z) {w0:World} (hb:Below w0.heap.size w0 w'):Zs w0 w v z:=by
 obtain ⟨s,h1,h2⟩:=h;exact ⟨s,h1,h2.1.mono hb.size,Yb hb h2.2⟩
theorem Zs.then (h:Zs w w' v z) {w2:World} (hb:Below w'.heap.size w' w2):Zs w w2 v z:=by
 obtain ⟨s,h1,h2⟩:=h;exact ⟨s,h1,h2.1.keep hb,Yb h2.2 hb⟩
end
theorem Bs:(34:TypeId)≠146:=by decide
theorem Rs.put {t:TypeId} {w w1:World} {g n:Nat} {a b s:Value} (ht:t≠146) (X:Bx t w1 g a b) (hg:w.heap.size<=g) (h:Rs w w1 s n) (x y:Value):
 Rs w ((w1.setCell ⟨g,0,none⟩ x).setCell ⟨g,1,none⟩ y) s n:=
 ⟨⟨h.1.1,AQ h.1.2 (X.keepT ht x y)⟩,X.below h.2 hg (TL _) x y⟩
theorem Rs.out {w w0 w1:World} {n:Nat} {s:Value} (h:Rs w0 w1 s n) (hb:Below w.heap.size w w0):Rs w w1 s n:=⟨h.1.mono hb.size,Yb hb h.2⟩
theorem So {t:TypeId} {w w1:World} {g n:Nat} {a b s:Value} {p:Bool} {z:Int} (ht:t≠146) (X:Bx t w1 g a b) (hg:w.heap.size<=g) (h:Rs w w1 s n) (hp:p=decide (z<0)) (hn:z.natAbs=n) (x y:Value):
 Zs w ((w1.setCell ⟨g,0,none⟩ x).setCell ⟨g,1,none⟩ y) (.agg #[.bool p,s]) z:=by
 subst hp;subst hn;exact ⟨s,rfl,h.put ht X hg x y⟩
theorem Zs.put {t:TypeId} {w w1:World} {g:Nat} {a b v:Value} {z:Int} (ht:t≠146) (X:Bx t w1 g a b) (hg:w.heap.size<=g) (h:Zs w w1 v z) (x y:Value):
 Zs w ((w1.setCell ⟨g,0,none⟩ x).setCell ⟨g,1,none⟩ y) v z:=by
 obtain ⟨s,h1,h2⟩:=h;exact ⟨s,h1,h2.put ht X hg x y⟩
theorem Zs.parts {w w':World} {v:Value} {z:Int} (h:Zs w w' v z):∃ p A n c,v=.agg #[.bool p,.slice A n c]/\Hid (Zs w w' (.agg #[.bool p,.slice A n c]) z):=by
 have h':=h;obtain ⟨s,rfl,h2⟩:=h;obtain ⟨A,c,rfl,-,-⟩:=h2.1.slice;exact ⟨_,A,_,c,rfl,h'⟩
theorem DQ {w:World} {L n:Nat} {s:Value} (b:Bool) (hs:Nm w L s n) (hL:L<=274877906944):
 Calls Tryz.prog 214 #[.bool b,s] w fun e w'=>∃ v,e=.returned v/\Zs w w' v (sg b n):=by
 have ht:=fun W (hb:Yg w W)=>Cu (hs.keep hb) hL;have HT:=Lib.hid ht;clear ht hs
 cases b
 all_goals
  go_enter Tryz.func214,Tryz.ntmps214;go_wp2_with fail;refine (HT.out _ (by go_grown)).mono ?_;rintro e w1 ⟨v1,rfl,h1⟩;obtain ⟨A,c,rfl,-,-⟩:=h1.1.slice;have X:=(Bx.new 34 w (.bool false) (.slice none 0 0)).keep h1.2;obtain ⟨la,hla⟩:∃ la,la=(dg WB n).length:=⟨_,rfl⟩;rw [<- hla] at h1 ⊢;have hl0:la=0↔n=0:=by rw [hla];exact ⟨fun h=>(BL Aw n).1 (TN h),fun h=>by rw [h,BP];rfl⟩
  obtain ⟨c0,c1,f0,f1⟩:=X.facts;have HX:=Yh3 X (h1.out (Ya w _)) hl0;clear X h1 hl0 hla HT;go_wp2_with fail;refine Bm HX.p0 (fun W d0 d1=>by simp [results,Tryz.results214,go_sem,d0,d1]) rfl ?_;refine ⟨_,rfl,So Bs HX.p0 (TL _) HX.p1 ?_ (Cb _ _) _ _⟩;have hl0:=HX.q2
  first
  | exact (decide_eq_false (by simp [sg])).symm
  | (simp only [sg,if_true];exact decide_eq_decide.2 Yo)
theorem Pc {w:World} {L:Nat} {a:Value} {x:Int} (ha:Zn w L a x) (hL:L<=274877906944):
 Calls Tryz.prog 167 #[a] w fun e w'=>∃ v,e=.returned v/\Zs w w' v (-x):=by
 obtain ⟨b,s,n,rfl,hs,rfl⟩:=ha;have hm:=fun W (hb:Yg w W)=>DQ (!b) (hs.keep hb) hL;simp only [OM] at hm;have HM:=Lib.hid hm;clear hm hs;go_enter Tryz.func167,Tryz.ntmps167;go_wp2_with fail;refine (HM.out _ (by go_grown)).mono ?_;rintro e w2 ⟨v2,rfl,h2⟩;obtain ⟨p,A,la,c,rfl,H2⟩:=h2.parts;have X:=(Bx.new1 34 w (.cells #[.bool b,s] 34) (.bool false) (.slice none 0 0)).keep h2.below;obtain ⟨c0,c1,f0,f1⟩:=X.facts;have HX:=Yh2 X (h2.from (Yb (Ya w _) (Ya _ _)));clear X h2 H2 HM;go_wp2_with fail;refine Bm HX.p0 (fun W d0 d1=>by simp [results,Tryz.results167,go_sem,d0,d1]) rfl ?_;exact ⟨_,rfl,HX.q1.put Bs HX.p0 Yo _ _⟩
theorem Kv {b:Bool} {n:Nat} (h:n=0):BH (sg b n)=0:=by subst h;rw [Iw];rfl
theorem M9 {n:Nat} (h:n≠0):BH (sg true n)=-1:=by simp [BH,sg];omega
theorem Nf {n:Nat} (h:n≠0):BH (sg false n)=1:=by simp [BH,sg];omega
theorem Is {w:World} {L:Nat} {a:Value} {x:Int} (ha:Zn w L a x) (hL:L<=274877906944):
 Calls Tryz.prog 162 #[a] w fun e w'=>e=.returned (.int .i64 (BH x))/\Yg w w':=by
 obtain ⟨b,s,n,rfl,hs,rfl⟩:=ha;have hm:=fun W (hb:Yg w W)=>IF (hs.keep hb) hL;obtain ⟨k,hk⟩:∃ k,k=nb n:=⟨_,rfl⟩;rw [<- hk] at hm;have hk0:k=0↔n=0:=by rw [hk];exact EE
 have HM:=Lib.hid hm;clear hm hs hk;by_cases h0:n=0
 · have h1:k=0:=hk0.2 h0;have HS:=Lib.hid (Kv (b:=b) h0);clear hk0 h0;subst h1;go_enter Tryz.func162,Tryz.ntmps162;go_wp2_with fail;refine (HM.out _ (by go_grown)).mono ?_;rintro e w1 ⟨rfl,hb⟩;have HB:=Lib.hid (Yb (Ya w _) hb);clear hb HM;go_wp2_with fail;go_ret;exact ⟨by rw [HS.out];rfl,HB.out⟩
 · have h1:(k:Int)≠0:=by omega
   have HS:=Yh2 (M9 h0) (Nf h0);clear hk0 h0
   cases b
   all_goals
    go_enter Tryz.func162,Tryz.ntmps162;go_wp2_with fail;refine (HM.out _ (by go_grown)).mono ?_;rintro e w1 ⟨rfl,hb⟩;obtain ⟨c0,c1,f0,f1⟩:=((Bx.new 34 w _ s).keep hb).facts;have HB:=Lib.hid (Yb (Ya w _) hb);clear hb HM;go_wp2_with fail;go_ret
    first
    | exact ⟨by rw [HS.q1];rfl,HB.out⟩
    | exact ⟨by rw [HS.p0];rfl,HB.out⟩
end
end Go.Proofs.YtlblnmmfphiobaaGreat
