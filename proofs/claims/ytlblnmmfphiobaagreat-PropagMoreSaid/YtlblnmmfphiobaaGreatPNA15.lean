import Derived.Test.YtlblnmmfphiobaaGreatPNA14
import Derived.Lib.SliceRun
set_option maxRecDepth 100000
set_option maxHeartbeats 8000000
set_option linter.unusedVariables false
set_option linter.unusedSimpArgs false
namespace Go.Proofs.YtlblnmmfphiobaaGreat
section
open Go Go.RowKit Go.Proofs Pl
def GM (ys:List Tm) (a b:Nat):Prop:=∀ i j x y,a<=i->i<=j->j<b->ys[i]?=some x->ys[j]?=some y->x.c<=y.c
def DZ (bs e:Nat) (ys:List Tm):Prop:=∀ i j x y,i<=j->j<e->i / bs=j / bs->ys[i]?=some x->ys[j]?=some y->x.c<=y.c
theorem RP {p s r:List Tm} {a b:Nat} (hs:Up s) (ha:p.length=a) (hb:p.length+s.length=b):GM (p++(s++r)) a b:=by
 intro i j x y h1 h2 h3 hx hy;rw [List.getElem?_append_right (by omega),List.getElem?_append_left (by omega)] at hx hy;obtain ⟨l1,e1⟩:=List.getElem?_eq_some_iff.1 hx;obtain ⟨l2,e2⟩:=List.getElem?_eq_some_iff.1 hy;rw [<- e1,<- e2]
 rcases Ul (i - p.length) (j - p.length) with h | h
 · exact (UV.1 hs) _ _ l1 l2 h
 · have:i - p.length=j - p.length:=by omega
   simp only [this];exact Int.le_refl _
theorem PU {ys:List Tm} {a b:Nat} (h:GM ys a b) (hb:b<=ys.length):Up ((ys.drop a).take (b - a)):=by
 refine UV.2 fun i j hi hj hij=>?_;rw [TU,UJ] at hi hj;rw [VJ,VB,VJ,VB];exact h (a+i) (a+j) _ _ Yo Yo Yo (List.getElem?_eq_getElem Yo) (List.getElem?_eq_getElem Yo)
theorem BS {xs ys:List Tm} {a b:Nat} (h:Es xs a b ys):(∀ i,i<a∨b<=i->ys[i]?=xs[i]?)/\GM ys a b/\ys.Perm xs:=by
 obtain ⟨p,s,s',r,e1,e2,h1,h2,h3,h4⟩:=h;have hl:=h3.length_eq;refine ⟨fun i hi=>?_,by rw [e2];exact RP h4 h1 Yo,?_⟩
 · rw [e1,e2]
   rcases hi with hi | hi
   · rw [List.getElem?_append_left (by omega),List.getElem?_append_left (by omega)]
   · rw [List.getElem?_append_right (by omega),List.getElem?_append_right (by omega),List.getElem?_append_right (by omega),List.getElem?_append_right (by omega),hl]
 · rw [e1,e2];exact List.Perm.append_left p (List.Perm.append_right r h3)
theorem FL {bs k j:Nat} (h1:bs*k<=j) (h2:j<bs*k+bs):j / bs=k:=Nat.div_eq_of_lt_le (by rw [TX];exact h1) (by rw [TX,Nat.mul_succ];exact h2)
theorem PH {bs k i:Nat} (h:i / bs=k):bs*k<=i:=by rw [<- h];exact Nat.mul_div_le i bs
theorem D3 {bs k a b:Nat} {ys zs:List Tm} (h:DZ bs a ys) (ha:bs*k=a) (hb:b<=a+bs) (hs:Es ys a b zs):DZ bs b zs:=by
 obtain ⟨h1,h2,-⟩:=BS hs;intro i j x y hij hj hd hx hy
 rcases Ul j a with hja | hja
 · rw [h1 i (.inl (by omega))] at hx;rw [h1 j (.inl hja)] at hy;exact h i j x y hij hja hd hx hy
 · have hk:j / bs=k:=FL Yo Yo;have hi:=PH (hd.trans hk);exact h2 i j x y Yo hij hj hx hy
theorem Hx (bs:Nat) (ys:List Tm):DZ bs 0 ys:=fun i j x y _ h=>by omega
theorem Pm {bs n:Nat} {ys:List Tm} (h:DZ bs n ys) (hn:ys.length=n) (hb:n<=bs) (h0:0<bs):Up ys:=by
 refine UV.2 fun i j hi hj hij=>?_;exact h i j _ _ Yo Yo (by rw [Vi (by omega),Vi (by omega)]) (List.getElem?_eq_getElem hi) (List.getElem?_eq_getElem hj)
theorem Rj {w:World} {B0 g cap n a m b:Nat} {ys:List Tm} (h:Sr w B0 g cap ys) (hn:ys.length=n) (ham:a<m) (hmb:m<b) (hbn:b<=n) (h1:GM ys a m) (h2:GM ys m b) (hB:B0<=w.heap.size) (h40:n<=1099511627776):
 Calls Tryz.prog 256 #[.slice (some ⟨g,0,none⟩) n cap,.int .i64 (a:Int),.int .i64 (m:Int),.int .i64 (b:Int),.func (.func 183) #[] #[]] w fun e w'=>e=.returned (.tuple #[])/\∃ zs,Sr w' B0 g cap zs/\Es ys a b zs/\Below B0 w w':=by
 obtain ⟨p,hp⟩:∃ p,ys.take a=p:=⟨_,rfl⟩;obtain ⟨X,hX⟩:∃ X,(ys.drop a).take (m - a)=X:=⟨_,rfl⟩;obtain ⟨Y,hY⟩:∃ Y,(ys.drop m).take (b - m)=Y:=⟨_,rfl⟩;obtain ⟨r,hr⟩:∃ r,ys.drop b=r:=⟨_,rfl⟩;have lp:p.length=a:=by rw [<- hp,TU];omega
 have lX:X.length=m - a:=by rw [<- hX,TU,UJ];omega
 have lY:Y.length=b - m:=by rw [<- hY,TU,UJ];omega
 have e:ys=p++(X++(Y++r)):=by
  rw [<- hp,<- hX,<- hY,<- hr]
  have e1:(ys.drop m).take (b - m)++ys.drop b=ys.drop m:=by
   have:=Us (b - m) (ys.drop m)
   rwa [VG,show m+(b - m)=b from by omega] at this
  have e2:(ys.drop a).take (m - a)++ys.drop m=ys.drop a:=by
   have:=Us (m - a) (ys.drop a)
   rwa [VG,show a+(m - a)=m from by omega] at this
  rw [e1,e2,Us]
 have uX:Up X:=by rw [<- hX];exact PU h1 Yo
 have uY:Up Y:=by rw [<- hY];exact PU h2 Yo
 refine (TG B0 g cap n h40 (b - a) w p X Y r a m b (TL _) (e ▸ h) (e ▸ hn) lp Yo Yo Yo Yo uX uY hB).mono ?_;rintro e' w' ⟨he,Z,g1,g2,g3,g4⟩;exact ⟨he,_,g1,⟨p,X++Y,Z,r,by rw [e,TR],rfl,lp,by rw [TM];omega,g2,g3⟩,g4⟩
theorem OF {w:World} {B0 g cap n:Nat} {xs:List Tm} (h:Sr w B0 g cap xs) (hn:xs.length=n) (hB:B0<=w.heap.size) (h40:n<=1099511627776):
 Calls Tryz.prog 229 #[.slice (some ⟨g,0,none⟩) n cap,.int .i64 (n:Int),.func (.func 183) #[] #[]] w fun e w'=>e=.returned (.tuple #[])/\∃ ys,Sr w' B0 g cap ys/\ys.Perm xs/\Up ys/\Below B0 w w':=by
 have HS:=Yh3 h hn (Below.refl B0 w);clear h hn;go_enter Tryz.func229,Tryz.ntmps229;go_wp2_with fail;go_loopw [7,8] (fun z1 z2 wr=>∃ (k a b:Nat) (ys:List Tm),z1=.int .i64 (a:Int)/\z2=.int .i64 (b:Int)/\20*k=a/\b=a+20/\a<=n/\Hid (Sr wr B0 g cap ys/\ys.Perm xs/\DZ 20 a ys/\Below B0 w wr)) (fun z1 z2 _=>n - (intOf z1).toNat)
 case atStart=>exact ⟨0,0,20,xs,rfl,rfl,rfl,rfl,Un _,HS.p0,List.Perm.refl _,Hx _ _,HS.q2⟩
 case round=>
  obtain ⟨k,a,b,ys,rfl,rfl,hk,hb,han,H⟩:=hrel;have hyn:ys.length=n:=by rw [H.p1.length_eq];exact HS.p1
  by_cases hlt:b<=n
  · have d0:(b:Int)<=(n:Int):=by omega
    have d1:IntKind.i64.wrap ((b:Int)+20)=((b+20:Nat):Int):=by rw [IntKind.wrap_i64];omega
    have HY:=Lib.hid hyn;have HK:=Yh2 hk hb;clear hyn hk hb;go_wp2_with fail;refine (Rt H.p0 HY.out (TP hB H.q3.size) (by have:=HK.out;omega) hlt h40).mono ?_;rintro e w2 ⟨rfl,zs,g1,g2,g3⟩;have R:=Yh4 g1 ((BS g2).2.2.trans H.p1) (D3 (b:=b) H.p2 HK.p0 (by have:=HK.out;omega) g2) (H.q3.trans g3);clear g1 g2 g3;go_wp2_with fail;have hk:=HK.out
    case roundEnd=>exact ⟨⟨k+1,b,b+20,zs,rfl,by first | rfl | go_num | (rw [d1]),Yo,rfl,hlt,R.out⟩,by simp [intOf];omega⟩
  · have d0:¬ (b:Int)<=(n:Int):=by omega
    have HY:=Lib.hid hyn;have HK:=Yh2 hk hb;clear hyn hk hb;go_wp2_with fail;refine (Rt H.p0 HY.out (TP hB H.q3.size) han (TL _) h40).mono ?_;rintro e w2 ⟨rfl,zs,g1,g2,g3⟩;have R:=Yh4 g1 ((BS g2).2.2.trans H.p1) (D3 (b:=n) H.p2 HK.p0 (by have:=HK.out;omega) g2) (H.q3.trans g3);clear g1 g2 g3 HY HK H hlt d0;go_wp2_with fail;go_loopw [6,7,8] (fun z0 z1 z2 wr=>∃ (bs:Nat) (ys:List Tm) (u1 u2:Value),z0=.int .i64 (bs:Int)/\z1=u1/\z2=u2/\0<bs/\bs<=20+n+n/\Hid (Sr wr B0 g cap ys/\ys.Perm xs/\DZ bs n ys/\Below B0 w wr)) (fun z0 _ _ _=>n - (intOf z0).toNat)
    case atStart=>exact ⟨20,zs,_,_,rfl,rfl,rfl,Yd,Yo,R.out⟩
    case round=>
     clear R;obtain ⟨bs,ys,u1,u2,rfl,rfl,rfl,hb0,hb1,H⟩:=hrel;by_cases hlt:bs<n
     · have d0:(bs:Int)<(n:Int):=by omega
       obtain ⟨b2,hb2⟩:∃ b2,bs*2=b2:=⟨_,rfl⟩;have d1:IntKind.i64.wrap (2*(bs:Int))=(b2:Int):=by rw [IntKind.wrap_i64];omega
       have d2:IntKind.i64.wrap ((bs:Int)*2)=(b2:Int):=by rw [IntKind.wrap_i64];omega
       have hb20:b2<=n+n:=Yo;have HB2:=Lib.hid hb2;clear hb2;go_wp2_with fail;go_loopw [7,8] (fun z1 z2 wr=>∃ (k a b:Nat) (zs:List Tm),z1=.int .i64 (a:Int)/\z2=.int .i64 (b:Int)/\b2*k=a/\b=a+b2/\a<=n/\Hid (Sr wr B0 g cap zs/\zs.Perm xs/\DZ b2 a zs/\(∀ i j x y,a<=i->i<=j->j<n->i / bs=j / bs->zs[i]?=some x->zs[j]?=some y->x.c<=y.c)/\Below B0 w wr)) (fun z1 z2 _=>n - (intOf z1).toNat)
       case atStart=>exact ⟨0,0,b2,ys,rfl,rfl,by simp,by simp,Un _,H.p0,H.p1,Hx _ _,fun i j x y _ h2 h3 hd hx hy=>H.p2 i j x y h2 h3 hd hx hy,H.q3⟩
       case round=>
        clear H;obtain ⟨k,a,b,zs,rfl,rfl,hk,hb,han,H⟩:=hrel;have hyn:zs.length=n:=by rw [H.p1.length_eq];exact HS.p1
        obtain ⟨m,hm⟩:∃ m,a+bs=m:=⟨_,rfl⟩;have d3:IntKind.i64.wrap ((a:Int)+(bs:Int))=(m:Int):=by rw [IntKind.wrap_i64];omega
        have hka:bs*(2*k)=a:=by rw [<- Uf,HB2.out];exact hk
        have hkm:bs*(2*k+1)=m:=by rw [T9,hka];omega
        have hseg1:∀ e,e<=m->e<=n->GM zs a e:=fun e h1 h2 i j x y q1 q2 q3 hx hy=>H.p3 i j x y q1 q2 Yo ((FL (k:=2*k) Yo Yo).trans (FL (k:=2*k) Yo Yo).symm) hx hy;have hseg2:∀ e,e<=m+bs->e<=n->GM zs m e:=fun e h1 h2 i j x y q1 q2 q3 hx hy=>H.p3 i j x y Yo q2 Yo ((FL (k:=2*k+1) Yo Yo).trans (FL (k:=2*k+1) Yo Yo).symm) hx hy;have HY:=Yh3 hyn hseg1 hseg2;have HK:=Yh3 hk hb hm;clear hyn hseg1 hseg2 hk hb hka hkm hm;by_cases hlt2:b<=n
        · have d4:(b:Int)<=(n:Int):=by omega
          have d5:IntKind.i64.wrap ((b:Int)+(b2:Int))=((b+b2:Nat):Int):=by rw [IntKind.wrap_i64];omega
          obtain ⟨bb,hbb⟩:∃ c,b+b2=c:=⟨_,rfl⟩;rw [hbb] at d5;have HBB:=Lib.hid hbb;clear hbb;go_wp2_with fail;refine (Rj (m:=m) H.p0 HY.p0 (by have:=HK.out;omega) (by have:=HK.out;have:=HB2.out;omega) hlt2 (HY.p1 m (TL _) (by have:=HK.out;have:=HB2.out;omega)) (HY.q2 b (by have:=HK.out;have:=HB2.out;omega) hlt2) (TP hB H.q4.size) h40).mono ?_;rintro e w2 ⟨rfl,ts,g1,g2,g3⟩;have hrest:∀ i j x y,b<=i->i<=j->j<n->i / bs=j / bs->ts[i]?=some x->ts[j]?=some y->x.c<=y.c:=fun i j x y q1 q2 q3 hd hx hy=>H.p3 i j x y (by have:=HK.out;omega) q2 q3 hd (by rw [<- (BS g2).1 i (.inr q1)];exact hx) (by rw [<- (BS g2).1 j (.inr (by omega))];exact hy);have R:=Yh5 g1 ((BS g2).2.2.trans H.p1) (D3 (b:=b) H.p2 HK.p0 (by have:=HK.out;omega) g2) hrest (H.q4.trans g3);clear g1 g2 g3 hrest;go_wp2_with fail;have hk:=HK.out;have hbb:=HBB.out;have hb2:=HB2.out
          case roundEnd=>exact ⟨⟨k+1,b,bb,ts,rfl,rfl,by rw [T9];omega,Yo,hlt2,R.out⟩,by simp [intOf];omega⟩
        · have d4:¬ (b:Int)<=(n:Int):=by omega
          by_cases hm:m<n
          · have d5:(m:Int)<(n:Int):=by omega
            go_wp2_with fail;refine (Rj (m:=m) (b:=n) H.p0 HY.p0 (by have:=HK.out;omega) hm (TL _) (HY.p1 m (TL _) Yo) (HY.q2 n (by have:=HK.out;have:=HB2.out;omega) (TL _)) (TP hB H.q4.size) h40).mono ?_;rintro e w2 ⟨rfl,ts,g1,g2,g3⟩;have R:=Yh4 g1 ((BS g2).2.2.trans H.p1) (D3 (b:=n) H.p2 HK.p0 (by have:=HK.out;omega) g2) (H.q4.trans g3);clear g1 g2 g3;go_wp2_with fail;have hk:=HK.out;have hb2:=HB2.out
            case roundEnd=>exact ⟨⟨b2,ts,_,_,rfl,rfl,rfl,Yo,Yo,R.out⟩,by simp [intOf];omega⟩
          · have d5:¬ (m:Int)<(n:Int):=by omega
            have hR:Hid (DZ b2 n zs):=by
             intro i j x y hij hj hd hx hy
             rcases Ul j a with hja | hja
             · exact H.p2 i j x y hij hja hd hx hy
             · have hk2:j / b2=k:=FL (by have:=HK.out;omega) (by have:=HK.out;omega);have hi:=PH (hd.trans hk2);exact HY.p1 n Yo (TL _) i j x y (by have:=HK.out;omega) hij hj hx hy
            go_wp2_with fail;have hk:=HK.out;have hb2:=HB2.out
            case roundEnd=>exact ⟨⟨b2,zs,_,_,rfl,rfl,rfl,Yo,Yo,H.p0,H.p1,hR.out,H.q4⟩,by simp [intOf];omega⟩
     · have d0:¬ (bs:Int)<(n:Int):=by omega
       have hup:=Pm H.p2 (by rw [H.p1.length_eq];exact HS.p1) Yo hb0;have HU:=Lib.hid hup;clear hup;go_wp2_with fail;go_end0;exact ⟨rfl,ys,H.p0,H.p1,HU.out,H.q3⟩
theorem Q5 {w:World} {B0 g cap n:Nat} {xs:List Tm} (h:Sr w B0 g cap xs) (hn:xs.length=n) (hB:B0<=w.heap.size) (h40:n<=1099511627776):
 Calls Tryz.prog 182 #[.slice (some ⟨g,0,none⟩) n cap,.func (.func 183) #[] #[]] w fun e w'=>e=.returned (.tuple #[])/\∃ ys,Sr w' B0 g cap ys/\ys.Perm xs/\Up ys/\Below B0 w w':=by
 have HS:=Yh2 h hn;clear h hn;go_enter Tryz.func182,Tryz.ntmps182;go_wp2_with fail;refine (OF HS.p0 HS.q1 hB h40).mono ?_;rintro e w2 ⟨rfl,h⟩;have R:=Lib.hid h;clear h;go_wp2_with fail;go_end0;exact ⟨rfl,R.out⟩
theorem Eh:(Tryz.prog.info? 63).map (fun i=>(i.zero,i.size,i.bytes))=some (some (.agg #[.int .i64 0,.bool false,.slice none 0 0,.slice none 0 0]),4,64):=by kernel_rfl
theorem D8:(146:TypeId)≠63:=by decide
theorem Fr {xs:List Tm}:∀ u∈AS xs,u.oneCell'=true:=by
 induction xs with
 | nil=>intro u hu;simp [AS] at hu
 | cons x xs ih=>
  intro u hu;simp only [AS,Ue] at hu
  rcases hu with rfl | rfl | rfl | rfl | hu
  · rfl
  · rfl
  · rfl
  · rfl
  · exact ih u hu
theorem Kp (xs:List Tm) (k:Nat):(AS xs).take (k*4)=AS (xs.take k):=by
 induction xs generalizing k with
 | nil=>simp [AS]
 | cons x xs ih=>
  cases k with
  | zero=>simp [AS]
  | succ k=>
   rw [show (k+1)*4=k*4+4 from by omega,List.take_succ_cons];show _::_::_::_::(AS xs).take (k*4)=_;rw [ih];rfl
def To (w:World) (B0:Nat) (v:Value) (xs:List Tm):Prop:=w.ownsRow B0 63 4 v xs.length (AS xs)
section
variable {w w':World} {B0 g cap n:Nat} {v:Value} {xs:List Tm} {A:Option Addr}
theorem To.nil (w:World) (B0:Nat):To w B0 (.slice none 0 0) []:=World.ownsRow_nil _ _ _ _
theorem To.sr (h:To w B0 v xs) (h0:0<xs.length):∃ g cap,v=.slice (some ⟨g,0,none⟩) xs.length cap/\Sr w B0 g cap xs:=by
 obtain ⟨g,cap,e,-⟩:=CG h h0;subst e;exact ⟨g,cap,rfl,h⟩
theorem Sr.to (h:Sr w B0 g cap xs):To w B0 (.slice (some ⟨g,0,none⟩) xs.length cap) xs:=h
theorem To.shape (h:To w B0 v xs):∃ A cap,v=.slice A xs.length cap/\xs.length<=maxLen:=Fh h
theorem To.keep (h:To w B0 v xs) (hb:Below w.heap.size w w'):To w' B0 v xs:=AQ h (Ak.below hb)
theorem To.mono {B1:Nat} (h:To w B0 v xs) (hB:B1<=B0):To w B1 v xs:=CN h hB
theorem To.trd (h:To w B0 v xs):∃ A cap,v=.slice A xs.length cap/\xs.length<=cap/\cap<=maxLen/\(A=none->cap=0)/\TRd w A (AS xs):=by
 rcases TQ xs.length with h0 | h0
 · obtain rfl:=TN h0
   rcases h.2 with ⟨hv,-⟩ | ⟨g,cap,cur,hv,hb,hh,h1,h2,h3,h4⟩
   · exact ⟨none,0,hv,TL _,Un _,fun _=>rfl,.inl rfl⟩
   · exact ⟨_,cap,hv,Yo,h2,by simp,.inl rfl⟩
 · obtain ⟨g,cap,e,h1,h2,h3,h4,h5,h6⟩:=CG h h0;exact ⟨_,cap,e,h2,h3,by simp,.inr ⟨g,0,rfl,h4,fun i u hi=>by rw [Vw];exact h5 i u hi⟩⟩
end
def P5:List Value->Nat->List Value->List Value
 | xs,_,[]=>xs
 | xs,o,u::us=>P5 (xs.set o u) (o+1) us
theorem MY (us:List Value):∀ (xs:List Value) (o k:Nat),k<=o->(P5 xs o us).take k=xs.take k:=by
 induction us with
 | nil=>intro xs o k _;rfl
 | cons u us ih=>
  intro xs o k hk;rw [P5,ih _ _ _ (by omega),List.take_set_of_le hk]
theorem IP {B:Nat} {t:TypeId} {size n cap g:Nat} (us:List Value):∀ {w:World} {xs:List Value} (o:Nat),w.ownsRow B t size (.slice (some ⟨g,0,none⟩) n cap) n xs->(w.setCells g o us).ownsRow B t size (.slice (some ⟨g,0,none⟩) n cap) n (P5 xs o us):=by
 induction us with
 | nil=>intro w xs o h;exact h
 | cons u us ih=>intro w xs o h;exact ih (o+1) (AT h u)
theorem GB {B g:Nat} {w0:World} (us:List Value) (hg:B<=g):∀ {w:World} (o:Nat),Below B w0 w->Below B w0 (w.setCells g o us):=by
 induction us with
 | nil=>intro w o h;exact h
 | cons u us ih=>intro w o h;exact ih (o+1) (h.setCell hg u)
theorem F3 (w:World) (b o n c:Nat) (hn:0<n) (hc:∀ j,j<n*4->(w.cell? ⟨b,o+j,none⟩).isSome=true) (hf:∀ j,j<n*4->w.frozen? ⟨b,o+j,none⟩=false):
 ∃ us:List Value,∀ ty,(Builtin.clear_ #[54] ty #[.slice (some ⟨b,o,none⟩) n c]).run Tryz.prog w=.ok (.tuple #[]) (w.setCells b o us):=by
 obtain ⟨us,hus⟩:∃ us,(Builtin.zeroCells (Value.agg #[.int .i64 0,.bool false,.slice none 0 0,.slice none 0 0]).cells n).toList=us:=⟨_,rfl⟩;have hz:(Value.agg #[.int .i64 0,.bool false,.slice none 0 0,.slice none 0 0]).cells=#[.int .i64 0,.bool false,.slice none 0 0,.slice none 0 0]:=rfl;have hl:us.length=n*4:=by rw [<- hus];simp [Builtin.zeroCells,hz]
 have h1:∀ u∈us,u.oneCell'=true:=by
  intro u hu;rw [<- hus] at hu;simp only [Builtin.zeroCells,Array.toList_map,UP] at hu;obtain ⟨i,-,rfl⟩:=hu;rw [hz];have:i % (#[Value.int .i64 0,.bool false,.slice none 0 0,.slice none 0 0]:Array Value).size<4:=UB _ Yd;generalize i % _=j at this
  match j,this with
  | 0,_=>rfl
  | 1,_=>rfl
  | 2,_=>rfl
  | 3,_=>rfl
 have hst:=run_storeCells_cells (P:=Tryz.prog) b o us 0 w (by rw [hl];simpa using hc) (by rw [hl];simpa using hf) h1;simp only [UE] at hst;obtain ⟨m,rfl⟩:∃ m,n=m+1:=⟨n - 1,Yo⟩;have hv:∀ w,(zeroValue 63).run Tryz.prog w=.ok (.agg #[.int .i64 0,.bool false,.slice none 0 0,.slice none 0 0]) w:=Tryz.zeroValue63;refine ⟨us,fun ty=>?_⟩;simp [Builtin.clear_,run_underlying Tryz.underlying54,hv,hus,hst]
theorem QP {w:World} {L:Nat} {v:Value} {xs:List Tm} (h:Tl w L v xs) (hlen:xs.length<=1099511627776):
 Calls Tryz.prog 181 #[v] w fun e w'=>∃ u,e=.returned u/\To w' w.heap.size u xs/\Yg w w':=by
 obtain ⟨A,c,rfl,q1,q2,q3,q4,-⟩:=h
 cases A with
 | none=>
  have h0:xs=[]:=by
   have:=q3 rfl;exact TN Yo
  subst h0;have hnil:=fun W=>Lib.run_eql_slice_nil (P:=Tryz.prog) W 54 63 none 0 c 0 0 Tryz.underlying54;clear q1 q2 q3 q4 hlen;go_enter Tryz.func181,Tryz.ntmps181;go_wp2_with fail;go_ret;exact ⟨_,rfl,To.nil _ _,Below.refl _ _⟩
 | some ad=>
  obtain ⟨i0,hi0,hz0,hz1,hz2⟩:=info_parts Eh
  have hcells:∀ j u,(AS xs)[j]?=some u->w.cell? (ad.add j)=some u:=fun j u hj=>by
   rcases q4 with h | ⟨g,o,e,hg,hc⟩
   · rw [h] at hj;simp at hj
   · injection e with e
     subst e;have e:(⟨g,o,none⟩:Addr).add j=⟨g,o+j,none⟩:=by unfold Addr.add;split<;>simp_all
     rw [e];exact hc j u hj
  have H1:=Lib.hid hcells;clear hcells q4;have hnil:=fun W=>Lib.run_eql_slice_nil (P:=Tryz.prog) W 54 63 (some ad) xs.length c 0 0 Tryz.underlying54;go_enter Tryz.func181,Tryz.ntmps181;go_wp2_with (at_builtin;refine wpList_append_own _ rfl (.tmp 5) (.tmp 6) 54 rfl w.heap.size 63 i0 _ 4 64 Tryz.underlying54 hi0 hz0 hz1 hz2 rfl Yd _ 0 [] rfl ?ho ad xs.length c (AS xs) rfl (D1 xs) ?hc Fr (by unfold maxLen;omega) Yo (by simp) ?_)
  case ho=>exact World.ownsRow_made (base:=w.heap.size) (e:=63) (size:=4) w #[] 0 (TL _) Yd rfl
  case hc=>exact fun j u hj=>(Below.cell ((Below.refl w.heap.size w).alloc (TL _) _) (JL (H1.out j u hj))).trans (H1.out j u hj)
  · intro v w1 hown hg _;go_wp2_with fail;go_ret;refine ⟨v,rfl,?_,((Below.refl _ _).alloc (TL _) _).grown hg (by simp) ?_⟩
    · unfold To;simpa using hown
    · intro k hk;simp [Value.ownBlock] at hk;omega
theorem Qr.keepT {w0 w w':World} {v:Value} {q:Rat} (h:Qr w0 w v q) (k:Ak 146 w w') (hb:Below w0.heap.size w0 w'):Qr w0 w' v q:=by
 obtain ⟨s,d,e,h1,h2⟩:=h;exact ⟨s,d,e,⟨⟨h1.1.1,AQ h1.1.2 k⟩,hb⟩,⟨⟨h2.1.1,AQ h2.1.2 k⟩,hb⟩⟩
theorem BQ {w:World} {B g n cap:Nat} {xs:List Value} (h:w.ownsRow B 63 4 (.slice (some ⟨g,0,none⟩) n cap) n xs) (o:Nat) (u:Value):Ak 146 w (w.setCell ⟨g,o,none⟩ u):=by
 obtain ⟨cs,e,m,hh,he⟩:=G9 h g rfl;exact Ak.setCell hh (by rw [he];exact Ne.symm D8) rfl u
theorem Sr.keepT4 {w:World} {B g cap:Nat} {xs:List Tm} (h:Sr w B g cap xs) (o0 o1 o2 o3:Nat) (u0 u1 u2 u3:Value):Ak 146 w ((((w.setCell ⟨g,o0,none⟩ u0).setCell ⟨g,o1,none⟩ u1).setCell ⟨g,o2,none⟩ u2).setCell ⟨g,o3,none⟩ u3):=
 (((BQ h o0 u0).trans (BQ (AT h (j:=o0) u0) o1 u1)).trans (BQ (AT (AT h (j:=o0) u0) (j:=o1) u1) o2 u2)).trans (BQ (AT (AT (AT h (j:=o0) u0) (j:=o1) u1) (j:=o2) u2) o3 u3)
theorem KW {B g n cap:Nat} (us:List Value):∀ {w:World} {xs:List Value} (o:Nat),w.ownsRow B 63 4 (.slice (some ⟨g,0,none⟩) n cap) n xs->Ak 146 w (w.setCells g o us):=by
 induction us with
 | nil=>intro w xs o h;exact Ak.refl _ _
 | cons u us ih=>intro w xs o h;exact (BQ h o u).trans (ih (o+1) (AT h u))
def Vr (w0 w:World) (v:Value) (xs:List Tm):Prop:=To w w0.heap.size v xs/\(∀ x∈xs,Qr w0 w x.num x.q)/\Yg w0 w
theorem Vr.keep {w0 w w':World} {v:Value} {xs:List Tm} (h:Vr w0 w v xs) (hb:Below w.heap.size w w'):Vr w0 w' v xs:=⟨h.1.keep hb,fun x hx=>(h.2.1 x hx).keep hb,Yb h.2.2 hb⟩
theorem Vr.from {w0 w1 w:World} {v:Value} {xs:List Tm} (h:Vr w1 w v xs) (hb:Below w0.heap.size w0 w1):Vr w0 w v xs:=⟨h.1.mono hb.size,fun x hx=>(h.2.1 x hx).from hb,Yb hb h.2.2⟩
theorem Om {w:World} {B:Nat} {t:TypeId} {size n c:Nat} {A:Option Addr} {xs:List Value} (h:w.ownsRow B t size (.slice A n c) n xs) {k:Nat} (hk:k<=n):w.ownsRow B t size (.slice A k c) k (xs.take (k*size)):=by
 have hm:=TW size hk;refine ⟨by rw [TU,h.1];omega,?_⟩
 rcases h.2 with ⟨hv,h0⟩ | ⟨g,cap,cur,hv,hb,hh,h1,h2,h3,h4⟩
 · injection hv with hv hn hc
   obtain rfl:k=0:=by omega
   exact .inl ⟨by rw [hv,hc],rfl⟩
 · injection hv with hv hn hc
   refine .inr ⟨g,c,cur,by rw [hv],hb,hh,Yo,Yo,by rw [hc];exact h3,?_⟩;rw [<- h4,List.take_take,U8 hm]
theorem RG {w:World} {L:Nat} {x:Tm} {r:Bool} (hx:Qv w L x.num x.q) (hL:L<=137438953472) (hr:decide (x.q=0)=r):
 Calls Tryz.prog 186 #[.agg #[.int .i64 x.c,.bool x.b,.slice x.A x.l x.k,.slice x.B x.m x.d]] w fun e w'=>e=.returned (.bool r)/\Yg w w':=by
 obtain ⟨z,hz⟩:∃ z,ET x.q=z:=⟨_,rfl⟩
 have e1:(z==0)=r:=by
  rw [<- hr,<- hz];by_cases h:x.q=0
  · rw [decide_eq_true h,(DR _).2 h];rfl
  · rw [decide_eq_false h];exact beq_eq_false_iff_ne.2 (fun e=>h ((DR _).1 e))
 have S0:=Yh3 hx hL hz;clear hx hL hr hz;go_enter Tryz.func186,Tryz.ntmps186;go_upto_region 1 with (fail)
 have X:=(B4.new 63 w (.int .i64 x.c) (.bool x.b) (.slice x.A x.l x.k) (.slice x.B x.m x.d)).facts;have S:=Yh3 (S0.p0.keep (Ya w (.cells #[.int .i64 x.c,.bool x.b,.slice x.A x.l x.k,.slice x.B x.m x.d] 63))) (Ya w (.cells #[.int .i64 x.c,.bool x.b,.slice x.A x.l x.k,.slice x.B x.m x.d] 63)) S0.q1;obtain ⟨x0,x1,x2,x3⟩:=X;generalize w.alloc _=W at x0 x1 x2 x3 S ⊢;clear S0;go_wp2_with fail;refine (DP S.p0 S.p2).mono ?_;rintro e w1 ⟨rfl,hb⟩;rw [S.q3];have S2:=Lib.hid (Yb S.p1 hb);clear hb S x0 x1 x2 x3;go_wp2_with fail;go_ret;exact ⟨rfl,S2.out⟩
theorem TH {w0 w:World} {L:Nat} {v:Value} {xs:List Tm} (h:Vr w0 w v xs) (hs:∀ x∈xs,Sz L x.q) (hL:L<=137438953472) (h40:xs.length<=1099511627776):
 Calls Tryz.prog 231 #[v,.func (.func 186) #[] #[]] w fun e w'=>∃ r:Int,e=.returned (.int .i64 r)/\Yg w w'/\((r=-1/\∀ x∈xs,x.q≠0)∨∃ i:Nat,r=(i:Int)/\i<xs.length/\(∀ k x,k<i->xs[k]?=some x->x.q≠0)/\∀ x,xs[i]?=some x->x.q=0):=by
 obtain ⟨A,cap,rfl,q1,q2,q3,q4⟩:=h.1.trd;obtain ⟨n,hn⟩:∃ n,xs.length=n:=⟨_,rfl⟩;rw [hn] at h40 ⊢;have HS:=Yh3 q4 (fun x hx=>(h.2.1 x hx).qv (hs x hx)) hn;have HL:=Yh2 hs hL;clear h hs hL q1 q2 q3 q4 hn;go_enter Tryz.func231,Tryz.ntmps231;go_wp2_with fail;go_loopw [8] (fun z wr=>∃ i:Nat,z=.int .i64 (i:Int)/\i<=n/\Hid ((∀ k x,k<i->xs[k]?=some x->x.q≠0)/\Yg w wr)) (fun z _=>n - (intOf z).toNat)
 case atStart=>exact ⟨0,rfl,Un _,fun k x hk=>by omega,Below.refl _ _⟩
 case round=>
  obtain ⟨i,rfl,hi,H⟩:=hrel;by_cases hlt:i<n
  · have hix:i<xs.length:=by rw [HS.q2];exact hlt
    obtain ⟨x,hx⟩:∃ x,xs[i]?=some x:=⟨_,List.getElem?_eq_getElem hix⟩;obtain ⟨g,off,rfl,hgl,c0,c1,c2,c3⟩:=(HS.p0.keep H.q1).at_ hx;have HQ:=Lib.hid ((HS.p1 x (TO hx)).keep H.q1);have HX:=Lib.hid hx;obtain ⟨r,hr⟩:∃ r,decide (x.q=0)=r:=⟨_,rfl⟩;have HR:=Lib.hid hr;clear hx hgl hix hr;go_wp2_with fail;refine (RG HQ.out HL.q1 HR.out).mono ?_;rintro e w2 ⟨rfl,hb⟩;have R:=Lib.hid (Yb H.q1 hb);clear hb c0 c1 c2 c3
    cases r with
    | true=>
     go_wp2_with fail;go_ret;exact ⟨_,rfl,R.out,.inr ⟨i,rfl,hlt,H.p0,fun y hy=>by rw [HX.out] at hy;injection hy with hy;subst hy;exact of_decide_eq_true HR.out⟩⟩
    | false=>
     go_wp2_with fail;go_roundw
     case rel=>
      refine ⟨i+1,by go_num,Yo,fun k y hk hy=>?_,R.out⟩;by_cases e:k=i
      · subst e;rw [HX.out] at hy;injection hy with hy;subst hy;exact of_decide_eq_false HR.out
      · exact H.p0 k y Yo hy
     case measure=>simp [intOf];omega
  · have hall:∀ x∈xs,x.q≠0:=fun x hx=>by
     obtain ⟨k,hk,e⟩:=Vb hx;exact H.p0 k x (by have:=HS.q2;omega) (by rw [List.getElem?_eq_getElem hk,e])
    have HA:=Lib.hid hall;clear hall;go_wp2_with fail;go_ret;exact ⟨_,rfl,H.q1,.inl ⟨rfl,HA.out⟩⟩
def nzT (xs:List Tm):List Tm:=xs.filter fun x=>decide (x.q≠0)
theorem OD {xs:List Tm} (h:∀ x∈xs,x.q≠0):nzT xs=xs:=List.filter_eq_self.2 fun x hx=>decide_eq_true (h x hx)
def F6 (xs:List Tm) (i j:Nat) (ys:List Tm):Prop:=ys.length=xs.length/\i<j/\j<=xs.length/\ys.take i=nzT (xs.take j)/\ys.drop j=xs.drop j
theorem J3 {xs:List Tm} {i:Nat} (hi:i<xs.length) (h1:∀ k x,k<i->xs[k]?=some x->x.q≠0) (h2:∀ x,xs[i]?=some x->x.q=0):F6 xs i (i+1) xs:=by
 refine ⟨rfl,Nat.lt_succ_self _,hi,?_,rfl⟩;have hx:=h2 _ (List.getElem?_eq_getElem hi)
 have hn:nzT (xs.take i)=xs.take i:=OD fun x hx=>by
  obtain ⟨k,hk,e⟩:=Vb hx;rw [TU] at hk;rw [VJ] at e;exact h1 k x Yo (by rw [List.getElem?_eq_getElem (by omega),e])
 rw [Uc hi];unfold nzT at hn ⊢;rw [List.filter_append,hn];simp [hx]
theorem P4 {xs ys:List Tm} {i j:Nat} (h:F6 xs i j ys) (hj:j<xs.length):ys[j]?=some xs[j]:=by
 have h1:(ys.drop j)[0]?=(xs.drop j)[0]?:=by rw [h.2.2.2.2]
 rw [List.getElem?_drop,List.getElem?_drop,UE,List.getElem?_eq_getElem hj] at h1;exact h1
theorem MG {xs ys:List Tm} {i j:Nat} (h:F6 xs i j ys) (hj:j<xs.length) (hx:xs[j].q=0):F6 xs i (j+1) ys:=by
 obtain ⟨h1,h2,h3,h4,h5⟩:=h;refine ⟨h1,Yo,hj,?_,?_⟩
 · rw [h4,Uc hj];unfold nzT;rw [List.filter_append];simp [hx]
 · rw [<- VG,<- VG (l:=xs),h5]
theorem Np {xs ys:List Tm} {i j:Nat} (h:F6 xs i j ys) (hj:j<xs.length) (hx:xs[j].q≠0):F6 xs (i+1) (j+1) (ys.set i xs[j]):=by
 obtain ⟨h1,h2,h3,h4,h5⟩:=h;refine ⟨by rw [Uh];exact h1,Yo,hj,?_,?_⟩
 · rw [Uc (by rw [Uh];omega),List.take_set_of_le (TL _),h4,List.getElem_set_self,Uc hj];unfold nzT;rw [List.filter_append];simp [hx]
 · rw [List.drop_set_of_lt (by omega),<- VG,<- VG (l:=xs),h5]
theorem RZ {xs ys:List Tm} {i j:Nat} {x:Tm} (h:F6 xs i j ys) (hx:xs[j]?=some x):ys[j]?=some x/\(x.q=0->F6 xs i (j+1) ys)/\(x.q≠0->F6 xs (i+1) (j+1) (ys.set i x)):=by
 obtain ⟨hj,rfl⟩:=List.getElem?_eq_some_iff.1 hx;exact ⟨P4 h hj,MG h hj,Np h hj⟩
theorem Ou {xs ys:List Tm} {i:Nat} (h:F6 xs i xs.length ys):ys.take i=nzT xs:=by
 have:=h.2.2.2.1
 rwa [VV] at this
theorem TD {w0 w:World} {L:Nat} {v:Value} {xs:List Tm} (h:Vr w0 w v xs) (hs:∀ x∈xs,Sz L x.q) (hL:L<=137438953472) (h40:xs.length<=1099511627776):
 Calls Tryz.prog 185 #[v,.func (.func 186) #[] #[]] w fun e w'=>∃ u,e=.returned u/\Vr w0 w' u (nzT xs):=by
 have hidx:=TH h hs hL h40;have h0:w0.heap.size<=w.heap.size:=h.2.2.size
 rcases TQ xs.length with hz | hz
 · obtain rfl:=TN hz;obtain ⟨A,cap,rfl,q1,q2,q3,q4⟩:=h.1.trd;have HI:=Lib.hid hidx;have HV:=Lib.hid h;clear h hidx hs hL q1 q2 q3 q4;go_enter Tryz.func185,Tryz.ntmps185;go_wp2_with fail;refine HI.out.mono ?_;rintro e w2 ⟨r,rfl,hb,h⟩
   have hr:r=-1:=by
    rcases h with ⟨h,-⟩ | ⟨i,-,h,-⟩
    · exact h
    · simp at h
   subst hr;have R:=Lib.hid hb;clear hb h;go_wp2_with fail;go_ret;exact ⟨_,rfl,HV.out.keep R.out⟩
 obtain ⟨g,cap,rfl,hsr⟩:=h.1.sr hz;obtain ⟨n,hn⟩:∃ n,xs.length=n:=⟨_,rfl⟩;obtain ⟨hg0,hc1,hc2,-⟩:=hsr.shape hz;rw [hn] at hidx h40 hz hc1 ⊢;have HS:=Yh5 h hsr hs hL hn;have HI:=Lib.hid hidx;clear h hsr hs hL hn hidx;go_enter Tryz.func185,Tryz.ntmps185;go_wp2_with fail;refine HI.out.mono ?_;rintro e w2 ⟨r,rfl,hb,h⟩
 rcases h with ⟨rfl,h⟩ | ⟨i,rfl,h1,h2,h3⟩
 · have R:=Yh2 hb (OD h);clear hb h;go_wp2_with fail;go_ret;rw [R.q1];refine ⟨_,rfl,?_⟩;have:=HS.p0.keep R.p0
   rwa [HS.q4] at this
 · have hd:=J3 (xs:=xs) (by rw [HS.q4];exact h1) h2 h3;have R:=Yh4 (HS.p1.keep hb) hd (fun x hx=>(HS.p0.2.1 x hx).keep hb) (Yb HS.p0.2.2 hb);have e1:((i:Int)==-1)=false:=beq_eq_false_iff_ne.2 Yo;have hin:(i:Int)<(n:Int):=Yo;clear hb hd h2 h3 HI;go_wp2_with fail;clear e1;go_loopw [5,6] (fun z1 z2 wr=>∃ (i j:Nat) (ys:List Tm),z1=.int .i64 (i:Int)/\z2=.int .i64 (j:Int)/\i<j/\j<=n/\Hid (Sr wr w0.heap.size g cap ys/\F6 xs i j ys/\(∀ x∈xs,Qr w0 wr x.num x.q)/\Yg w0 wr)) (fun _ z2 _=>n - (intOf z2).toNat)
   case atStart=>exact ⟨i,i+1,xs,rfl,by go_num,Yo,Yo,R.out⟩
   case round=>
    clear R h1 hin;obtain ⟨i,j,ys,rfl,rfl,hij,hjn,H⟩:=hrel;by_cases hlt:j<n
    · have hjx:j<xs.length:=by rw [HS.q4];exact hlt
      obtain ⟨x,hx⟩:∃ x,xs[j]?=some x:=⟨_,List.getElem?_eq_getElem hjx⟩;have hy:=RZ H.p1 hx;obtain ⟨E1,-,hg,-⟩:=H.p0.at_ hy.1;obtain ⟨c0,c1,c2,c3⟩:=E1;have d0:(j:Int)<(n:Int):=Yo;have d1:(i:Int)<(n:Int):=Yo;obtain ⟨r,hr⟩:∃ r,decide (x.q=0)=r:=⟨_,rfl⟩;have HX:=Yh3 hy (TO hx) hr;clear hy hx hr hjx;go_upto_region 8 with (fail)
      have X:=B4.new 63 wr (.int .i64 x.c) (.bool x.b) (.slice x.A x.l x.k) (.slice x.B x.m x.d);have hal:=Ya wr (.cells #[.int .i64 x.c,.bool x.b,.slice x.A x.l x.k,.slice x.B x.m x.d] 63);have T:=Yh5 (H.p0.keep hal) H.p1 (fun y hy=>(H.p2 y hy).keep hal) (Yb H.q3 hal) X;obtain ⟨g7,hg7⟩:∃ k,k=wr.heap.size:=⟨_,rfl⟩;have hgg:g≠g7:=by rw [hg7];exact Nat.ne_of_lt hg
      rw [<- hg7] at T ⊢;generalize wr.alloc _=W1 at T ⊢;clear X hal hg7 hg c0 c1 c2 c3 H;obtain ⟨x0,x1,x2,x3⟩:=T.q4.facts;go_wp2_with fail;refine (RG (L:=L) ((T.p2 x HX.p1).qv (HS.p2 x HX.p1)) HS.p3 HX.q2).mono ?_;rintro e w3 ⟨rfl,hb⟩;have T2:=Yh5 (T.p0.keep hb) T.p1 (fun y hy=>(T.p2 y hy).keep hb) (Yb T.p3 hb) (T.q4.keep hb);clear hb T x0 x1 x2 x3;obtain ⟨x0,x1,x2,x3⟩:=T2.q4.facts
      cases r with
      | true=>
       go_wp2_with fail
       case roundEnd=>exact ⟨⟨i,j+1,ys,rfl,by go_num,Yo,Yo,T2.p0,HX.p0.2.1 (of_decide_eq_true HX.q2),T2.p2,T2.p3⟩,by simp [intOf];omega⟩
      | false=>
       have hil:i<ys.length:=by rw [T2.p1.1,HS.q4];omega
       obtain ⟨yi,hyi⟩:∃ y,ys[i]?=some y:=⟨_,List.getElem?_eq_getElem hil⟩;obtain ⟨⟨a0,a1,a2,a3⟩,-,-,hfr⟩:=T2.p0.at_ hyi;have z0:=hfr (i*4);have z1:=hfr (i*4+1);have z2:=hfr (i*4+2);have z3:=hfr (i*4+3)
       have hgo:Hid (Sr (((((w3).setCell ⟨g,i*4,none⟩ (.int .i64 x.c)).setCell ⟨g,i*4+1,none⟩ (.bool x.b)).setCell ⟨g,i*4+2,none⟩ (.slice x.A x.l x.k)).setCell ⟨g,i*4+3,none⟩ (.slice x.B x.m x.d)) w0.heap.size g cap (ys.set i x)/\F6 xs (i+1) (j+1) (ys.set i x)/\(∀ y∈xs,Qr w0 (((((w3).setCell ⟨g,i*4,none⟩ (.int .i64 x.c)).setCell ⟨g,i*4+1,none⟩ (.bool x.b)).setCell ⟨g,i*4+2,none⟩ (.slice x.A x.l x.k)).setCell ⟨g,i*4+3,none⟩ (.slice x.B x.m x.d)) y.num y.q)/\Yg w0 (((((w3).setCell ⟨g,i*4,none⟩ (.int .i64 x.c)).setCell ⟨g,i*4+1,none⟩ (.bool x.b)).setCell ⟨g,i*4+2,none⟩ (.slice x.A x.l x.k)).setCell ⟨g,i*4+3,none⟩ (.slice x.B x.m x.d))):=
        ⟨T2.p0.put hil x,HX.p0.2.2 (of_decide_eq_false HX.q2),fun y hy=>(T2.p2 y hy).keepT (T2.p0.keepT4 _ _ _ _ _ _ _ _) (By T2.p3 hg0 _ _ _ _ _ _ _ _),By T2.p3 hg0 _ _ _ _ _ _ _ _⟩
       clear hil hyi hfr;go_wp2_with fail
       case roundEnd=>exact ⟨⟨i+1,j+1,ys.set i x,by go_num,by go_num,Yo,Yo,hgo.out⟩,by simp [intOf];omega⟩
    · obtain rfl:j=n:=by omega
      have d0:¬ (j:Int)<(j:Int):=Yo;have hyl:ys.length=j:=by rw [H.p1.1];exact HS.q4
      obtain ⟨-,-,-,-,hcs,hfr⟩:=H.p0.shape Yo;have hlen:=D1 ys;rw [hyl] at hlen;obtain ⟨us,hcl⟩:=F3 wr g (i*4) (j - i) (cap - i) Yo (fun k hk=>by rw [hcs (i*4+k) _ (List.getElem?_eq_getElem (by omega))];rfl) (fun k hk=>hfr _);have hend:ys.take i=nzT xs:=Ou (by have:=H.p1;rwa [<- HS.q4] at this);have hil:(nzT xs).length=i:=by rw [<- hend,TU];omega
      have hfin:Hid (Vr w0 (wr.setCells g (i*4) us) (.slice (some ⟨g,0,none⟩) i cap) (nzT xs)):=by
       have hb:=GB us hg0 (i*4) H.q3;have hk:=KW us (i*4) H.p0;refine ⟨?_,fun y hy=>(H.p2 y ((VS.1 hy).1)).keepT hk hb,hb⟩;have h1:=Om (IP us (i*4) H.p0) (k:=i) Yo;rw [MY us _ _ _ (TL _),Kp,hend] at h1;unfold To;rw [hil];exact h1
      have hd2:(i:Int)<=(j:Int):=Yo;have hd3:i<=cap:=Yo;have hd4:j<=cap:=Yo;have hd5:i≠cap:=Yo;have hd6:(i:Int)<=(cap:Int):=Yo;clear hcs hfr hlen hend hil hyl;go_wp2_with fail;go_ret;exact ⟨_,rfl,hfin.out⟩
end
end Go.Proofs.YtlblnmmfphiobaaGreat
