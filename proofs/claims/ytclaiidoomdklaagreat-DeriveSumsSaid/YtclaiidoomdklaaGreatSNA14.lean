import Derived.Test.YtclaiidoomdklaaGreatSNA13
import Derived.Lib.SliceRun
set_option maxRecDepth 100000
set_option maxHeartbeats 8000000
set_option linter.unusedVariables false
set_option linter.unusedSimpArgs false
namespace Go.Proofs.YtclaiidoomdklaaGreat
section
section
open Go Go.RowKit Go.Proofs Pl
def SegUp (ys:List Tm) (a b:Nat):Prop:=∀ i j x y,a<=i->i<=j->j<b->ys[i]?=some x->ys[j]?=some y->x.c<=y.c
def RunsUp (bs e:Nat) (ys:List Tm):Prop:=∀ i j x y,i<=j->j<e->i / bs=j / bs->ys[i]?=some x->ys[j]?=some y->x.c<=y.c
theorem up_seg {p s r:List Tm} {a b:Nat} (hs:Up s) (ha:p.length=a) (hb:p.length+s.length=b):SegUp (p++(s++r)) a b:=by
 intro i j x y h1 h2 h3 hx hy
 rw [List.getElem?_append_right (by omega),List.getElem?_append_left (by omega)] at hx hy
 obtain ⟨l1,e1⟩:=List.getElem?_eq_some_iff.1 hx
 obtain ⟨l2,e2⟩:=List.getElem?_eq_some_iff.1 hy
 rw [<- e1,<- e2]
 rcases Nat.lt_or_ge (i - p.length) (j - p.length) with h | h
 · exact (List.pairwise_iff_getElem.1 hs) _ _ l1 l2 h
 · have:i - p.length=j - p.length:=by omega
   simp only [this];exact Int.le_refl _
theorem seg_up {ys:List Tm} {a b:Nat} (h:SegUp ys a b) (hb:b<=ys.length):Up ((ys.drop a).take (b - a)):=by
 refine List.pairwise_iff_getElem.2 fun i j hi hj hij=>?_
 rw [List.length_take,List.length_drop] at hi hj
 rw [List.getElem_take,List.getElem_drop,List.getElem_take,List.getElem_drop]
 exact h (a+i) (a+j) _ _ Yo Yo Yo (List.getElem?_eq_getElem Yo) (List.getElem?_eq_getElem Yo)
theorem sorts_facts {xs ys:List Tm} {a b:Nat} (h:Sorts xs a b ys):(∀ i,i<a∨b<=i->ys[i]?=xs[i]?)/\SegUp ys a b/\ys.Perm xs:=by
 obtain ⟨p,s,s',r,e1,e2,h1,h2,h3,h4⟩:=h
 have hl:=h3.length_eq
 refine ⟨fun i hi=>?_,by rw [e2];exact up_seg h4 h1 Yo,?_⟩
 · rw [e1,e2]
   rcases hi with hi | hi
   · rw [List.getElem?_append_left (by omega),List.getElem?_append_left (by omega)]
   · rw [List.getElem?_append_right (by omega),List.getElem?_append_right (by omega),List.getElem?_append_right (by omega),List.getElem?_append_right (by omega),hl]
 · rw [e1,e2];exact List.Perm.append_left p (List.Perm.append_right r h3)
theorem div_in {bs k j:Nat} (h1:bs*k<=j) (h2:j<bs*k+bs):j / bs=k:=Nat.div_eq_of_lt_le (by rw [Nat.mul_comm];exact h1) (by rw [Nat.mul_comm,Nat.mul_succ];exact h2)
theorem div_ge {bs k i:Nat} (h:i / bs=k):bs*k<=i:=by rw [<- h];exact Nat.mul_div_le i bs
theorem runs_step {bs k a b:Nat} {ys zs:List Tm} (h:RunsUp bs a ys) (ha:bs*k=a) (hb:b<=a+bs) (hs:Sorts ys a b zs):RunsUp bs b zs:=by
 obtain ⟨h1,h2,-⟩:=sorts_facts hs
 intro i j x y hij hj hd hx hy
 rcases Nat.lt_or_ge j a with hja | hja
 · rw [h1 i (.inl (by omega))] at hx
   rw [h1 j (.inl hja)] at hy
   exact h i j x y hij hja hd hx hy
 · have hk:j / bs=k:=div_in Yo Yo
   have hi:=div_ge (hd.trans hk)
   exact h2 i j x y Yo hij hj hx hy
theorem runs_zero (bs:Nat) (ys:List Tm):RunsUp bs 0 ys:=fun i j x y _ h=>by omega
theorem runs_all {bs n:Nat} {ys:List Tm} (h:RunsUp bs n ys) (hn:ys.length=n) (hb:n<=bs) (h0:0<bs):Up ys:=by
 refine List.pairwise_iff_getElem.2 fun i j hi hj hij=>?_
 exact h i j _ _ Yo Yo (by rw [Nat.div_eq_of_lt (by omega),Nat.div_eq_of_lt (by omega)]) (List.getElem?_eq_getElem hi) (List.getElem?_eq_getElem hj)
theorem sym_s {w:World} {B0 g cap n a m b:Nat} {ys:List Tm} (h:Sr w B0 g cap ys) (hn:ys.length=n) (ham:a<m) (hmb:m<b) (hbn:b<=n) (h1:SegUp ys a m) (h2:SegUp ys m b) (hB:B0<=w.heap.size) (h40:n<=1099511627776):
 Calls Tryz.prog 221 #[.slice (some ⟨g,0,none⟩) n cap,.int .i64 (a:Int),.int .i64 (m:Int),.int .i64 (b:Int),.func (.func 172) #[] #[]] w fun e w'=>e=.returned (.tuple #[])/\∃ zs,Sr w' B0 g cap zs/\Sorts ys a b zs/\Below B0 w w':=by
 obtain ⟨p,hp⟩:∃ p,ys.take a=p:=⟨_,rfl⟩
 obtain ⟨X,hX⟩:∃ X,(ys.drop a).take (m - a)=X:=⟨_,rfl⟩
 obtain ⟨Y,hY⟩:∃ Y,(ys.drop m).take (b - m)=Y:=⟨_,rfl⟩
 obtain ⟨r,hr⟩:∃ r,ys.drop b=r:=⟨_,rfl⟩
 have lp:p.length=a:=by rw [<- hp,List.length_take];omega
 have lX:X.length=m - a:=by rw [<- hX,List.length_take,List.length_drop];omega
 have lY:Y.length=b - m:=by rw [<- hY,List.length_take,List.length_drop];omega
 have e:ys=p++(X++(Y++r)):=by
  rw [<- hp,<- hX,<- hY,<- hr]
  have e1:(ys.drop m).take (b - m)++ys.drop b=ys.drop m:=by
   have:=List.take_append_drop (b - m) (ys.drop m)
   rwa [List.drop_drop,show m+(b - m)=b from by omega] at this
  have e2:(ys.drop a).take (m - a)++ys.drop m=ys.drop a:=by
   have:=List.take_append_drop (m - a) (ys.drop a)
   rwa [List.drop_drop,show a+(m - a)=m from by omega] at this
  rw [e1,e2,List.take_append_drop]
 have uX:Up X:=by rw [<- hX];exact seg_up h1 Yo
 have uY:Up Y:=by rw [<- hY];exact seg_up h2 Yo
 refine (sym_t B0 g cap n h40 (b - a) w p X Y r a m b (Nat.le_refl _) (e ▸ h) (e ▸ hn) lp Yo Yo Yo Yo uX uY hB).mono ?_
 rintro e' w' ⟨he,Z,g1,g2,g3,g4⟩
 exact ⟨he,_,g1,⟨p,X++Y,Z,r,by rw [e,List.append_assoc],rfl,lp,by rw [List.length_append];omega,g2,g3⟩,g4⟩
theorem stable_t {w:World} {B0 g cap n:Nat} {xs:List Tm} (h:Sr w B0 g cap xs) (hn:xs.length=n) (hB:B0<=w.heap.size) (h40:n<=1099511627776):
 Calls Tryz.prog 195 #[.slice (some ⟨g,0,none⟩) n cap,.int .i64 (n:Int),.func (.func 172) #[] #[]] w fun e w'=>e=.returned (.tuple #[])/\∃ ys,Sr w' B0 g cap ys/\ys.Perm xs/\Up ys/\Below B0 w w':=by
 have HS:=Yh3 h hn (Below.refl B0 w)
 clear h hn
 go_enter Tryz.func195,Tryz.ntmps195
 go_wp2_with fail
 go_loopw [7,8] (fun z1 z2 wr=>∃ (k a b:Nat) (ys:List Tm),z1=.int .i64 (a:Int)/\z2=.int .i64 (b:Int)/\20*k=a/\b=a+20/\a<=n/\Hid (Sr wr B0 g cap ys/\ys.Perm xs/\RunsUp 20 a ys/\Below B0 w wr)) (fun z1 z2 _=>n - (intOf z1).toNat)
 case atStart=>exact ⟨0,0,20,xs,rfl,rfl,rfl,rfl,Nat.zero_le _,HS.p0,List.Perm.refl _,runs_zero _ _,HS.q2⟩
 case round=>
  obtain ⟨k,a,b,ys,rfl,rfl,hk,hb,han,H⟩:=hrel
  have hyn:ys.length=n:=by rw [H.p1.length_eq];exact HS.p1
  by_cases hlt:b<=n
  · have d0:(b:Int)<=(n:Int):=by omega
    have d1:IntKind.i64.wrap ((b:Int)+20)=((b+20:Nat):Int):=by rw [IntKind.wrap_i64];omega
    have HY:=Lib.hid hyn
    have HK:=Yh2 hk hb
    clear hyn hk hb
    go_wp2_with fail
    refine (ins_t H.p0 HY.out (Nat.le_trans hB H.q3.size) (by have:=HK.out;omega) hlt h40).mono ?_;rintro e w2 ⟨rfl,zs,g1,g2,g3⟩
    have R:=Yh4 g1 ((sorts_facts g2).2.2.trans H.p1) (runs_step (b:=b) H.p2 HK.p0 (by have:=HK.out;omega) g2) (H.q3.trans g3)
    clear g1 g2 g3
    go_wp2_with fail
    have hk:=HK.out
    case roundEnd=>exact ⟨⟨k+1,b,b+20,zs,rfl,by first | rfl | go_num | (rw [d1]),Yo,rfl,hlt,R.out⟩,by simp [intOf];omega⟩
  · have d0:¬ (b:Int)<=(n:Int):=by omega
    have HY:=Lib.hid hyn
    have HK:=Yh2 hk hb
    clear hyn hk hb
    go_wp2_with fail
    refine (ins_t H.p0 HY.out (Nat.le_trans hB H.q3.size) han (Nat.le_refl _) h40).mono ?_;rintro e w2 ⟨rfl,zs,g1,g2,g3⟩
    have R:=Yh4 g1 ((sorts_facts g2).2.2.trans H.p1) (runs_step (b:=n) H.p2 HK.p0 (by have:=HK.out;omega) g2) (H.q3.trans g3)
    clear g1 g2 g3 HY HK H hlt d0
    go_wp2_with fail
    go_loopw [6,7,8] (fun z0 z1 z2 wr=>∃ (bs:Nat) (ys:List Tm) (u1 u2:Value),z0=.int .i64 (bs:Int)/\z1=u1/\z2=u2/\0<bs/\bs<=20+n+n/\Hid (Sr wr B0 g cap ys/\ys.Perm xs/\RunsUp bs n ys/\Below B0 w wr)) (fun z0 _ _ _=>n - (intOf z0).toNat)
    case atStart=>exact ⟨20,zs,_,_,rfl,rfl,rfl,Yd,Yo,R.out⟩
    case round=>
     clear R
     obtain ⟨bs,ys,u1,u2,rfl,rfl,rfl,hb0,hb1,H⟩:=hrel
     by_cases hlt:bs<n
     · have d0:(bs:Int)<(n:Int):=by omega
       obtain ⟨b2,hb2⟩:∃ b2,bs*2=b2:=⟨_,rfl⟩
       have d1:IntKind.i64.wrap (2*(bs:Int))=(b2:Int):=by rw [IntKind.wrap_i64];omega
       have d2:IntKind.i64.wrap ((bs:Int)*2)=(b2:Int):=by rw [IntKind.wrap_i64];omega
       have hb20:b2<=n+n:=Yo
       have HB2:=Lib.hid hb2
       clear hb2
       go_wp2_with fail
       go_loopw [7,8] (fun z1 z2 wr=>∃ (k a b:Nat) (zs:List Tm),z1=.int .i64 (a:Int)/\z2=.int .i64 (b:Int)/\b2*k=a/\b=a+b2/\a<=n/\Hid (Sr wr B0 g cap zs/\zs.Perm xs/\RunsUp b2 a zs/\(∀ i j x y,a<=i->i<=j->j<n->i / bs=j / bs->zs[i]?=some x->zs[j]?=some y->x.c<=y.c)/\Below B0 w wr)) (fun z1 z2 _=>n - (intOf z1).toNat)
       case atStart=>exact ⟨0,0,b2,ys,rfl,rfl,by simp,by simp,Nat.zero_le _,H.p0,H.p1,runs_zero _ _,fun i j x y _ h2 h3 hd hx hy=>H.p2 i j x y h2 h3 hd hx hy,H.q3⟩
       case round=>
        clear H
        obtain ⟨k,a,b,zs,rfl,rfl,hk,hb,han,H⟩:=hrel
        have hyn:zs.length=n:=by rw [H.p1.length_eq];exact HS.p1
        obtain ⟨m,hm⟩:∃ m,a+bs=m:=⟨_,rfl⟩
        have d3:IntKind.i64.wrap ((a:Int)+(bs:Int))=(m:Int):=by rw [IntKind.wrap_i64];omega
        have hka:bs*(2*k)=a:=by rw [<- Nat.mul_assoc,HB2.out];exact hk
        have hkm:bs*(2*k+1)=m:=by rw [Nat.mul_add,hka];omega
        have hseg1:∀ e,e<=m->e<=n->SegUp zs a e:=fun e h1 h2 i j x y q1 q2 q3 hx hy=>H.p3 i j x y q1 q2 Yo ((div_in (k:=2*k) Yo Yo).trans (div_in (k:=2*k) Yo Yo).symm) hx hy
        have hseg2:∀ e,e<=m+bs->e<=n->SegUp zs m e:=fun e h1 h2 i j x y q1 q2 q3 hx hy=>H.p3 i j x y Yo q2 Yo ((div_in (k:=2*k+1) Yo Yo).trans (div_in (k:=2*k+1) Yo Yo).symm) hx hy
        have HY:=Yh3 hyn hseg1 hseg2
        have HK:=Yh3 hk hb hm
        clear hyn hseg1 hseg2 hk hb hka hkm hm
        by_cases hlt2:b<=n
        · have d4:(b:Int)<=(n:Int):=by omega
          have d5:IntKind.i64.wrap ((b:Int)+(b2:Int))=((b+b2:Nat):Int):=by rw [IntKind.wrap_i64];omega
          obtain ⟨bb,hbb⟩:∃ c,b+b2=c:=⟨_,rfl⟩
          rw [hbb] at d5
          have HBB:=Lib.hid hbb
          clear hbb
          go_wp2_with fail
          refine (sym_s (m:=m) H.p0 HY.p0 (by have:=HK.out;omega) (by have:=HK.out;have:=HB2.out;omega) hlt2 (HY.p1 m (Nat.le_refl _) (by have:=HK.out;have:=HB2.out;omega)) (HY.q2 b (by have:=HK.out;have:=HB2.out;omega) hlt2) (Nat.le_trans hB H.q4.size) h40).mono ?_;rintro e w2 ⟨rfl,ts,g1,g2,g3⟩
          have hrest:∀ i j x y,b<=i->i<=j->j<n->i / bs=j / bs->ts[i]?=some x->ts[j]?=some y->x.c<=y.c:=fun i j x y q1 q2 q3 hd hx hy=>H.p3 i j x y (by have:=HK.out;omega) q2 q3 hd (by rw [<- (sorts_facts g2).1 i (.inr q1)];exact hx) (by rw [<- (sorts_facts g2).1 j (.inr (by omega))];exact hy)
          have R:=Yh5 g1 ((sorts_facts g2).2.2.trans H.p1) (runs_step (b:=b) H.p2 HK.p0 (by have:=HK.out;omega) g2) hrest (H.q4.trans g3)
          clear g1 g2 g3 hrest
          go_wp2_with fail
          have hk:=HK.out
          have hbb:=HBB.out
          have hb2:=HB2.out
          case roundEnd=>exact ⟨⟨k+1,b,bb,ts,rfl,rfl,by rw [Nat.mul_add];omega,Yo,hlt2,R.out⟩,by simp [intOf];omega⟩
        · have d4:¬ (b:Int)<=(n:Int):=by omega
          by_cases hm:m<n
          · have d5:(m:Int)<(n:Int):=by omega
            go_wp2_with fail
            refine (sym_s (m:=m) (b:=n) H.p0 HY.p0 (by have:=HK.out;omega) hm (Nat.le_refl _) (HY.p1 m (Nat.le_refl _) Yo) (HY.q2 n (by have:=HK.out;have:=HB2.out;omega) (Nat.le_refl _)) (Nat.le_trans hB H.q4.size) h40).mono ?_;rintro e w2 ⟨rfl,ts,g1,g2,g3⟩
            have R:=Yh4 g1 ((sorts_facts g2).2.2.trans H.p1) (runs_step (b:=n) H.p2 HK.p0 (by have:=HK.out;omega) g2) (H.q4.trans g3)
            clear g1 g2 g3
            go_wp2_with fail
            have hk:=HK.out
            have hb2:=HB2.out
            case roundEnd=>exact ⟨⟨b2,ts,_,_,rfl,rfl,rfl,Yo,Yo,R.out⟩,by simp [intOf];omega⟩
          · have d5:¬ (m:Int)<(n:Int):=by omega
            have hR:Hid (RunsUp b2 n zs):=by
             intro i j x y hij hj hd hx hy
             rcases Nat.lt_or_ge j a with hja | hja
             · exact H.p2 i j x y hij hja hd hx hy
             · have hk2:j / b2=k:=div_in (by have:=HK.out;omega) (by have:=HK.out;omega)
               have hi:=div_ge (hd.trans hk2)
               exact HY.p1 n Yo (Nat.le_refl _) i j x y (by have:=HK.out;omega) hij hj hx hy
            go_wp2_with fail
            have hk:=HK.out
            have hb2:=HB2.out
            case roundEnd=>exact ⟨⟨b2,zs,_,_,rfl,rfl,rfl,Yo,Yo,H.p0,H.p1,hR.out,H.q4⟩,by simp [intOf];omega⟩
     · have d0:¬ (bs:Int)<(n:Int):=by omega
       have hup:=runs_all H.p2 (by rw [H.p1.length_eq];exact HS.p1) Yo hb0
       have HU:=Lib.hid hup
       clear hup
       go_wp2_with fail
       go_end0
       exact ⟨rfl,ys,H.p0,H.p1,HU.out,H.q3⟩
theorem sortS_t {w:World} {B0 g cap n:Nat} {xs:List Tm} (h:Sr w B0 g cap xs) (hn:xs.length=n) (hB:B0<=w.heap.size) (h40:n<=1099511627776):
 Calls Tryz.prog 171 #[.slice (some ⟨g,0,none⟩) n cap,.func (.func 172) #[] #[]] w fun e w'=>e=.returned (.tuple #[])/\∃ ys,Sr w' B0 g cap ys/\ys.Perm xs/\Up ys/\Below B0 w w':=by
 have HS:=Yh2 h hn
 clear h hn
 go_enter Tryz.func171,Tryz.ntmps171
 go_wp2_with fail
 refine (stable_t HS.p0 HS.q1 hB h40).mono ?_;rintro e w2 ⟨rfl,h⟩
 have R:=Lib.hid h
 clear h
 go_wp2_with fail
 go_end0
 exact ⟨rfl,R.out⟩
end
end
section
section
open Go Go.RowKit Go.Proofs Pl
theorem term_info:(Tryz.prog.info? 85).map (fun i=>(i.zero,i.size,i.bytes))=some (some (.agg #[.int .i64 0,.bool false,.slice none 0 0,.slice none 0 0]),4,64):=by kernel_rfl
theorem term_word:(155:TypeId)≠85:=by decide
theorem flatT_one {xs:List Tm}:∀ u∈flatT xs,u.oneCell'=true:=by
 induction xs with
 | nil=>intro u hu;simp [flatT] at hu
 | cons x xs ih=>
  intro u hu
  simp only [flatT,List.mem_cons] at hu
  rcases hu with rfl | rfl | rfl | rfl | hu
  · rfl
  · rfl
  · rfl
  · rfl
  · exact ih u hu
theorem flatT_take (xs:List Tm) (k:Nat):(flatT xs).take (k*4)=flatT (xs.take k):=by
 induction xs generalizing k with
 | nil=>simp [flatT]
 | cons x xs ih=>
  cases k with
  | zero=>simp [flatT]
  | succ k=>
   rw [show (k+1)*4=k*4+4 from by omega,List.take_succ_cons]
   show _::_::_::_::(flatT xs).take (k*4)=_
   rw [ih];rfl
def To (w:World) (B0:Nat) (v:Value) (xs:List Tm):Prop:=w.ownsRow B0 85 4 v xs.length (flatT xs)
section
variable {w w':World} {B0 g cap n:Nat} {v:Value} {xs:List Tm} {A:Option Addr}
theorem To.nil (w:World) (B0:Nat):To w B0 (.slice none 0 0) []:=World.ownsRow_nil _ _ _ _
theorem To.sr (h:To w B0 v xs) (h0:0<xs.length):∃ g cap,v=.slice (some ⟨g,0,none⟩) xs.length cap/\Sr w B0 g cap xs:=by
 obtain ⟨g,cap,e,-⟩:=own_cells h h0
 subst e
 exact ⟨g,cap,rfl,h⟩
theorem Sr.to (h:Sr w B0 g cap xs):To w B0 (.slice (some ⟨g,0,none⟩) xs.length cap) xs:=h
theorem To.shape (h:To w B0 v xs):∃ A cap,v=.slice A xs.length cap/\xs.length<=maxLen:=own_slice h
theorem To.keep (h:To w B0 v xs) (hb:Below w.heap.size w w'):To w' B0 v xs:=own_keepT h (KeepT.below hb)
theorem To.mono {B1:Nat} (h:To w B0 v xs) (hB:B1<=B0):To w B1 v xs:=own_mono h hB
theorem To.trd (h:To w B0 v xs):∃ A cap,v=.slice A xs.length cap/\xs.length<=cap/\cap<=maxLen/\(A=none->cap=0)/\TRd w A (flatT xs):=by
 rcases Nat.eq_zero_or_pos xs.length with h0 | h0
 · obtain rfl:=List.eq_nil_of_length_eq_zero h0
   rcases h.2 with ⟨hv,-⟩ | ⟨g,cap,cur,hv,hb,hh,h1,h2,h3,h4⟩
   · exact ⟨none,0,hv,Nat.le_refl _,Nat.zero_le _,fun _=>rfl,.inl rfl⟩
   · exact ⟨_,cap,hv,Yo,h2,by simp,.inl rfl⟩
 · obtain ⟨g,cap,e,h1,h2,h3,h4,h5,h6⟩:=own_cells h h0
   exact ⟨_,cap,e,h2,h3,by simp,.inr ⟨g,0,rfl,h4,fun i u hi=>by rw [Nat.zero_add];exact h5 i u hi⟩⟩
end
def setL:List Value->Nat->List Value->List Value
 | xs,_,[]=>xs
 | xs,o,u::us=>setL (xs.set o u) (o+1) us
theorem setL_take (us:List Value):∀ (xs:List Value) (o k:Nat),k<=o->(setL xs o us).take k=xs.take k:=by
 induction us with
 | nil=>intro xs o k _;rfl
 | cons u us ih=>
  intro xs o k hk
  rw [setL,ih _ _ _ (by omega),List.take_set_of_le hk]
theorem own_setCells {B:Nat} {t:TypeId} {size n cap g:Nat} (us:List Value):∀ {w:World} {xs:List Value} (o:Nat),w.ownsRow B t size (.slice (some ⟨g,0,none⟩) n cap) n xs->(w.setCells g o us).ownsRow B t size (.slice (some ⟨g,0,none⟩) n cap) n (setL xs o us):=by
 induction us with
 | nil=>intro w xs o h;exact h
 | cons u us ih=>intro w xs o h;exact ih (o+1) (own_set h u)
theorem below_setCells {B g:Nat} {w0:World} (us:List Value) (hg:B<=g):∀ {w:World} (o:Nat),Below B w0 w->Below B w0 (w.setCells g o us):=by
 induction us with
 | nil=>intro w o h;exact h
 | cons u us ih=>intro w o h;exact ih (o+1) (h.setCell hg u)
theorem run_clear_terms (w:World) (b o n c:Nat) (hn:0<n) (hc:∀ j,j<n*4->(w.cell? ⟨b,o+j,none⟩).isSome=true) (hf:∀ j,j<n*4->w.frozen? ⟨b,o+j,none⟩=false):
 ∃ us:List Value,∀ ty,(Builtin.clear_ #[32] ty #[.slice (some ⟨b,o,none⟩) n c]).run Tryz.prog w=.ok (.tuple #[]) (w.setCells b o us):=by
 obtain ⟨us,hus⟩:∃ us,(Builtin.zeroCells (Value.agg #[.int .i64 0,.bool false,.slice none 0 0,.slice none 0 0]).cells n).toList=us:=⟨_,rfl⟩
 have hz:(Value.agg #[.int .i64 0,.bool false,.slice none 0 0,.slice none 0 0]).cells=#[.int .i64 0,.bool false,.slice none 0 0,.slice none 0 0]:=rfl
 have hl:us.length=n*4:=by rw [<- hus];simp [Builtin.zeroCells,hz]
 have h1:∀ u∈us,u.oneCell'=true:=by
  intro u hu
  rw [<- hus] at hu
  simp only [Builtin.zeroCells,Array.toList_map,List.mem_map] at hu
  obtain ⟨i,-,rfl⟩:=hu
  rw [hz]
  have:i % (#[Value.int .i64 0,.bool false,.slice none 0 0,.slice none 0 0]:Array Value).size<4:=Nat.mod_lt _ Yd
  generalize i % _=j at this
  match j,this with
  | 0,_=>rfl
  | 1,_=>rfl
  | 2,_=>rfl
  | 3,_=>rfl
 have hst:=run_storeCells_cells (P:=Tryz.prog) b o us 0 w (by rw [hl];simpa using hc) (by rw [hl];simpa using hf) h1
 simp only [Nat.add_zero] at hst
 obtain ⟨m,rfl⟩:∃ m,n=m+1:=⟨n - 1,Yo⟩
 have hv:∀ w,(zeroValue 85).run Tryz.prog w=.ok (.agg #[.int .i64 0,.bool false,.slice none 0 0,.slice none 0 0]) w:=Tryz.zeroValue85
 refine ⟨us,fun ty=>?_⟩
 simp [Builtin.clear_,run_underlying Tryz.underlying32,hv,hus,hst]
theorem clone_t {w:World} {L:Nat} {v:Value} {xs:List Tm} (h:Tl w L v xs) (hlen:xs.length<=1099511627776):
 Calls Tryz.prog 170 #[v] w fun e w'=>∃ u,e=.returned u/\To w' w.heap.size u xs/\Yg w w':=by
 obtain ⟨A,c,rfl,q1,q2,q3,q4,-⟩:=h
 cases A with
 | none=>
  have h0:xs=[]:=by
   have:=q3 rfl
   exact List.eq_nil_of_length_eq_zero Yo
  subst h0
  have hnil:=fun W=>Lib.run_eql_slice_nil (P:=Tryz.prog) W 32 85 none 0 c 0 0 Tryz.underlying32
  clear q1 q2 q3 q4 hlen
  go_enter Tryz.func170,Tryz.ntmps170
  go_wp2_with fail
  go_ret
  exact ⟨_,rfl,To.nil _ _,Below.refl _ _⟩
 | some ad=>
  obtain ⟨i0,hi0,hz0,hz1,hz2⟩:=info_parts term_info
  have hcells:∀ j u,(flatT xs)[j]?=some u->w.cell? (ad.add j)=some u:=fun j u hj=>by
   rcases q4 with h | ⟨g,o,e,hg,hc⟩
   · rw [h] at hj;simp at hj
   · injection e with e
     subst e
     have e:(⟨g,o,none⟩:Addr).add j=⟨g,o+j,none⟩:=by unfold Addr.add;split<;>simp_all
     rw [e];exact hc j u hj
  have H1:=Lib.hid hcells
  clear hcells q4
  have hnil:=fun W=>Lib.run_eql_slice_nil (P:=Tryz.prog) W 32 85 (some ad) xs.length c 0 0 Tryz.underlying32
  go_enter Tryz.func170,Tryz.ntmps170
  go_wp2_with (at_builtin;refine wpList_append_own _ rfl (.tmp 5) (.tmp 6) 32 rfl w.heap.size 85 i0 _ 4 64 Tryz.underlying32 hi0 hz0 hz1 hz2 rfl Yd _ 0 [] rfl ?ho ad xs.length c (flatT xs) rfl (flatT_len xs) ?hc flatT_one (by unfold maxLen;omega) Yo (by simp) ?_)
  case ho=>exact World.ownsRow_made (base:=w.heap.size) (e:=85) (size:=4) w #[] 0 (Nat.le_refl _) Yd rfl
  case hc=>exact fun j u hj=>(Below.cell ((Below.refl w.heap.size w).alloc (Nat.le_refl _) _) (cell_lt' (H1.out j u hj))).trans (H1.out j u hj)
  · intro v w1 hown hg _
    go_wp2_with fail
    go_ret
    refine ⟨v,rfl,?_,((Below.refl _ _).alloc (Nat.le_refl _) _).grown hg (by simp) ?_⟩
    · unfold To;simpa using hown
    · intro k hk;simp [Value.ownBlock] at hk;omega
end
end
section
section
open Go Go.RowKit Go.Proofs Pl
theorem Qr.keepT {w0 w w':World} {v:Value} {q:Rat} (h:Qr w0 w v q) (k:KeepT 155 w w') (hb:Below w0.heap.size w0 w'):Qr w0 w' v q:=by
 obtain ⟨s,d,e,h1,h2⟩:=h
 exact ⟨s,d,e,⟨⟨h1.1.1,own_keepT h1.1.2 k⟩,hb⟩,⟨⟨h2.1.1,own_keepT h2.1.2 k⟩,hb⟩⟩
theorem own_keepT1 {w:World} {B g n cap:Nat} {xs:List Value} (h:w.ownsRow B 85 4 (.slice (some ⟨g,0,none⟩) n cap) n xs) (o:Nat) (u:Value):KeepT 155 w (w.setCell ⟨g,o,none⟩ u):=by
 obtain ⟨cs,e,m,hh,he⟩:=own_type h g rfl
 exact KeepT.setCell hh (by rw [he];exact Ne.symm term_word) rfl u
theorem Sr.keepT4 {w:World} {B g cap:Nat} {xs:List Tm} (h:Sr w B g cap xs) (o0 o1 o2 o3:Nat) (u0 u1 u2 u3:Value):KeepT 155 w ((((w.setCell ⟨g,o0,none⟩ u0).setCell ⟨g,o1,none⟩ u1).setCell ⟨g,o2,none⟩ u2).setCell ⟨g,o3,none⟩ u3):=
 (((own_keepT1 h o0 u0).trans (own_keepT1 (own_set h (j:=o0) u0) o1 u1)).trans (own_keepT1 (own_set (own_set h (j:=o0) u0) (j:=o1) u1) o2 u2)).trans (own_keepT1 (own_set (own_set (own_set h (j:=o0) u0) (j:=o1) u1) (j:=o2) u2) o3 u3)
theorem own_keepTs {B g n cap:Nat} (us:List Value):∀ {w:World} {xs:List Value} (o:Nat),w.ownsRow B 85 4 (.slice (some ⟨g,0,none⟩) n cap) n xs->KeepT 155 w (w.setCells g o us):=by
 induction us with
 | nil=>intro w xs o h;exact KeepT.refl _ _
 | cons u us ih=>intro w xs o h;exact (own_keepT1 h o u).trans (ih (o+1) (own_set h u))
def Vr (w0 w:World) (v:Value) (xs:List Tm):Prop:=To w w0.heap.size v xs/\(∀ x∈xs,Qr w0 w x.num x.q)/\Yg w0 w
theorem Vr.keep {w0 w w':World} {v:Value} {xs:List Tm} (h:Vr w0 w v xs) (hb:Below w.heap.size w w'):Vr w0 w' v xs:=⟨h.1.keep hb,fun x hx=>(h.2.1 x hx).keep hb,Yb h.2.2 hb⟩
theorem Vr.from {w0 w1 w:World} {v:Value} {xs:List Tm} (h:Vr w1 w v xs) (hb:Below w0.heap.size w0 w1):Vr w0 w v xs:=⟨h.1.mono hb.size,fun x hx=>(h.2.1 x hx).from hb,Yb hb h.2.2⟩
theorem own_take {w:World} {B:Nat} {t:TypeId} {size n c:Nat} {A:Option Addr} {xs:List Value} (h:w.ownsRow B t size (.slice A n c) n xs) {k:Nat} (hk:k<=n):w.ownsRow B t size (.slice A k c) k (xs.take (k*size)):=by
 have hm:=Nat.mul_le_mul_right size hk
 refine ⟨by rw [List.length_take,h.1];omega,?_⟩
 rcases h.2 with ⟨hv,h0⟩ | ⟨g,cap,cur,hv,hb,hh,h1,h2,h3,h4⟩
 · injection hv with hv hn hc
   obtain rfl:k=0:=by omega
   exact .inl ⟨by rw [hv,hc],rfl⟩
 · injection hv with hv hn hc
   refine .inr ⟨g,c,cur,by rw [hv],hb,hh,Yo,Yo,by rw [hc];exact h3,?_⟩
   rw [<- h4,List.take_take,Nat.min_eq_left hm]
theorem del_c {w:World} {L:Nat} {x:Tm} {r:Bool} (hx:Qv w L x.num x.q) (hL:L<=137438953472) (hr:decide (x.q=0)=r):
 Calls Tryz.prog 175 #[.agg #[.int .i64 x.c,.bool x.b,.slice x.A x.l x.k,.slice x.B x.m x.d]] w fun e w'=>e=.returned (.bool r)/\Yg w w':=by
 obtain ⟨z,hz⟩:∃ z,sgnQ x.q=z:=⟨_,rfl⟩
 have e1:(z==0)=r:=by
  rw [<- hr,<- hz]
  by_cases h:x.q=0
  · rw [decide_eq_true h,(sgn_zero _).2 h];rfl
  · rw [decide_eq_false h];exact beq_eq_false_iff_ne.2 (fun e=>h ((sgn_zero _).1 e))
 have S0:=Yh3 hx hL hz
 clear hx hL hr hz
 go_enter Tryz.func175,Tryz.ntmps175
 go_upto_region 1 with (fail)
 have X:=(B4.new 85 w (.int .i64 x.c) (.bool x.b) (.slice x.A x.l x.k) (.slice x.B x.m x.d)).facts
 have S:=Yh3 (S0.p0.keep (Ya w (.cells #[.int .i64 x.c,.bool x.b,.slice x.A x.l x.k,.slice x.B x.m x.d] 85))) (Ya w (.cells #[.int .i64 x.c,.bool x.b,.slice x.A x.l x.k,.slice x.B x.m x.d] 85)) S0.q1
 obtain ⟨x0,x1,x2,x3⟩:=X
 generalize w.alloc _=W at x0 x1 x2 x3 S ⊢
 clear S0
 go_wp2_with fail
 refine (sign_v S.p0 S.p2).mono ?_;rintro e w1 ⟨rfl,hb⟩
 rw [S.q3]
 have S2:=Lib.hid (Yb S.p1 hb)
 clear hb S x0 x1 x2 x3
 go_wp2_with fail
 go_ret
 exact ⟨rfl,S2.out⟩
theorem idx_t {w0 w:World} {L:Nat} {v:Value} {xs:List Tm} (h:Vr w0 w v xs) (hs:∀ x∈xs,Sz L x.q) (hL:L<=137438953472) (h40:xs.length<=1099511627776):
 Calls Tryz.prog 197 #[v,.func (.func 175) #[] #[]] w fun e w'=>∃ r:Int,e=.returned (.int .i64 r)/\Yg w w'/\((r=-1/\∀ x∈xs,x.q≠0)∨∃ i:Nat,r=(i:Int)/\i<xs.length/\(∀ k x,k<i->xs[k]?=some x->x.q≠0)/\∀ x,xs[i]?=some x->x.q=0):=by
 obtain ⟨A,cap,rfl,q1,q2,q3,q4⟩:=h.1.trd
 obtain ⟨n,hn⟩:∃ n,xs.length=n:=⟨_,rfl⟩
 rw [hn] at h40 ⊢
 have HS:=Yh3 q4 (fun x hx=>(h.2.1 x hx).qv (hs x hx)) hn
 have HL:=Yh2 hs hL
 clear h hs hL q1 q2 q3 q4 hn
 go_enter Tryz.func197,Tryz.ntmps197
 go_wp2_with fail
 go_loopw [8] (fun z wr=>∃ i:Nat,z=.int .i64 (i:Int)/\i<=n/\Hid ((∀ k x,k<i->xs[k]?=some x->x.q≠0)/\Yg w wr)) (fun z _=>n - (intOf z).toNat)
 case atStart=>exact ⟨0,rfl,Nat.zero_le _,fun k x hk=>by omega,Below.refl _ _⟩
 case round=>
  obtain ⟨i,rfl,hi,H⟩:=hrel
  by_cases hlt:i<n
  · have hix:i<xs.length:=by rw [HS.q2];exact hlt
    obtain ⟨x,hx⟩:∃ x,xs[i]?=some x:=⟨_,List.getElem?_eq_getElem hix⟩
    obtain ⟨g,off,rfl,hgl,c0,c1,c2,c3⟩:=(HS.p0.keep H.q1).at_ hx
    have HQ:=Lib.hid ((HS.p1 x (List.mem_of_getElem? hx)).keep H.q1)
    have HX:=Lib.hid hx
    obtain ⟨r,hr⟩:∃ r,decide (x.q=0)=r:=⟨_,rfl⟩
    have HR:=Lib.hid hr
    clear hx hgl hix hr
    go_wp2_with fail
    refine (del_c HQ.out HL.q1 HR.out).mono ?_;rintro e w2 ⟨rfl,hb⟩
    have R:=Lib.hid (Yb H.q1 hb)
    clear hb c0 c1 c2 c3
    cases r with
    | true=>
     go_wp2_with fail
     go_ret
     exact ⟨_,rfl,R.out,.inr ⟨i,rfl,hlt,H.p0,fun y hy=>by rw [HX.out] at hy;injection hy with hy;subst hy;exact of_decide_eq_true HR.out⟩⟩
    | false=>
     go_wp2_with fail
     go_roundw
     case rel=>
      refine ⟨i+1,by go_num,Yo,fun k y hk hy=>?_,R.out⟩
      by_cases e:k=i
      · subst e;rw [HX.out] at hy;injection hy with hy;subst hy;exact of_decide_eq_false HR.out
      · exact H.p0 k y Yo hy
     case measure=>simp [intOf];omega
  · have hall:∀ x∈xs,x.q≠0:=fun x hx=>by
     obtain ⟨k,hk,e⟩:=List.getElem_of_mem hx
     exact H.p0 k x (by have:=HS.q2;omega) (by rw [List.getElem?_eq_getElem hk,e])
    have HA:=Lib.hid hall
    clear hall
    go_wp2_with fail
    go_ret
    exact ⟨_,rfl,H.q1,.inl ⟨rfl,HA.out⟩⟩
def nzT (xs:List Tm):List Tm:=xs.filter fun x=>decide (x.q≠0)
theorem nz_all {xs:List Tm} (h:∀ x∈xs,x.q≠0):nzT xs=xs:=List.filter_eq_self.2 fun x hx=>decide_eq_true (h x hx)
def Delg (xs:List Tm) (i j:Nat) (ys:List Tm):Prop:=ys.length=xs.length/\i<j/\j<=xs.length/\ys.take i=nzT (xs.take j)/\ys.drop j=xs.drop j
theorem delg_start {xs:List Tm} {i:Nat} (hi:i<xs.length) (h1:∀ k x,k<i->xs[k]?=some x->x.q≠0) (h2:∀ x,xs[i]?=some x->x.q=0):Delg xs i (i+1) xs:=by
 refine ⟨rfl,Nat.lt_succ_self _,hi,?_,rfl⟩
 have hx:=h2 _ (List.getElem?_eq_getElem hi)
 have hn:nzT (xs.take i)=xs.take i:=nz_all fun x hx=>by
  obtain ⟨k,hk,e⟩:=List.getElem_of_mem hx
  rw [List.length_take] at hk
  rw [List.getElem_take] at e
  exact h1 k x Yo (by rw [List.getElem?_eq_getElem (by omega),e])
 rw [List.take_succ_eq_append_getElem hi]
 unfold nzT at hn ⊢
 rw [List.filter_append,hn]
 simp [hx]
theorem delg_at {xs ys:List Tm} {i j:Nat} (h:Delg xs i j ys) (hj:j<xs.length):ys[j]?=some xs[j]:=by
 have h1:(ys.drop j)[0]?=(xs.drop j)[0]?:=by rw [h.2.2.2.2]
 rw [List.getElem?_drop,List.getElem?_drop,Nat.add_zero,List.getElem?_eq_getElem hj] at h1
 exact h1
theorem delg_skip {xs ys:List Tm} {i j:Nat} (h:Delg xs i j ys) (hj:j<xs.length) (hx:xs[j].q=0):Delg xs i (j+1) ys:=by
 obtain ⟨h1,h2,h3,h4,h5⟩:=h
 refine ⟨h1,Yo,hj,?_,?_⟩
 · rw [h4,List.take_succ_eq_append_getElem hj]
   unfold nzT
   rw [List.filter_append]
   simp [hx]
 · rw [<- List.drop_drop,<- List.drop_drop (l:=xs),h5]
theorem delg_keep {xs ys:List Tm} {i j:Nat} (h:Delg xs i j ys) (hj:j<xs.length) (hx:xs[j].q≠0):Delg xs (i+1) (j+1) (ys.set i xs[j]):=by
 obtain ⟨h1,h2,h3,h4,h5⟩:=h
 refine ⟨by rw [List.length_set];exact h1,Yo,hj,?_,?_⟩
 · rw [List.take_succ_eq_append_getElem (by rw [List.length_set];omega),List.take_set_of_le (Nat.le_refl _),h4,List.getElem_set_self,List.take_succ_eq_append_getElem hj]
   unfold nzT
   rw [List.filter_append]
   simp [hx]
 · rw [List.drop_set_of_lt (by omega),<- List.drop_drop,<- List.drop_drop (l:=xs),h5]
theorem delg_x {xs ys:List Tm} {i j:Nat} {x:Tm} (h:Delg xs i j ys) (hx:xs[j]?=some x):ys[j]?=some x/\(x.q=0->Delg xs i (j+1) ys)/\(x.q≠0->Delg xs (i+1) (j+1) (ys.set i x)):=by
 obtain ⟨hj,rfl⟩:=List.getElem?_eq_some_iff.1 hx
 exact ⟨delg_at h hj,delg_skip h hj,delg_keep h hj⟩
theorem delg_end {xs ys:List Tm} {i:Nat} (h:Delg xs i xs.length ys):ys.take i=nzT xs:=by
 have:=h.2.2.2.1
 rwa [List.take_length] at this
theorem del_t {w0 w:World} {L:Nat} {v:Value} {xs:List Tm} (h:Vr w0 w v xs) (hs:∀ x∈xs,Sz L x.q) (hL:L<=137438953472) (h40:xs.length<=1099511627776):
 Calls Tryz.prog 174 #[v,.func (.func 175) #[] #[]] w fun e w'=>∃ u,e=.returned u/\Vr w0 w' u (nzT xs):=by
 have hidx:=idx_t h hs hL h40
 have h0:w0.heap.size<=w.heap.size:=h.2.2.size
 rcases Nat.eq_zero_or_pos xs.length with hz | hz
 · obtain rfl:=List.eq_nil_of_length_eq_zero hz
   obtain ⟨A,cap,rfl,q1,q2,q3,q4⟩:=h.1.trd
   have HI:=Lib.hid hidx
   have HV:=Lib.hid h
   clear h hidx hs hL q1 q2 q3 q4
   go_enter Tryz.func174,Tryz.ntmps174
   go_wp2_with fail
   refine HI.out.mono ?_;rintro e w2 ⟨r,rfl,hb,h⟩
   have hr:r=-1:=by
    rcases h with ⟨h,-⟩ | ⟨i,-,h,-⟩
    · exact h
    · simp at h
   subst hr
   have R:=Lib.hid hb
   clear hb h
   go_wp2_with fail
   go_ret
   exact ⟨_,rfl,HV.out.keep R.out⟩
 obtain ⟨g,cap,rfl,hsr⟩:=h.1.sr hz
 obtain ⟨n,hn⟩:∃ n,xs.length=n:=⟨_,rfl⟩
 obtain ⟨hg0,hc1,hc2,-⟩:=hsr.shape hz
 rw [hn] at hidx h40 hz hc1 ⊢
 have HS:=Yh5 h hsr hs hL hn
 have HI:=Lib.hid hidx
 clear h hsr hs hL hn hidx
 go_enter Tryz.func174,Tryz.ntmps174
 go_wp2_with fail
 refine HI.out.mono ?_;rintro e w2 ⟨r,rfl,hb,h⟩
 rcases h with ⟨rfl,h⟩ | ⟨i,rfl,h1,h2,h3⟩
 · have R:=Yh2 hb (nz_all h)
   clear hb h
   go_wp2_with fail
   go_ret
   rw [R.q1]
   refine ⟨_,rfl,?_⟩
   have:=HS.p0.keep R.p0
   rwa [HS.q4] at this
 · have hd:=delg_start (xs:=xs) (by rw [HS.q4];exact h1) h2 h3
   have R:=Yh4 (HS.p1.keep hb) hd (fun x hx=>(HS.p0.2.1 x hx).keep hb) (Yb HS.p0.2.2 hb)
   have e1:((i:Int)==-1)=false:=beq_eq_false_iff_ne.2 Yo
   have hin:(i:Int)<(n:Int):=Yo
   clear hb hd h2 h3 HI
   go_wp2_with fail
   clear e1
   go_loopw [5,6] (fun z1 z2 wr=>∃ (i j:Nat) (ys:List Tm),z1=.int .i64 (i:Int)/\z2=.int .i64 (j:Int)/\i<j/\j<=n/\Hid (Sr wr w0.heap.size g cap ys/\Delg xs i j ys/\(∀ x∈xs,Qr w0 wr x.num x.q)/\Yg w0 wr)) (fun _ z2 _=>n - (intOf z2).toNat)
   case atStart=>exact ⟨i,i+1,xs,rfl,by go_num,Yo,Yo,R.out⟩
   case round=>
    clear R h1 hin
    obtain ⟨i,j,ys,rfl,rfl,hij,hjn,H⟩:=hrel
    by_cases hlt:j<n
    · have hjx:j<xs.length:=by rw [HS.q4];exact hlt
      obtain ⟨x,hx⟩:∃ x,xs[j]?=some x:=⟨_,List.getElem?_eq_getElem hjx⟩
      have hy:=delg_x H.p1 hx
      obtain ⟨E1,-,hg,-⟩:=H.p0.at_ hy.1
      obtain ⟨c0,c1,c2,c3⟩:=E1
      have d0:(j:Int)<(n:Int):=Yo
      have d1:(i:Int)<(n:Int):=Yo
      obtain ⟨r,hr⟩:∃ r,decide (x.q=0)=r:=⟨_,rfl⟩
      have HX:=Yh3 hy (List.mem_of_getElem? hx) hr
      clear hy hx hr hjx
      go_upto_region 8 with (fail)
      have X:=B4.new 85 wr (.int .i64 x.c) (.bool x.b) (.slice x.A x.l x.k) (.slice x.B x.m x.d)
      have hal:=Ya wr (.cells #[.int .i64 x.c,.bool x.b,.slice x.A x.l x.k,.slice x.B x.m x.d] 85)
      have T:=Yh5 (H.p0.keep hal) H.p1 (fun y hy=>(H.p2 y hy).keep hal) (Yb H.q3 hal) X
      obtain ⟨g7,hg7⟩:∃ k,k=wr.heap.size:=⟨_,rfl⟩
      have hgg:g≠g7:=by rw [hg7];exact Nat.ne_of_lt hg
      rw [<- hg7] at T ⊢
      generalize wr.alloc _=W1 at T ⊢
      clear X hal hg7 hg c0 c1 c2 c3 H
      obtain ⟨x0,x1,x2,x3⟩:=T.q4.facts
      go_wp2_with fail
      refine (del_c (L:=L) ((T.p2 x HX.p1).qv (HS.p2 x HX.p1)) HS.p3 HX.q2).mono ?_;rintro e w3 ⟨rfl,hb⟩
      have T2:=Yh5 (T.p0.keep hb) T.p1 (fun y hy=>(T.p2 y hy).keep hb) (Yb T.p3 hb) (T.q4.keep hb)
      clear hb T x0 x1 x2 x3
      obtain ⟨x0,x1,x2,x3⟩:=T2.q4.facts
      cases r with
      | true=>
       go_wp2_with fail
       case roundEnd=>exact ⟨⟨i,j+1,ys,rfl,by go_num,Yo,Yo,T2.p0,HX.p0.2.1 (of_decide_eq_true HX.q2),T2.p2,T2.p3⟩,by simp [intOf];omega⟩
      | false=>
       have hil:i<ys.length:=by rw [T2.p1.1,HS.q4];omega
       obtain ⟨yi,hyi⟩:∃ y,ys[i]?=some y:=⟨_,List.getElem?_eq_getElem hil⟩
       obtain ⟨⟨a0,a1,a2,a3⟩,-,-,hfr⟩:=T2.p0.at_ hyi
       have z0:=hfr (i*4);have z1:=hfr (i*4+1);have z2:=hfr (i*4+2);have z3:=hfr (i*4+3)
       have hgo:Hid (Sr (((((w3).setCell ⟨g,i*4,none⟩ (.int .i64 x.c)).setCell ⟨g,i*4+1,none⟩ (.bool x.b)).setCell ⟨g,i*4+2,none⟩ (.slice x.A x.l x.k)).setCell ⟨g,i*4+3,none⟩ (.slice x.B x.m x.d)) w0.heap.size g cap (ys.set i x)/\Delg xs (i+1) (j+1) (ys.set i x)/\(∀ y∈xs,Qr w0 (((((w3).setCell ⟨g,i*4,none⟩ (.int .i64 x.c)).setCell ⟨g,i*4+1,none⟩ (.bool x.b)).setCell ⟨g,i*4+2,none⟩ (.slice x.A x.l x.k)).setCell ⟨g,i*4+3,none⟩ (.slice x.B x.m x.d)) y.num y.q)/\Yg w0 (((((w3).setCell ⟨g,i*4,none⟩ (.int .i64 x.c)).setCell ⟨g,i*4+1,none⟩ (.bool x.b)).setCell ⟨g,i*4+2,none⟩ (.slice x.A x.l x.k)).setCell ⟨g,i*4+3,none⟩ (.slice x.B x.m x.d))):=
        ⟨T2.p0.put hil x,HX.p0.2.2 (of_decide_eq_false HX.q2),fun y hy=>(T2.p2 y hy).keepT (T2.p0.keepT4 _ _ _ _ _ _ _ _) (below_put4 T2.p3 hg0 _ _ _ _ _ _ _ _),below_put4 T2.p3 hg0 _ _ _ _ _ _ _ _⟩
       clear hil hyi hfr
       go_wp2_with fail
       case roundEnd=>exact ⟨⟨i+1,j+1,ys.set i x,by go_num,by go_num,Yo,Yo,hgo.out⟩,by simp [intOf];omega⟩
    · obtain rfl:j=n:=by omega
      have d0:¬ (j:Int)<(j:Int):=Yo
      have hyl:ys.length=j:=by rw [H.p1.1];exact HS.q4
      obtain ⟨-,-,-,-,hcs,hfr⟩:=H.p0.shape Yo
      have hlen:=flatT_len ys
      rw [hyl] at hlen
      obtain ⟨us,hcl⟩:=run_clear_terms wr g (i*4) (j - i) (cap - i) Yo (fun k hk=>by rw [hcs (i*4+k) _ (List.getElem?_eq_getElem (by omega))];rfl) (fun k hk=>hfr _)
      have hend:ys.take i=nzT xs:=delg_end (by have:=H.p1;rwa [<- HS.q4] at this)
      have hil:(nzT xs).length=i:=by rw [<- hend,List.length_take];omega
      have hfin:Hid (Vr w0 (wr.setCells g (i*4) us) (.slice (some ⟨g,0,none⟩) i cap) (nzT xs)):=by
       have hb:=below_setCells us hg0 (i*4) H.q3
       have hk:=own_keepTs us (i*4) H.p0
       refine ⟨?_,fun y hy=>(H.p2 y ((List.mem_filter.1 hy).1)).keepT hk hb,hb⟩
       have h1:=own_take (own_setCells us (i*4) H.p0) (k:=i) Yo
       rw [setL_take us _ _ _ (Nat.le_refl _),flatT_take,hend] at h1
       unfold To
       rw [hil]
       exact h1
      have hd2:(i:Int)<=(j:Int):=Yo
      have hd3:i<=cap:=Yo
      have hd4:j<=cap:=Yo
      have hd5:i≠cap:=Yo
      have hd6:(i:Int)<=(cap:Int):=Yo
      clear hcs hfr hlen hend hil hyl
      go_wp2_with fail
      go_ret
      exact ⟨_,rfl,hfin.out⟩
end
end
end Go.Proofs.YtclaiidoomdklaaGreat
