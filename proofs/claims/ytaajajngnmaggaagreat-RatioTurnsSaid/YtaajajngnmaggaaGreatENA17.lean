import Derived.Test.YtaajajngnmaggaaGreatENA15
set_option maxRecDepth 100000
set_option maxHeartbeats 8000000
set_option linter.unusedVariables false
set_option linter.unusedSimpArgs false
namespace Go.Proofs.YtaajajngnmaggaaGreat
section
namespace I
section
open Go Go.RowKit Go.Proofs Pl
def mkRs (cs:List Int) (l:Tms):Tms:=(cs.filter fun c=>decide (getV l c≠0)).map fun c=>(c,getV l c)
theorem mkRs_succ {cs:List Int} {k:Nat} {c:Int} (h:cs[k]?=some c) (l:Tms):mkRs (cs.take (k+1)) l=mkRs (cs.take k) l++(if getV l c=0 then [] else [(c,getV l c)]):=by
 unfold mkRs
 rw [take_f h,List.filter_append,List.map_append]
 congr 1
 split
 · rename_i h0;simp [h0]
 · rename_i h0;simp [h0]
theorem mkRs_len (cs:List Int) (l:Tms):(mkRs cs l).length<=cs.length:=by
 unfold mkRs;rw [List.length_map];exact List.length_filter_le _ _
theorem fqT_app (a b:Tms):fqT (a++b)=fqT a++fqT b:=List.map_append
theorem make_e {w:World} {L J:Nat} {v:Value} {l:Tms} (hv:Vt w L v l) (h0:0<L) (hL:L<=10000) (hn:l.length<=4096) (hs:∀ c,Sz J (getV l c)) (hK:J<=1048576):
 Calls Tryz.prog 127 #[v] w fun e w'=>∃ u,e=.returned u/\Tw w w' u (fqT (mkV l)):=by
 rw [<- mkR_eq]
 have hM:7+l.length*(5*L+1)<=1073741824:=by
  have:=Nat.mul_le_mul hn (show 5*L+1<=50001 by omega)
  omega
 obtain ⟨cs,hcs⟩:∃ cs,cs=placesC l:=⟨_,rfl⟩
 have hR:mkR l=mkRs cs l:=by rw [hcs];rfl
 rw [hR]
 obtain ⟨n,hnn⟩:∃ n,cs.length=n:=⟨_,rfl⟩
 have hnl:n<=4096:=by rw [<- hnn,hcs];exact Nat.le_trans (places_len l) hn
 have HL:=Yh9 hv h0 hL hn hs hK hM hcs hnn
 clear hv h0 hL hn hs hK hM hR hcs hnn
 go_enter Tryz.func127,Tryz.ntmps127
 go_upto_region 2 with (fail)
 have R0:Hid (Tw w (w.alloc (.cells #[] 63)) (.slice (some ⟨w.heap.size,0,none⟩) 0 0) []):=Tw.made w
 generalize w.alloc _=W0 at R0 ⊢
 go_wp2_with fail
 refine (places_e (HL.p0.keep R0.out.below) HL.p3).mono ?_;rintro e w1 ⟨pv,rfl,hp,hb⟩
 rw [<- HL.p7] at hp
 obtain ⟨Ap,kp,rfl⟩:=hp.shape
 rw [HL.q8] at hp ⊢
 obtain ⟨b0,hb0⟩:∃ b,b=W0.heap.size:=⟨_,rfl⟩
 rw [<- hb0] at hp
 have R1:Hid (Tw w w1 (.slice (some ⟨w.heap.size,0,none⟩) 0 0) []/\Pi w1 b0 (.slice Ap n kp) cs):=⟨R0.out.keep hb,hp⟩
 clear R0 hp hb hb0
 go_wp2_with fail
 go_loopw [3,5] (fun z1 z2 wr=>∃ (k:Nat) (u1:Value),u1=z1/\z2=.int .i64 (k:Int)/\k<=n/\Hid (Tw w wr u1 (fqT (mkRs (cs.take k) l))/\Pi wr b0 (.slice Ap n kp) cs)) (fun _ z2 _=>n - (intOf z2).toNat)
 case atStart=>exact ⟨0,_,rfl,rfl,Nat.zero_le _,by have h:=R1.out;exact ⟨by simpa [mkRs,fqT] using h.1,h.2⟩⟩
 case round=>
  clear R1
  obtain ⟨k,u1,rfl,rfl,hk,H⟩:=hrel
  by_cases hlt:k<n
  · skip
    have hkx:k<cs.length:=by rw [HL.q8];exact hlt
    obtain ⟨c,hc⟩:∃ c,cs[k]?=some c:=⟨_,List.getElem?_eq_getElem hkx⟩
    obtain ⟨gp,capp,e,hB,hgp,c0⟩:=H.q1.at_ hc
    injection e with e1 e2 e3
    subst e1
    have hsu:=mkRs_succ hc l
    have hlen:(fqT (mkRs (cs.take k) l)).length<=1048576:=by unfold fqT;rw [List.length_map];have:=mkRs_len (cs.take k) l;rw [List.length_take] at this;omega
    have HX:=Yh3 hsu hlen hc
    have d0:(k:Int)<(n:Int):=Yo
    clear hkx hc hB hgp e2 e3 hsu hlen capp
    go_wp2_with fail
    refine (get_e (HL.p0.keep H.p0.below) HL.p1 HL.p2 HL.p3).mono ?_;rintro e w4 ⟨v4,rfl,h4,hb⟩
    obtain ⟨p,A4,l4,k4,B4,m4,d4,rfl⟩:=h4.parts
    obtain ⟨q,hq⟩:∃ q,q=getV l c:=⟨_,rfl⟩
    rw [<- hq] at h4
    have HQ:=Lib.hid hq
    have T1:=Yh3 (H.p0.keep hb) (H.q1.keep hb) h4
    clear h4 hb H hq c0
    go_upto_region 7 with (fail)
    have hal:=Ya w4 (.cells #[.bool p,.slice A4 l4 k4,.slice B4 m4 d4] 96)
    have T2:=Yh4 (T1.p0.keep hal) (T1.p1.keep hal) (T1.q2.keep hal) (B3.new 96 w4 (.bool p) (.slice A4 l4 k4) (.slice B4 m4 d4))
    clear T1 hal
    obtain ⟨gq,hgq⟩:∃ g,g=w4.heap.size:=⟨_,rfl⟩
    rw [<- hgq] at T2 ⊢
    generalize w4.alloc _=W5 at T2 ⊢
    clear hgq
    obtain ⟨c1,c2,c3,-,-,-⟩:=T2.q3.facts
    go_wp2_with fail
    refine (sign_e T2.p2).mono ?_;rintro e w6 ⟨rfl,hb⟩
    have T3:=Yh4 (T2.p0.keep hb) (T2.p1.keep hb) (T2.p2.keep hb) (T2.q3.keep hb)
    clear T2 hb c1 c2 c3
    obtain ⟨s,hs⟩:∃ s,s=sgnQ q:=⟨_,rfl⟩
    rw [<- hs]
    have HS:=Lib.hid hs
    clear hs
    by_cases hz:q=0
    · skip
      have e1:(s==0)=true:=by rw [HS.out,hz];rfl
      have K2:Hid (Tw w w6 u1 (fqT (mkRs (cs.take (k+1)) l))/\Pi w6 b0 (.slice (some ⟨gp,0,none⟩) n kp) cs):=⟨by rw [HX.p0,<- HQ.out,if_pos hz,List.append_nil];exact T3.p0,T3.p1⟩
      clear hz T3
      go_wp2_with fail
      case roundEnd=>exact ⟨⟨k+1,u1,rfl,by go_num,Yo,K2.out⟩,by simp [intOf];omega⟩
    have e1:(s==0)=false:=beq_eq_false_iff_ne.2 (by rw [HS.out];exact fun e=>hz ((sgn_zero q).1 e))
    have HZ:=Lib.hid hz
    clear hz
    have HC:∀ W:World,Pi W b0 (.slice (some ⟨gp,0,none⟩) n kp) cs->B3 96 W gq (.bool p) (.slice A4 l4 k4) (.slice B4 m4 d4)->W.cell? ⟨gp,k,none⟩=some (.int .i64 c)/\Ye3 W gq (.bool p) (.slice A4 l4 k4) (.slice B4 m4 d4):=fun W hp hb=>by
     obtain ⟨gp2,capp,e,-,-,c0⟩:=hp.at_ HX.q2
     injection e with e1 e2 e3
     injection e1 with e1
     injection e1 with e1
     subst e1
     obtain ⟨c1,c2,c3,-,-,-⟩:=hb.facts
     exact ⟨c0,c1,c2,c3⟩
    have HCC:=Lib.hid HC
    clear HC
    obtain ⟨c0,c1,c2,c3⟩:=HCC.out _ T3.p1 T3.q3
    go_upto_region 8 with (fail)
    refine wp_region_held_drew (S:=fun W=>W.cell? ⟨gp,k,none⟩=some (.int .i64 c)/\Ye3 W gq (.bool p) (.slice A4 l4 k4) (.slice B4 m4 d4)) (by kernel_rfl) ⟨c0,c1,c2,c3⟩ (fun Hh=>?_)
    clear c0 c1 c2 c3
    refine rgRun 6 [0,1,2,3,4,5] Hh fun K hK=>?_
    repeat refine rgA ?_
    refine hK _ _ ?_;clear hK K
    have T4:Hid (Tw w w6.drew u1 (fqT (mkRs (cs.take k) l))/\Pi w6.drew b0 (.slice (some ⟨gp,0,none⟩) n kp) cs/\Qe w6.drew (7+l.length*(5*L+1)) (.agg #[.bool p,.slice A4 l4 k4,.slice B4 m4 d4]) q/\B3 96 w6.drew gq (.bool p) (.slice A4 l4 k4) (.slice B4 m4 d4)):=⟨T3.p0.keep (below_dr _ 1),T3.p1.keep (below_dr _ 1),T3.p2.keep (below_dr _ 1),T3.q3.keep (below_dr _ 1)⟩
    generalize w6.drew=Wd at T4 Hh ⊢
    clear T3
    refine rgO 6 fun K hK=>?_
    go_simp
    go_at_call 67;refine (to_r (K:=J) T4.p2 HL.p6 (by rw [HQ.out];exact HL.p4 c) HL.p5).mono ?_;rintro e w7 ⟨v7,rfl,h7⟩
    obtain ⟨b7,A7,l7,k7,B7,m7,d7,rfl⟩:=h7.parts
    have hf7:=h7.fw
    have T5:=Yh4 (T4.p0.keep hf7.below) (T4.p1.keep hf7.below) (T4.q3.keep hf7.below) (hf7.from T4.p0.below)
    clear h7 hf7 Hh T4
    go_wp2_with fail
    refine rgK hK (HCC.out _ T5.p1 T5.p2) fun Hh=>?_;clear hK K
    refine rgT 7 Hh ?_
    refine rgO 8 fun K hK=>?_
    go_simp
    have hal:=Ya w7 (.cells #[.int .i64 c,.bool b7,.slice A7 l7 k7,.slice B7 m7 d7] 63)
    have T6:=Yh5 (T5.p0.keep hal) (T5.p1.keep hal) (T5.p2.keep hal) (T5.q3.keep hal) (Bl.new w7 63 [.int .i64 c,.bool b7,.slice A7 l7 k7,.slice B7 m7 d7])
    refine rgK hK (HCC.out _ T6.p1 T6.p2) fun Hh=>?_;clear hK K
    clear T5 hal
    obtain ⟨gn,hgn⟩:∃ k,w7.heap.size=k:=⟨_,rfl⟩
    rw [hgn] at T6 ⊢
    generalize w7.alloc _=W8 at T6 Hh ⊢
    clear hgn
    refine rgO 9 fun K hK=>?_
    rw [if_pos (by rfl)]
    refine app_t (t:=(c,fq q)) (.tmp 25) (.tmp 33) rfl (x:=⟨c,b7,A7,l7,k7,B7,m7,d7,q⟩) rfl rfl T6.p0 rfl (fq_q q).symm T6.p3 T6.q4 HX.p1 ?_
    intro u2 w2 k1 k2 k3
    have K2:Hid (Tw w w2 u2 (fqT (mkRs (cs.take (k+1)) l))/\Pi w2 b0 (.slice (some ⟨gp,0,none⟩) n kp) cs/\B3 96 w2 gq (.bool p) (.slice A4 l4 k4) (.slice B4 m4 d4)):=⟨by rw [HX.p0,<- HQ.out,if_neg HZ.out,fqT_app];exact k1,own_keepT T6.p1 (k2 3 Yd),(k2 96 Yd).b3 T6.p2⟩
    clear k1 k2 k3
    refine rgK hK (HCC.out _ K2.p1 K2.q2) fun Hh=>?_;clear hK K
    refine rgT 10 Hh ?_
    refine Yw ?_
    clear Hh
    clear T6
    go_wp2_with fail
    case roundEnd=>exact ⟨⟨k+1,u2,rfl,by go_num,Yo,K2.p0,K2.p1⟩,by simp [intOf];omega⟩
  · have d0:¬ (k:Int)<(n:Int):=by omega
    have hf:Hid (Tw w wr u1 (fqT (mkRs cs l))):=by
     have h:=H.p0
     rw [List.take_of_length_le (by rw [HL.q8];omega)] at h
     exact h
    go_wp2_with fail
    go_ret
    exact ⟨_,rfl,hf.out⟩
end
end I
end
section
section
open Go Go.RowKit Go.Proofs Pl
section
variable {α:Type} {f:α->List Value} {xs ys:List α} {s:Nat} {w:World} {T:TypeId} {v u:Value}
theorem Rr.made (w:World) (T:TypeId) (s:Nat) (f:α->List Value) (_:0<s):Rr (w.alloc (.cells #[] T)) w.heap.size T s f (.slice (some ⟨w.heap.size,0,none⟩) 0 0) []:=
 World.ownsRow_made (base:=w.heap.size) (e:=T) (size:=s) w #[] 0 (Nat.le_refl _) (Nat.zero_le _) (by simp)
end
end
end
section
open Go Go.RowKit Go.Proofs
section
variable {P:Program} {md:Region.Mode} {ops:Array Oper} {Q:Exit->Act->World->Prop} {S:World->Prop}
def headsR (n s:Nat):Array Bool:=((List.range s).map fun i=>decide (i<n)).toArray
theorem heads_size (n s:Nat):(headsR n s).size=s:=by simp [headsR]
theorem heads_get {n s i:Nat} (h:i<s):(headsR n s)[i]?=some (decide (i<n)):=by
 simp [headsR,h]
theorem heads_getD {n s i:Nat} (d:Bool) (h:i<s):(headsR n s).getD i d=decide (i<n):=by
 have:=heads_get (n:=n) h
 simp [Array.getD_eq_getD_getElem?,this]
def tailOk (md:Region.Mode) (ops:Array Oper) (n:Nat):Bool:=
 decide (n<ops.size) && (List.range ops.size).all fun i=>match ops[i]? with
  | none=>true
  | some o=>(o.after.all fun e=>!Region.binds md e || decide (e.on<i)) &&
   (if i<n then (List.range (n+1)).any fun j=>decide (i<j) && (match ops[j]? with | none=>false | some oj=>oj.after.any fun e=>Region.binds md e && e.on==i)
    else if n<i then o.after.any fun e=>Region.binds md e && decide (n<=e.on) else true)
theorem tailOk_lt {n:Nat} (h:tailOk md ops n=true):n<ops.size:=by
 unfold tailOk at h
 exact of_decide_eq_true (Bool.and_eq_true_iff.1 h).1
theorem tailOk_at {n i:Nat} {o:Oper} (h:tailOk md ops n=true) (ho:ops[i]?=some o):
 (∀ e∈o.after,Region.binds md e=true->e.on<i)/\(i<n->∃ j oj,i<j/\j<=n/\ops[j]?=some oj/\∃ e∈oj.after,Region.binds md e=true/\e.on=i)/\
 (n<i->∃ e∈o.after,Region.binds md e=true/\n<=e.on):=by
 unfold tailOk at h
 have hi:i<ops.size:=(Array.getElem?_eq_some_iff.1 ho).1
 have h1:=(List.all_eq_true.1 (Bool.and_eq_true_iff.1 h).2) i (List.mem_range.2 hi)
 simp only [ho] at h1
 obtain ⟨h2,h3⟩:=Bool.and_eq_true_iff.1 h1
 refine ⟨fun e he hb=>?_,fun hlt=>?_,fun hgt=>?_⟩
 · have:=(Array.all_eq_true_iff_forall_mem.1 h2) e he
   simpa [hb] using this
 · rw [if_pos hlt] at h3
   obtain ⟨j,hj,hk⟩:=List.any_eq_true.1 h3
   have hjn:=List.mem_range.1 hj
   obtain ⟨h4,h5⟩:=Bool.and_eq_true_iff.1 hk
   cases hoj:ops[j]? with
   | none=>simp [hoj] at h5
   | some oj=>
    simp only [hoj] at h5
    obtain ⟨e,he,hb⟩:=Array.any_eq_true'.1 h5
    obtain ⟨hb1,hb2⟩:=Bool.and_eq_true_iff.1 hb
    exact ⟨j,oj,of_decide_eq_true h4,Yo,hoj,e,he,hb1,by simpa using hb2⟩
 · rw [if_neg (by omega),if_pos hgt] at h3
   obtain ⟨e,he,hb⟩:=Array.any_eq_true'.1 h3
   obtain ⟨hb1,hb2⟩:=Bool.and_eq_true_iff.1 hb
   exact ⟨e,he,hb1,of_decide_eq_true hb2⟩
def LateR (P:Program) (md:Region.Mode) (ops:Array Oper) (n:Nat) (Q:Exit->Act->World->Prop):Exit->Act->World->Prop
 | .normal,a,w=>wpAny P md ops Q (ops.size - n) (headsR n ops.size) a w
 | x,a,w=>Q x a w
theorem wpOp_late {n i:Nat} {K:Act->World->Prop} {a:Act} {w:World} (h:wpOp P ops (LateR P md ops n Q) i K a w):wpOp P ops Q i K a w:=by
 unfold wpOp at*
 split
 · rename_i ho;simpa [ho] using h
 · rename_i o ho
   simp only [ho] at h
   split
   · rename_i hw
     simp only [hw,if_true] at h
     rcases h with h | ⟨h1,h2⟩
     · refine .inl ?_
       unfold Oper.wp at*
       generalize (execOp a.eval o).run P w=r at*
       cases r with
       | ok m w'=>
        cases m<;>simp only [Oper.upon] at h ⊢<;>first | exact h | skip
       | halt x w'=>cases x<;>simp only [Oper.upon] at h ⊢<;>exact h
     · exact .inr ⟨h1,h2⟩
   · rename_i hw;simp only [hw] at h;exact h
theorem wpAny_more:∀ (f:Nat) (l:Array Bool) (a:Act) (w:World),wpAny P md ops Q f l a w->wpAny P md ops Q (f+1) l a w
 | 0,l,a,w,h=>⟨fun _=>h.2,by rw [h.1];intro i hi;cases hi⟩
 | f+1,l,a,w,h=>⟨h.1,fun i hi=>wpOp_mono (fun a w=>wpAny_more f _ a w) (h.2 i hi)⟩
theorem wpAny_plus {f:Nat} {l:Array Bool} {a:Act} {w:World} (h:wpAny P md ops Q f l a w):∀ k,wpAny P md ops Q (k+f) l a w
 | 0=>by rw [Nat.zero_add];exact h
 | k+1=>by rw [Nat.add_right_comm];exact wpAny_more _ _ _ _ (wpAny_plus h k)
structure AheadR (md:Region.Mode) (ops:Array Oper) (n:Nat) (l l':Array Bool):Prop where
 size:l.size=ops.size
 size':l'.size=ops.size
 low:∀ i,i<n->l'.getD i true=l.getD i true
 high:∀ i,n<=i->i<ops.size->l.getD i true=false/\l'.getD i true=true
 closed:∀ (i:Nat) (o:Oper),i<n->ops[i]?=some o->l.getD i true=true->∀ e∈o.after,Region.binds md e=true->l.getD e.on true=true
theorem getD_any {l:Array Bool} {i:Nat} (h:i<l.size) (d d':Bool):l.getD i d=l.getD i d':=by
 simp [Array.getD,h]
theorem early_all {n:Nat} {l l':Array Bool} (hok:tailOk md ops n=true) (h:AheadR md ops n l l') {on:Oper} (ho:ops[n]?=some on)
 (hn:∀ e∈on.after,Region.binds md e=true->l.getD e.on true=true):∀ i,i<n->l.getD i true=true:=by
 have key:∀ d i,i<n->n - i=d->l.getD i true=true:=by
  intro d
  induction d using Nat.strongRecOn with
  | _ d ih=>
   intro i hi hd
   have hlt:=tailOk_lt hok
   obtain ⟨o,hoi⟩:∃ o,ops[i]?=some o:=⟨_,Array.getElem?_eq_getElem Yo⟩
   obtain ⟨j,oj,h1,h2,h3,e,he,hb,hei⟩:=(tailOk_at hok hoi).2.1 hi
   by_cases hjn:j=n
   · subst hjn
     rw [ho] at h3;injection h3 with h3;subst h3
     rw [<- hei];exact hn e he hb
   · have hj:=ih (n - j) Yo j Yo rfl
     rw [<- hei];exact h.closed j oj Yo h3 hj e he hb
 exact fun i hi=>key (n - i) i hi rfl
theorem early_heads {n:Nat} {l l':Array Bool} (h:AheadR md ops n l l') (hall:∀ i,i<n->l.getD i true=true):l=headsR n ops.size:=by
 refine Array.ext (by rw [h.size,heads_size]) fun i hi hi2=>?_
 have e1:l.getD i true=l[i]:=by simp [Array.getD,hi]
 have e2:(headsR n ops.size).getD i true=(headsR n ops.size)[i]:=by simp [Array.getD,hi2]
 have hs:i<ops.size:=by rw [<- h.size];exact hi
 rw [<- e1,<- e2,heads_getD true hs]
 by_cases hin:i<n
 · rw [hall i hin,decide_eq_true hin]
 · rw [(h.high i (by omega) hs).1,decide_eq_false hin]
theorem early_ready {n j:Nat} {l l':Array Bool} (hok:tailOk md ops n=true) (h:AheadR md ops n l l') (hj:j<n):j∈Region.ready md ops l↔j∈Region.ready md ops l':=by
 have hlt:=tailOk_lt hok
 rw [mem_ready,mem_ready,h.low j hj]
 have key:∀ (o:Oper) (e:Edge),ops[j]?=some o->e∈o.after->Region.binds md e=true->l.getD e.on false=l'.getD e.on false:=fun o e ho he hb=>by
  have:=(tailOk_at hok ho).1 e he hb
  rw [getD_any (by rw [h.size];omega) false true,getD_any (by rw [h.size'];omega) false true,h.low _ (by omega)]
 constructor
 · rintro ⟨h1,o,ho,hall⟩
   exact ⟨h1,o,ho,fun e he hb=>by rw [<- key o e ho he hb];exact hall e he hb⟩
 · rintro ⟨h1,o,ho,hall⟩
   exact ⟨h1,o,ho,fun e he hb=>by rw [key o e ho he hb];exact hall e he hb⟩
theorem early_step {n j:Nat} {l l':Array Bool} (hok:tailOk md ops n=true) (h:AheadR md ops n l l') (hj:j<n) (hr:j∈Region.ready md ops l):AheadR md ops n (l.setIfInBounds j true) (l'.setIfInBounds j true):=by
 have hlt:=tailOk_lt hok
 have hset:∀ (m:Array Bool) (i:Nat),m.size=ops.size->(m.setIfInBounds j true).getD i true=if i=j then true else m.getD i true:=fun m i hm=>by
  by_cases e:i=j
  · subst e;rw [if_pos rfl];simp [Array.getD,hm]
  · rw [if_neg e,getD_set_ne true (Ne.symm e)]
 refine ⟨by simp [h.size],by simp [h.size'],fun i hi=>?_,fun i hi hs=>?_,fun i o hi ho hl e he hb=>?_⟩
 · rw [hset _ _ h.size,hset _ _ h.size',h.low i hi]
 · rw [hset _ _ h.size,hset _ _ h.size',if_neg (by omega),if_neg (by omega)];exact h.high i hi hs
 · rw [hset _ _ h.size] at hl ⊢
   by_cases e1:e.on=j
   · rw [if_pos e1]
   · rw [if_neg e1]
     by_cases e2:i=j
     · subst e2
       obtain ⟨-,o',ho',hall⟩:=mem_ready.1 hr
       rw [ho] at ho';injection ho' with ho';subst ho'
       have hlow:=(tailOk_at hok ho).1 e he hb
       rw [getD_any (by rw [h.size];omega) true false];exact hall e he hb
     · rw [if_neg e2] at hl
       exact h.closed i o hi ho hl e he hb
theorem early_low {n:Nat} {l l':Array Bool} (hok:tailOk md ops n=true) (h:AheadR md ops n l l') (hnil:Region.ready md ops l'=[]):∀ i,i<n->l.getD i true=true:=by
 have hlt:=tailOk_lt hok
 intro i
 induction i using Nat.strongRecOn with
 | _ i ih=>
  intro hi
  cases hg:l.getD i true with
  | true=>rfl
  | false=>
   obtain ⟨o,hoi⟩:∃ o,ops[i]?=some o:=⟨_,Array.getElem?_eq_getElem Yo⟩
   have:i∈Region.ready md ops l:=mem_ready.2 ⟨hg,o,hoi,fun e he hb=>by
    have hlow:=(tailOk_at hok hoi).1 e he hb
    rw [getD_any (by rw [h.size];omega) false true];exact ih e.on hlow Yo⟩
   rw [early_ready hok h hi,hnil] at this
   cases this
theorem wpAny_late {n:Nat} (hok:tailOk md ops n=true):∀ (f:Nat) (l l':Array Bool) (a:Act) (w:World),AheadR md ops n l l'->
 wpAny P md ops (LateR P md ops n Q) f l' a w->wpAny P md ops Q (f+(ops.size - n)) l a w:=by
 intro f
 induction f with
 | zero=>
  intro l l' a w h hw
  rw [Nat.zero_add,early_heads h (early_low hok h hw.1)]
  exact hw.2
 | succ f ih=>
  intro l l' a w h hw
  have hlt:=tailOk_lt hok
  by_cases hnil:Region.ready md ops l'=[]
  · rw [early_heads h (early_low hok h hnil)]
    exact wpAny_plus (hw.1 hnil) (f+1)
  · rw [Nat.add_right_comm]
    obtain ⟨i,hi⟩:=List.exists_mem_of_ne_nil _ hnil
    have hin:∀ j,j∈Region.ready md ops l'->j<n:=fun j hj=>by
     obtain ⟨h1,o,ho,-⟩:=mem_ready.1 hj
     refine Nat.lt_of_not_le fun hge=>?_
     have:=(h.high j hge (Array.getElem?_eq_some_iff.1 ho).1).2
     rw [h1] at this;cases this
    refine ⟨fun h0=>?_,fun j hj=>?_⟩
    · have:=(early_ready hok h (hin i hi)).2 hi
      rw [h0] at this;cases this
    · have hjn:j<n:=by
       refine Nat.lt_of_not_le fun hge=>?_
       obtain ⟨h1,o,ho,hall⟩:=mem_ready.1 hj
       have hjs:j<ops.size:=(Array.getElem?_eq_some_iff.1 ho).1
       by_cases e:j=n
       · subst e
         have hal:=early_all hok h ho fun e he hb=>by
          have hlow:=(tailOk_at hok ho).1 e he hb
          rw [getD_any (by rw [h.size];omega) true false];exact hall e he hb
         have h2:=hin i hi
         have h3:=(early_ready hok h h2).2 hi
         have h4:=(mem_ready.1 h3).1
         rw [hal i h2] at h4;cases h4
       · obtain ⟨e,he,hb,hne⟩:=(tailOk_at hok ho).2.2 Yo
         have hlow:=(tailOk_at hok ho).1 e he hb
         have h5:=hall e he hb
         rw [getD_any (by rw [h.size];omega) false true,(h.high e.on hne (by omega)).1] at h5
         cases h5
      have hj':=(early_ready hok h hjn).1 hj
      exact wpOp_mono (fun a w hk=>ih _ _ a w (early_step hok h hjn hj) hk) (wpOp_late (hw.2 j hj'))
theorem wp_region_late (n:Nat) {id:Nat} {a:Act} {w:World} (hm:P.follows .mixedOrders=true) (hok:tailOk .any ops n=true) (m:Array Bool)
 (hmask:m=((List.range ops.size).map fun i=>decide (n<=i)).toArray) (hS:S w.drew)
 (h:S w.drew->wpAnyH P .any ops (LateR P .any ops n Q) S n m a w.drew):(Code.region id ops true).wp P Q a w:=by
 have hlt:=tailOk_lt hok
 refine wp_region_any hm ?_
 have h1:=wpAny_of_held _ _ _ _ (h hS)
 have h2:=wpAny_late hok n (Array.replicate ops.size false) m a w.drew ?_ h1
 · rwa [show n+(ops.size - n)=ops.size from by omega] at h2
 · subst hmask
   refine ⟨by simp,by simp,fun i hi=>?_,fun i hi hs=>⟨?_,?_⟩,fun i o hi ho hl e he hb=>?_⟩
   · have:i<ops.size:=by omega
     simp [Array.getD,this];omega
   · simp [Array.getD,hs]
   · simp [Array.getD,hs,hi]
   · have:i<ops.size:=by omega
     simp [Array.getD,this] at hl
theorem late_go {n:Nat} {a:Act} {w:World} {T:World->Prop} (m:Array Bool) (k:Nat) (hm:headsR n ops.size=m) (hk:ops.size - n=k) (h:wpAnyH P md ops Q T k m a w):LateR P md ops n Q .normal a w:=by
 subst hm;subst hk
 exact wpAny_of_held _ _ _ _ h
end
end
section
section
open Go Go.RowKit Go.Proofs Pl
theorem below_d (w:World):Below w.heap.size w w.drew:=below_dr w 1
end
end
section
section
open Go Go.RowKit Go.Proofs Pl
theorem Tx.one {w:World} {g:Nat} {c:Int} {b:Bool} {A B:Option Addr} {l k m d:Nat} {f:Fx} (X:Bl w 63 g [.int .i64 c,.bool b,.slice A l k,.slice B m d]) (h:Fv w (.agg #[.bool b,.slice A l k,.slice B m d]) f):Tx w (.slice (some ⟨g,0,none⟩) 1 1) [(c,f)]:=by
 refine ⟨[⟨c,b,A,l,k,B,m,d,f.q⟩],⟨some ⟨g,0,none⟩,1,rfl,Nat.le_refl _,by unfold maxLen;decide,by simp,.inr ⟨g,0,rfl,X.lt,fun i u hi=>?_⟩⟩,rfl,fun i x y hx hy=>?_⟩
 · rw [Nat.zero_add];exact X.ld i (by simpa [flat,Tm.cs] using hi)
 · match i,hx,hy with
   | 0,hx,hy=>
    obtain rfl:=Option.some.inj hx
    obtain rfl:=Option.some.inj hy
    exact ⟨rfl,rfl,h⟩
   | i+1,hx,_=>cases hx
theorem fit_cols {l:LPx} (hf:Fit l) {i:Nat} {c:List (Int × Fx)} (h:l.cols[i]?=some c):c.length<=30/\∀ t∈c,t.2.xs.length<=6/\t.2.ds.length<=6:=hf.2.1 c (List.mem_of_getElem? h)
end
end
section
open Go Go.RowKit Go.Proofs Go.Lib
section
variable {P:Program} {md:Region.Mode} {ops:Array Oper} {Q:Exit->Act->World->Prop} {S:World->Prop} {oi:Oper} {v:Value} {fuel:Nat} {listed:Array Bool} {a:Act} {w:World} {rs:List Nat} {i:Nat}
def readyAt (md:Region.Mode) (ops:Array Oper) (l:Array Bool) (i:Nat):Bool:=!l.getD i true && ((ops[i]?).map (·.after.all fun e=>!Region.binds md e || l.getD e.on false)).getD false
theorem readyAt_mem {l:Array Bool} (h:readyAt md ops l i=true):(Region.ready md ops l).contains i=true:=by
 rw [List.contains_iff_mem]
 refine List.mem_filter.2 ⟨List.mem_range.2 ?_,h⟩
 cases ho:ops[i]? with
 | none=>simp [readyAt,ho] at h
 | some o=>exact (Array.getElem?_eq_some_iff.1 ho).1
def freeD (md:Region.Mode) (ops:Array Oper) (i:Nat):Bool:=
 match ops[i]? with
 | none=>false
 | some oi=>(List.range ops.size).all fun j=>j==i || oi.after.any (fun e=>Region.binds md e && e.on==j) || match ops[j]? with
  | some oj=>oj.after.any (fun e=>Region.binds md e && e.on==i) || oi.apart ops oj
  | none=>true
def freeAll (md:Region.Mode) (ops:Array Oper) (fs:List Nat):Bool:=Region.noSelect ops && fs.all fun i=>freeD md ops i
theorem free_of {l:Array Bool} (h:freeD md ops i=true) (hr:readyAt md ops l i=true):Region.free md ops l i=true:=by
 unfold freeD at h
 unfold Region.free
 cases ho:ops[i]? with
 | none=>rw [ho] at h;cases h
 | some o=>
  rw [ho] at h
  simp only [List.all_eq_true,List.mem_range] at h ⊢
  intro j hj
  have:=h j hj
  simp only [Bool.or_eq_true] at this ⊢
  rcases this with (h1 | h1) | h1
  · exact .inl (.inl h1)
  · refine .inl (.inr ?_)
    obtain ⟨e,he,hb⟩:=Array.any_eq_true'.1 h1
    simp only [Bool.and_eq_true,beq_iff_eq] at hb
    simp only [readyAt,ho,Option.map_some,Option.getD_some,Bool.and_eq_true] at hr
    have h2:=Array.all_eq_true_iff_forall_mem.1 hr.2 e he
    rw [hb.1,hb.2] at h2
    simp only [Bool.not_true,Bool.false_or] at h2
    rcases Nat.lt_or_ge j l.size with h' | h'
    · simp [h'] at h2 ⊢;exact h2
    · simp [h'] at h2
  · exact .inr h1
theorem freeAll_free {fs:List Nat} {l:Array Bool} (h:freeAll md ops fs=true) (hi:fs.contains i=true) (hr:readyAt md ops l i=true):Region.free md ops l i=true:=by
 unfold freeAll at h
 rw [Bool.and_eq_true,List.all_eq_true] at h
 exact free_of (h.2 i (List.contains_iff_mem.1 hi)) hr
theorem freeAll_noSelect {fs:List Nat} (h:freeAll md ops fs=true):Region.noSelect ops=true:=by
 unfold freeAll at h
 rw [Bool.and_eq_true] at h
 exact h.1
theorem rgFree (fs:List Nat) (bl:List Bool) (h:Hid (freeAll md ops fs=true)->wpAnyH P md ops Q S fuel bl.toArray a w) (hf:freeAll md ops fs=true:=by as_aux_lemma=>kernel_rfl) (hl:listed=bl.toArray:=by as_aux_lemma=>kernel_rfl):wpAnyH P md ops Q S fuel listed a w:=by
 subst hl;exact h hf
theorem rgTk (i d:Nat) {l:List Value} {bl:List Bool} {ds:List Deferred} {fs:List Nat} (hF:Hid (freeAll md ops fs=true)) (hS:S w) (h:wpAnyH P md ops Q S fuel (bl.set i true).toArray ⟨(l.set d v).toArray,ds⟩ w)
 (hi:ops[i]?=some oi:=by simp only [List.getElem?_toArray,List.getElem?_cons_succ,List.getElem?_cons_zero];rfl) (hd:oi.dst=some d:=by rfl)
 (hm:fs.contains i=true:=by as_aux_lemma=>kernel_rfl) (hr:readyAt md ops bl.toArray i=true:=by as_aux_lemma=>kernel_rfl)
 (hw:Region.wanted oi (yielded ops l.toArray)=true:=by rfl)
 (hy:∀ w,S w->(execOp (Act.eval ⟨l.toArray,ds⟩) oi).run P w=.ok (.value v) w:=by (intro w hSw;(try dsimp only at hSw);(first | (go_simp;done) | (go_simp;with_reducible rfl) | (go_simp;rw [if_neg (by omega)]))))
 (hQ:∀ c a w,Q (.panic c) (a.put (some d) v) w->Q (.panic c) a w:=by exact fun _ _ _ h=>h):wpAnyH P md ops Q S (fuel+1) bl.toArray ⟨l.toArray,ds⟩ w:=by
 refine wpAnyH_take hi (freeAll_noSelect hF) (freeAll_free hF hm hr) (readyAt_mem hr) (by rw [hd];exact hQ) (.inl ⟨hw,hy⟩) hS ?_
 rw [hd,List.setIfInBounds_toArray]
 show wpAnyH P md ops Q S fuel _ ⟨l.toArray.setIfInBounds d v,ds⟩ w
 rw [List.setIfInBounds_toArray]
 exact h
theorem rgU (i d:Nat) {l l':List Value} {bl bl':List Bool} {ds:List Deferred} {fs:List Nat} (hF:Hid (freeAll md ops fs=true)) (hS:S w) (h:wpAnyH P md ops Q S fuel bl'.toArray ⟨l'.toArray,ds⟩ w)
 (hi:ops[i]?=some oi:=by simp only [List.getElem?_toArray,List.getElem?_cons_succ,List.getElem?_cons_zero];rfl) (hd:oi.dst=some d:=by rfl)
 (hm:fs.contains i=true:=by as_aux_lemma=>kernel_rfl) (hr:readyAt md ops bl.toArray i=true:=by as_aux_lemma=>kernel_rfl)
 (hw:Region.wanted oi (yielded ops l.toArray)=true:=by rfl)
 (hy:∀ w,S w->(execOp (Act.eval ⟨l.toArray,ds⟩) oi).run P w=.ok (.value v) w:=by (intro w hSw;(try dsimp only at hSw);(first | (go_simp;done) | (go_simp;with_reducible rfl) | (go_simp;rw [if_neg (by omega)]))))
 (hQ:∀ c a w,Q (.panic c) (a.put (some d) v) w->Q (.panic c) a w:=by exact fun _ _ _ h=>h)
 (e1:bl.set i true=bl':=by first | (dsimp only [Ys,Yt];done) | (dsimp only [Ys,Yt];exact rfl) | exact rfl | kernel_rfl) (e2:l.set d v=l':=by first | (dsimp only [Ys,Yt];done) | (dsimp only [Ys,Yt];exact rfl) | exact rfl | kernel_rfl):wpAnyH P md ops Q S (fuel+1) bl.toArray ⟨l.toArray,ds⟩ w:=by
 subst e1;subst e2
 exact rgTk i d hF hS h hi hd hm hr hw hy hQ
def skipsOk (md:Region.Mode) (ops:Array Oper) (fs:List Nat):List (Nat × Option Nat)->Array Bool->Act->Bool
 | [],_,_=>true
 | (i,d)::is,l,a=>(match ops[i]? with | none=>false | some o=>decide (o.dst=d) && !(Region.wanted o (yielded ops a.tmps))) && fs.contains i && readyAt md ops l i && skipsOk md ops fs is (l.setIfInBounds i true) (a.put d undef)
def QsOk (Q:Exit->Act->World->Prop):List (Nat × Option Nat)->Prop
 | []=>True
 | p::r=>(∀ c a w,Q (.panic c) (Act.put a p.2 undef) w->Q (.panic c) a w)/\QsOk Q r
theorem rgSks_ {fs:List Nat} (hF:Hid (freeAll md ops fs=true)) (hS:S w):∀ (is:List (Nat × Option Nat)) (listed:Array Bool) (a:Act),QsOk Q is->skipsOk md ops fs is listed a=true->
 wpAnyH P md ops Q S fuel (is.foldl (fun l p=>l.setIfInBounds p.1 true) listed) (is.foldl (fun a p=>a.put p.2 undef) a) w->wpAnyH P md ops Q S (fuel+is.length) listed a w
 | [],_,_,_,_,h=>h
 | (i,d)::is,l,a,hQ,hc,h=>by
  simp only [skipsOk,Bool.and_eq_true] at hc
  obtain ⟨⟨⟨h1,h2⟩,h3⟩,h4⟩:=hc
  cases ho:ops[i]? with
  | none=>rw [ho] at h1;cases h1
  | some o=>
   rw [ho] at h1
   simp only [Bool.and_eq_true,decide_eq_true_eq,Bool.not_eq_true'] at h1
   obtain ⟨rfl,h5⟩:=h1
   rw [List.length_cons,<- Nat.add_assoc]
   exact wpAnyH_take ho (freeAll_noSelect hF) (freeAll_free hF h2 h3) (readyAt_mem h3) hQ.1 (.inr ⟨h5,rfl⟩) hS (rgSks_ hF hS is _ _ hQ.2 h4 h)
def skL (is:List (Nat × Option Nat)) (bl:List Bool):List Bool:=is.foldl (fun l p=>l.set p.1 true) bl
def skA (is:List (Nat × Option Nat)) (l:List Value):List Value:=is.foldl (fun l p=>match p.2 with | some d=>l.set d undef | none=>l) l
theorem skL_eq:∀ (is:List (Nat × Option Nat)) (bl:List Bool),is.foldl (fun l p=>l.setIfInBounds p.1 true) bl.toArray=(skL is bl).toArray
 | [],_=>rfl
 | p::is,bl=>by
  rw [List.foldl_cons,List.setIfInBounds_toArray]
  exact skL_eq is _
theorem skA_eq {ds:List Deferred}:∀ (is:List (Nat × Option Nat)) (l:List Value),is.foldl (fun a p=>Act.put a p.2 undef) ⟨l.toArray,ds⟩=⟨(skA is l).toArray,ds⟩
 | [],_=>rfl
 | (i,none)::is,l=>by
  rw [List.foldl_cons]
  exact skA_eq is _
 | (i,some d)::is,l=>by
  rw [List.foldl_cons]
  show is.foldl _ (⟨l.toArray.setIfInBounds d undef,ds⟩:Act)=_
  rw [List.setIfInBounds_toArray]
  exact skA_eq is _
theorem rgSks (k:Nat) (is:List (Nat × Option Nat)) {l:List Value} {bl:List Bool} {ds:List Deferred} {fs:List Nat} (hF:Hid (freeAll md ops fs=true)) (hS:S w)
 (h:wpAnyH P md ops Q S fuel (skL is bl).toArray ⟨(skA is l).toArray,ds⟩ w)
 (hc:skipsOk md ops fs is bl.toArray ⟨l.toArray,ds⟩=true:=by as_aux_lemma=>kernel_rfl) (hk:is.length=k:=by rfl)
 (hQ:QsOk Q is:=by (repeat' (first | exact trivial | refine And.intro (fun _ _ _ h=>h) ?_))):wpAnyH P md ops Q S (fuel+k) bl.toArray ⟨l.toArray,ds⟩ w:=by
 subst hk
 exact rgSks_ hF hS is _ _ hQ hc (by rw [skL_eq,skA_eq];exact h)
end
end
section
section
open Go Go.RowKit Go.Proofs Pl
section
variable {T e:TypeId} {w w0:World} {g h B:Nat} {us vs:List Value} {x0 x1 x2:Value}
def cells3 (w:World) (g:Nat) (x0 x1 x2:Value):World:=(((w.setCell ⟨g,0,none⟩ x0).setCell ⟨g,1,none⟩ x1).setCell ⟨g,2,none⟩ x2)
theorem Bl.set3 (X:Bl w T g us) (hl:us.length=3) (x0 x1 x2:Value):Bl (cells3 w g x0 x1 x2) T g [x0,x1,x2]:=by
 have:=((X.set 0 x0).set 1 x1).set 2 x2
 match us,hl with
 | [_,_,_],_=>exact this
theorem Bl.keep3 (X:Bl w T g us) (hne:T≠e) (x0 x1 x2:Value):KeepT e w (cells3 w g x0 x1 x2):=
 ((X.keepT1 hne 0 x0).trans ((X.set 0 x0).keepT1 hne 1 x1)).trans (((X.set 0 x0).set 1 x1).keepT1 hne 2 x2)
theorem Bl.other3 (X:Bl w T h vs) (hp:g≠h) (x0 x1 x2:Value):Bl (cells3 w g x0 x1 x2) T h vs:=
 ((X.other (p:=⟨g,0,none⟩) hp x0).other (p:=⟨g,1,none⟩) hp x1).other (p:=⟨g,2,none⟩) hp x2
theorem below3 (hb:Below B w0 w) (hg:B<=g) (x0 x1 x2:Value):Below B w0 (cells3 w g x0 x1 x2):=
 ((hb.setCell (p:=⟨g,0,none⟩) hg x0).setCell (p:=⟨g,1,none⟩) hg x1).setCell (p:=⟨g,2,none⟩) hg x2
end
theorem Rr.lit1 {α:Type} {f:α->List Value} {s:Nat} (w:World) (B:Nat) (T:TypeId) (x:α) (hB:B<=w.heap.size) (hf:∀ x,(f x).length=s) (h0:0<s):Rr (w.alloc (.cells (f x).toArray T)) B T s f (.slice (some ⟨w.heap.size,0,none⟩) 1 1) [x]:=by
 exact ⟨by simp [flat,hf],.inr ⟨w.heap.size,1,(f x).toArray,rfl,hB,World.alloc_heap_new w _,Nat.le_refl _,by unfold maxLen;decide,by simp [hf],by have e:=hf x;subst e;simp [flat]⟩⟩
theorem LPv.open {w:World} {v:Value} {l:LPx} (h:LPv w v l):∃ aA an ac bA bn bc cA cn cc dA dn dc eA en ec fA fn fc,v=.agg #[.int .i64 l.n,.slice aA an ac,.slice bA bn bc,.slice cA cn cc,.slice dA dn dc,.slice eA en ec,.slice fA fn fc]/\
 (Gx w (.slice aA an ac) l.cols/\Ex w (.slice bA bn bc) l.hasLo/\Ex w (.slice cA cn cc) l.hasHi/\Rx w (.slice dA dn dc) l.lo/\Rx w (.slice eA en ec) l.hi/\Rx w (.slice fA fn fc) l.cost)/\
 l.cols.length=an/\l.hasLo.length=bn/\l.hasHi.length=cn/\l.lo.length=dn/\l.hi.length=en/\l.cost.length=fn/\(an<=maxLen/\bn<=maxLen/\cn<=maxLen/\dn<=maxLen/\en<=maxLen/\fn<=maxLen):=by
 obtain ⟨⟨n,⟨aA,an,ac⟩,⟨bA,bn,bc⟩,⟨cA,cn,cc⟩,⟨dA,dn,dc⟩,⟨eA,en,ec⟩,⟨fA,fn,fc⟩⟩,rfl,h1,h2,h3,h4,h5,h6,h7⟩:=h
 have h1:n=l.n:=h1
 subst h1
 have h2:Gx w (.slice aA an ac) l.cols:=h2
 have h3:Ex w (.slice bA bn bc) l.hasLo:=h3
 have h4:Ex w (.slice cA cn cc) l.hasHi:=h4
 have h5:Rx w (.slice dA dn dc) l.lo:=h5
 have h6:Rx w (.slice eA en ec) l.hi:=h6
 have h7:Rx w (.slice fA fn fc) l.cost:=h7
 obtain ⟨_,_,e1,k1,k1'⟩:=h2.shape
 obtain ⟨_,_,e2,k2,k2'⟩:=h3.shape
 obtain ⟨_,_,e3,k3,k3'⟩:=h4.shape
 obtain ⟨_,_,e4,k4,k4'⟩:=h5.shape
 obtain ⟨_,_,e5,k5,k5'⟩:=h6.shape
 obtain ⟨_,_,e6,k6,k6'⟩:=h7.shape
 injection e1 with _ e1 _
 injection e2 with _ e2 _
 injection e3 with _ e3 _
 injection e4 with _ e4 _
 injection e5 with _ e5 _
 injection e6 with _ e6 _
 exact ⟨aA,an,ac,bA,bn,bc,cA,cn,cc,dA,dn,dc,eA,en,ec,fA,fn,fc,rfl,⟨h2,h3,h4,h5,h6,h7⟩,e1.symm,e2.symm,e3.symm,e4.symm,e5.symm,e6.symm,Yo,Yo,Yo,Yo,Yo,Yo⟩
theorem sm64 {z:Int} (h:z.natAbs<=1000000):Small64 z:=by unfold Small64;omega
theorem sz_int {z:Int} (h:z.natAbs<=1000000):Sz 1 (z:Rat):=⟨by rw [WB_eq];show z.natAbs<_;omega,by rw [WB_eq];show 1<_;decide⟩
namespace I
theorem rat_d {w:World} {z:Int} (h:z.natAbs<=1000000):
 Calls Tryz.prog 126 #[.int .i64 z] w fun e w'=>∃ v,e=.returned v/\Qr w w' v (z:Rat):=by
 have HL:=Yh2 (sm64 h) (sz_int h)
 clear h
 go_enter Tryz.func126,Tryz.ntmps126
 go_upto_region 1 with (fail)
 have S1:=Yh2 (Bl.new w 36 [.bool false,.slice none 0 0,.slice none 0 0]) (Ya w (.cells #[.bool false,.slice none 0 0,.slice none 0 0] 36))
 generalize w.alloc _=W0 at S1 ⊢
 go_wp2_with fail
 refine (small_e HL.p0).mono ?_;rintro e w2 ⟨v,rfl,h,hb⟩
 have S2:=Yh3 (S1.p0.keep hb) h (Yb S1.q1 hb)
 clear h hb S1
 go_wp2_with fail
 refine (to_r S2.p1 Yd HL.q1 Yd).mono ?_;rintro e w3 ⟨v,rfl,h⟩
 obtain ⟨pq,Aq,lq,cq,Av,lv,cv,rfl⟩:=h.parts
 have S3:=Yh3 (S2.p0.keep h.below) (h.from S2.q2) (Yb S2.q2 h.below)
 clear h S2
 have f0:=Bl.fr S3.p0 0
 have f1:=Bl.fr S3.p0 1
 have f2:=Bl.fr S3.p0 2
 have r0:=Bl.ld S3.p0 0 rfl
 have r1:=Bl.ld S3.p0 1 rfl
 have r2:=Bl.ld S3.p0 2 rfl
 go_wp2_with fail
 clear f0 f1 f2 r0 r1 r2
 refine ret_bl (S3.p0.set3 rfl _ _ _) (fun W hW=>by have d0:=hW 0 _ rfl;have d1:=hW 1 _ rfl;have d2:=hW 2 _ rfl;simp [results,Tryz.results126,go_sem,d0,d1,d2];try rfl) rfl ?_
 exact ⟨_,rfl,S3.p1.keepT (S3.p0.keep3 Yd _ _ _) (below3 S3.q2 (Nat.le_refl _) _ _ _)⟩
theorem slack_d {w:World} {row:Int}:
 Calls Tryz.prog 128 #[.int .i64 row] w fun e w'=>∃ v,e=.returned v/\Tw w w' v [(row,fq (-1))]:=by
 go_enter Tryz.func128,Tryz.ntmps128
 go_wp2_with fail
 refine (rat_d Yd).mono ?_;rintro e w2 ⟨v,rfl,h⟩
 have H:=Lib.hid h.fw
 clear h
 obtain ⟨A,l,c,B,k,d,rfl⟩:=H.out.fv.parts
 obtain ⟨b,hbb⟩:∃ b,b=(fq ((-1:Int):Rat)).b:=⟨_,rfl⟩
 rw [<- hbb] at H ⊢
 have HX:Hid (Tw w (w2.alloc (.cells #[.int .i64 row,.bool b,.slice A l c,.slice B k d] 63)) (.slice (some ⟨w2.heap.size,0,none⟩) 1 1) [(row,fq (-1))]):=
  ⟨[⟨row,b,A,l,c,B,k,d,-1⟩],Rr.lit1 (f:=Tm.cs) w2 w.heap.size 63 ⟨row,b,A,l,c,B,k,d,-1⟩ H.out.below.size Tm.len Yd,Zip2.nil.app (x:=(⟨row,b,A,l,c,B,k,d,-1⟩:Tm)) (y:=(row,fq (-1))) ⟨rfl,(fq_q (-1)).symm,H.out.keep (Ya _ _)⟩,Yb H.out.below (Ya _ _)⟩
 clear hbb
 go_wp2_with fail
 go_ret
 exact ⟨_,rfl,HX.out⟩
theorem form12_d {w:World} {a:Value} {f:Fx} (h:Fv w a f) (hx:f.xs.length<=6/\f.ds.length<=6):
 Calls Tryz.prog 125 #[a] w fun e w'=>e=.returned (.bool (decide (f=fq f.q)))/\Yg w w':=by
 obtain ⟨A,l,c,B,k,d,rfl⟩:=h.parts
 have HS:=Yh2 h hx
 clear h hx
 go_enter Tryz.func125,Tryz.ntmps125
 go_upto_region 1 with (fail)
 have S0:=Yh2 (Bl.new w 36 [.bool f.b,.slice A l c,.slice B k d]) (Ya w (.cells #[.bool f.b,.slice A l c,.slice B k d] 36))
 have HS:=Yh2 (HS.p0.keep S0.q1) HS.q1
 generalize w.alloc _=W0 at S0 HS ⊢
 have HC:Hid (∀ W,Yg W0 W->Ye3 W w.heap.size (.bool f.b) (.slice A l c) (.slice B k d)):=fun W hb=>⟨Bl.ld (S0.p0.keep hb) 0 rfl,Bl.ld (S0.p0.keep hb) 1 rfl,Bl.ld (S0.p0.keep hb) 2 rfl⟩
 have HQ:=Lib.hid (HS.p0.qv HS.p1 HS.q2)
 have HZ:=Lib.hid (HQ.out.sz Yd)
 refine wp_region_held_drew (S:=fun W=>Ye3 W w.heap.size (.bool f.b) (.slice A l c) (.slice B k d)) (by kernel_rfl) (HC.out _ (below_d _)) (fun Hh=>?_)
 have B1:=Lib.hid (below_d W0)
 generalize W0.drew=Wd at B1 Hh ⊢
 refine rgFree [0,1] (Yl 6 0) (fun HFR=>?_)
 refine rgU 0 3 HFR Hh ?_
 refine rgU 1 4 HFR Hh ?_
 refine rgO 2 fun K hK=>?_
 go_simp
 go_at_call 41;refine (of_e (HQ.out.keep B1.out) Yd Yd).mono ?_;rintro e w2 ⟨v2,rfl,h2,hb⟩
 have B2:=Lib.hid (Yb B1.out hb)
 have H2:=Lib.hid h2
 clear h2 hb B1 Hh
 go_wp2_with fail
 refine rgK hK (HC.out _ B2.out) fun Hh=>?_;clear hK K
 refine rgO 3 fun K hK=>?_
 go_simp
 go_at_call 67;refine (to_r H2.out Yd HZ.out Yd).mono ?_;rintro e w3 ⟨v3,rfl,h3⟩
 have B3:=Lib.hid (Yb B2.out h3.below)
 have H3:=Lib.hid h3.fw
 clear h3 B2 Hh
 go_wp2_with fail
 refine rgK hK (HC.out _ B3.out) fun Hh=>?_;clear hK K
 refine rgO 4 fun K hK=>?_
 go_simp
 go_at_call 44;refine (_root_.Go.Proofs.YtaajajngnmaggaaGreat.same_f (HS.p0.keep B3.out) H3.out.fv).mono ?_;rintro e w4 ⟨rfl,hb⟩
 have B4:=Lib.hid (Yb B3.out hb)
 clear hb B3 Hh
 go_wp2_with fail
 refine rgK hK (HC.out _ B4.out) fun Hh=>?_;clear hK K
 refine rgT 5 Hh ?_
 refine Yw ?_
 clear Hh
 go_wp2_with fail
 go_ret
 exact ⟨rfl,Yb S0.q1 B4.out⟩
end I
end
end
end Go.Proofs.YtaajajngnmaggaaGreat
