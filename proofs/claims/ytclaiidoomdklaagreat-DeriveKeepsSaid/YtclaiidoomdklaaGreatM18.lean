import Derived.Test.YtclaiidoomdklaaGreatM17
set_option maxRecDepth 100000
set_option maxHeartbeats 8000000
set_option linter.unusedVariables false
set_option linter.unusedSimpArgs false
namespace Go.Proofs.YtclaiidoomdklaaGreat
section
namespace I
section
open Go Go.RowKit Go.Proofs Pl
def mkRs (cs:List Int) (l:Tms):Tms:=(cs.filter fun c=>decide (getV l c≠0)).map fun c=>(c,getV l c)
theorem mkRs_succ {cs:List Int} {k:Nat} {c:Int} (h:cs[k]?=some c) (l:Tms):mkRs (cs.take (k+1)) l=mkRs (cs.take k) l++(if getV l c=0 then [] else [(c,getV l c)]):=by
 unfold mkRs
 rw [take_f h,List.filter_append,List.map_append]
 congr 1
 split
 · rename_i h0;simp [h0]
 · rename_i h0;simp [h0]
theorem mkRs_len (cs:List Int) (l:Tms):(mkRs cs l).length<=cs.length:=by
 unfold mkRs;rw [List.length_map];exact List.length_filter_le _ _
theorem fqT_app (a b:Tms):fqT (a++b)=fqT a++fqT b:=List.map_append
theorem make_e {w:World} {L J:Nat} {v:Value} {l:Tms} (hv:Vt w L v l) (h0:0<L) (hL:L<=10000) (hn:l.length<=4096) (hs:∀ c,Sz J (getV l c)) (hK:J<=1048576):
 Calls Tryz.prog 66 #[v] w fun e w'=>∃ u,e=.returned u/\Tw w w' u (fqT (mkV l)):=by
 rw [<- mkR_eq]
 have hM:7+l.length*(5*L+1)<=1073741824:=by
  have:=Nat.mul_le_mul hn (show 5*L+1<=50001 by omega)
  omega
 obtain ⟨cs,hcs⟩:∃ cs,cs=placesC l:=⟨_,rfl⟩
 have hR:mkR l=mkRs cs l:=by rw [hcs];rfl
 rw [hR]
 obtain ⟨n,hnn⟩:∃ n,cs.length=n:=⟨_,rfl⟩
 have hnl:n<=4096:=by rw [<- hnn,hcs];exact Nat.le_trans (places_len l) hn
 have HL:=Yh9 hv h0 hL hn hs hK hM hcs hnn
 clear hv h0 hL hn hs hK hM hR hcs hnn
 go_enter Tryz.func66,Tryz.ntmps66
 go_upto_region 2 with (fail)
 have R0:Hid (Tw w (w.alloc (.cells #[] 85)) (.slice (some ⟨w.heap.size,0,none⟩) 0 0) []):=Tw.made w
 generalize w.alloc _=W0 at R0 ⊢
 go_wp2_with fail
 refine (places_e (HL.p0.keep R0.out.below) HL.p3).mono ?_;rintro e w1 ⟨pv,rfl,hp,hb⟩
 rw [<- HL.p7] at hp
 obtain ⟨Ap,kp,rfl⟩:=hp.shape
 rw [HL.q8] at hp ⊢
 obtain ⟨b0,hb0⟩:∃ b,b=W0.heap.size:=⟨_,rfl⟩
 rw [<- hb0] at hp
 have R1:Hid (Tw w w1 (.slice (some ⟨w.heap.size,0,none⟩) 0 0) []/\Pi w1 b0 (.slice Ap n kp) cs):=⟨R0.out.keep hb,hp⟩
 clear R0 hp hb hb0
 go_wp2_with fail
 go_loopw [3,5] (fun z1 z2 wr=>∃ (k:Nat) (u1:Value),u1=z1/\z2=.int .i64 (k:Int)/\k<=n/\Hid (Tw w wr u1 (fqT (mkRs (cs.take k) l))/\Pi wr b0 (.slice Ap n kp) cs)) (fun _ z2 _=>n - (intOf z2).toNat)
 case atStart=>exact ⟨0,_,rfl,rfl,Nat.zero_le _,by have h:=R1.out;exact ⟨by simpa [mkRs,fqT] using h.1,h.2⟩⟩
 case round=>
  clear R1
  obtain ⟨k,u1,rfl,rfl,hk,H⟩:=hrel
  by_cases hlt:k<n
  · skip
    have hkx:k<cs.length:=by rw [HL.q8];exact hlt
    obtain ⟨c,hc⟩:∃ c,cs[k]?=some c:=⟨_,List.getElem?_eq_getElem hkx⟩
    obtain ⟨gp,capp,e,hB,hgp,c0⟩:=H.q1.at_ hc
    injection e with e1 e2 e3
    subst e1
    have hsu:=mkRs_succ hc l
    have hlen:(fqT (mkRs (cs.take k) l)).length<=1048576:=by unfold fqT;rw [List.length_map];have:=mkRs_len (cs.take k) l;rw [List.length_take] at this;omega
    have HX:=Yh3 hsu hlen hc
    have d0:(k:Int)<(n:Int):=by omega
    clear hkx hc hB hgp e2 e3 hsu hlen capp
    go_wp2_with fail
    refine (get_e (HL.p0.keep H.p0.below) HL.p1 HL.p2 HL.p3).mono ?_;rintro e w4 ⟨v4,rfl,h4,hb⟩
    obtain ⟨p,A4,l4,k4,B4,m4,d4,rfl⟩:=h4.parts
    obtain ⟨q,hq⟩:∃ q,q=getV l c:=⟨_,rfl⟩
    rw [<- hq] at h4
    have HQ:=Lib.hid hq
    have T1:=Yh3 (H.p0.keep hb) (H.q1.keep hb) h4
    clear h4 hb H hq c0
    go_upto_region 7 with (fail)
    have hal:=Ya w4 (.cells #[.bool p,.slice A4 l4 k4,.slice B4 m4 d4] 60)
    have T2:=Yh4 (T1.p0.keep hal) (T1.p1.keep hal) (T1.q2.keep hal) (B3.new 60 w4 (.bool p) (.slice A4 l4 k4) (.slice B4 m4 d4))
    clear T1 hal
    obtain ⟨gq,hgq⟩:∃ g,g=w4.heap.size:=⟨_,rfl⟩
    rw [<- hgq] at T2 ⊢
    generalize w4.alloc _=W5 at T2 ⊢
    clear hgq
    obtain ⟨c1,c2,c3,-,-,-⟩:=T2.q3.facts
    go_wp2_with fail
    refine (sign_e T2.p2).mono ?_;rintro e w6 ⟨rfl,hb⟩
    have T3:=Yh4 (T2.p0.keep hb) (T2.p1.keep hb) (T2.p2.keep hb) (T2.q3.keep hb)
    clear T2 hb c1 c2 c3
    obtain ⟨s,hs⟩:∃ s,s=sgnQ q:=⟨_,rfl⟩
    rw [<- hs]
    have HS:=Lib.hid hs
    clear hs
    by_cases hz:q=0
    · skip
      have e1:(s==0)=true:=by rw [HS.out,hz];rfl
      have K2:Hid (Tw w w6 u1 (fqT (mkRs (cs.take (k+1)) l))/\Pi w6 b0 (.slice (some ⟨gp,0,none⟩) n kp) cs):=⟨by rw [HX.p0,<- HQ.out,if_pos hz,List.append_nil];exact T3.p0,T3.p1⟩
      clear hz T3
      go_wp2_with fail
      case roundEnd=>exact ⟨⟨k+1,u1,rfl,by go_num,by omega,K2.out⟩,by simp [intOf];omega⟩
    have e1:(s==0)=false:=beq_eq_false_iff_ne.2 (by rw [HS.out];exact fun e=>hz ((sgn_zero q).1 e))
    have HZ:=Lib.hid hz
    clear hz
    have HC:∀ W:World,Pi W b0 (.slice (some ⟨gp,0,none⟩) n kp) cs->B3 60 W gq (.bool p) (.slice A4 l4 k4) (.slice B4 m4 d4)->W.cell? ⟨gp,k,none⟩=some (.int .i64 c)/\Ye3 W gq (.bool p) (.slice A4 l4 k4) (.slice B4 m4 d4):=fun W hp hb=>by
     obtain ⟨gp2,capp,e,-,-,c0⟩:=hp.at_ HX.q2
     injection e with e1 e2 e3
     injection e1 with e1
     injection e1 with e1
     subst e1
     obtain ⟨c1,c2,c3,-,-,-⟩:=hb.facts
     exact ⟨c0,c1,c2,c3⟩
    have HCC:=Lib.hid HC
    clear HC
    obtain ⟨c0,c1,c2,c3⟩:=HCC.out _ T3.p1 T3.q3
    go_upto_region 8 with (fail)
    refine wp_region_held_drew (S:=fun W=>W.cell? ⟨gp,k,none⟩=some (.int .i64 c)/\Ye3 W gq (.bool p) (.slice A4 l4 k4) (.slice B4 m4 d4)) (by kernel_rfl) ⟨c0,c1,c2,c3⟩ (fun Hh=>?_)
    clear c0 c1 c2 c3
    refine rgRun 6 [0,1,2,3,4,5] Hh fun K hK=>?_
    repeat refine rgA ?_
    refine hK _ _ ?_;clear hK K
    have T4:Hid (Tw w w6.drew u1 (fqT (mkRs (cs.take k) l))/\Pi w6.drew b0 (.slice (some ⟨gp,0,none⟩) n kp) cs/\Qe w6.drew (7+l.length*(5*L+1)) (.agg #[.bool p,.slice A4 l4 k4,.slice B4 m4 d4]) q/\B3 60 w6.drew gq (.bool p) (.slice A4 l4 k4) (.slice B4 m4 d4)):=⟨T3.p0.keep (below_dr _ 1),T3.p1.keep (below_dr _ 1),T3.p2.keep (below_dr _ 1),T3.q3.keep (below_dr _ 1)⟩
    generalize w6.drew=Wd at T4 Hh ⊢
    clear T3
    refine rgO 6 fun K hK=>?_
    go_simp
    go_at_call 29;refine (to_r (K:=J) T4.p2 HL.p6 (by rw [HQ.out];exact HL.p4 c) HL.p5).mono ?_;rintro e w7 ⟨v7,rfl,h7⟩
    obtain ⟨b7,A7,l7,k7,B7,m7,d7,rfl⟩:=h7.parts
    have hf7:=h7.fw
    have T5:=Yh4 (T4.p0.keep hf7.below) (T4.p1.keep hf7.below) (T4.q3.keep hf7.below) (hf7.from T4.p0.below)
    clear h7 hf7 Hh T4
    go_wp2_with fail
    refine rgK hK (HCC.out _ T5.p1 T5.p2) fun Hh=>?_;clear hK K
    refine rgT 7 Hh ?_
    refine rgO 8 fun K hK=>?_
    go_simp
    have hal:=Ya w7 (.cells #[.int .i64 c,.bool b7,.slice A7 l7 k7,.slice B7 m7 d7] 85)
    have T6:=Yh5 (T5.p0.keep hal) (T5.p1.keep hal) (T5.p2.keep hal) (T5.q3.keep hal) (Bl.new w7 85 [.int .i64 c,.bool b7,.slice A7 l7 k7,.slice B7 m7 d7])
    refine rgK hK (HCC.out _ T6.p1 T6.p2) fun Hh=>?_;clear hK K
    clear T5 hal
    obtain ⟨gn,hgn⟩:∃ k,w7.heap.size=k:=⟨_,rfl⟩
    rw [hgn] at T6 ⊢
    generalize w7.alloc _=W8 at T6 Hh ⊢
    clear hgn
    refine rgO 9 fun K hK=>?_
    rw [if_pos (by rfl)]
    refine app_t (t:=(c,fq q)) (.tmp 25) (.tmp 33) rfl (x:=⟨c,b7,A7,l7,k7,B7,m7,d7,q⟩) rfl rfl T6.p0 rfl (fq_q q).symm T6.p3 T6.q4 HX.p1 ?_
    intro u2 w2 k1 k2 k3
    have K2:Hid (Tw w w2 u2 (fqT (mkRs (cs.take (k+1)) l))/\Pi w2 b0 (.slice (some ⟨gp,0,none⟩) n kp) cs/\B3 60 w2 gq (.bool p) (.slice A4 l4 k4) (.slice B4 m4 d4)):=⟨by rw [HX.p0,<- HQ.out,if_neg HZ.out,fqT_app];exact k1,own_keepT T6.p1 (k2 3 (by decide)),(k2 60 (by decide)).b3 T6.p2⟩
    clear k1 k2 k3
    refine rgK hK (HCC.out _ K2.p1 K2.q2) fun Hh=>?_;clear hK K
    refine rgT 10 Hh ?_
    refine Yw ?_
    clear Hh
    clear T6
    go_wp2_with fail
    case roundEnd=>exact ⟨⟨k+1,u2,rfl,by go_num,by omega,K2.p0,K2.p1⟩,by simp [intOf];omega⟩
  · have d0:¬ (k:Int)<(n:Int):=by omega
    have hf:Hid (Tw w wr u1 (fqT (mkRs cs l))):=by
     have h:=H.p0
     rw [List.take_of_length_le (by rw [HL.q8];omega)] at h
     exact h
    go_wp2_with fail
    go_ret
    exact ⟨_,rfl,hf.out⟩
end
end I
end
section
open Go Go.RowKit Go.Proofs
section
variable {P:Program} {md:Region.Mode} {ops:Array Oper} {Q:Exit->Act->World->Prop} {S:World->Prop}
def headsR (n s:Nat):Array Bool:=((List.range s).map fun i=>decide (i<n)).toArray
theorem heads_size (n s:Nat):(headsR n s).size=s:=by simp [headsR]
theorem heads_get {n s i:Nat} (h:i<s):(headsR n s)[i]?=some (decide (i<n)):=by
 simp [headsR,h]
theorem heads_getD {n s i:Nat} (d:Bool) (h:i<s):(headsR n s).getD i d=decide (i<n):=by
 have:=heads_get (n:=n) h
 simp [Array.getD_eq_getD_getElem?,this]
def tailOk (md:Region.Mode) (ops:Array Oper) (n:Nat):Bool:=
 decide (n<ops.size) && (List.range ops.size).all fun i=>match ops[i]? with
  | none=>true
  | some o=>(o.after.all fun e=>!Region.binds md e || decide (e.on<i)) &&
   (if i<n then (List.range (n+1)).any fun j=>decide (i<j) && (match ops[j]? with | none=>false | some oj=>oj.after.any fun e=>Region.binds md e && e.on==i)
    else if n<i then o.after.any fun e=>Region.binds md e && decide (n<=e.on) else true)
theorem tailOk_lt {n:Nat} (h:tailOk md ops n=true):n<ops.size:=by
 unfold tailOk at h
 exact of_decide_eq_true (Bool.and_eq_true_iff.1 h).1
theorem tailOk_at {n i:Nat} {o:Oper} (h:tailOk md ops n=true) (ho:ops[i]?=some o):
 (∀ e∈o.after,Region.binds md e=true->e.on<i)/\(i<n->∃ j oj,i<j/\j<=n/\ops[j]?=some oj/\∃ e∈oj.after,Region.binds md e=true/\e.on=i)/\
 (n<i->∃ e∈o.after,Region.binds md e=true/\n<=e.on):=by
 unfold tailOk at h
 have hi:i<ops.size:=(Array.getElem?_eq_some_iff.1 ho).1
 have h1:=(List.all_eq_true.1 (Bool.and_eq_true_iff.1 h).2) i (List.mem_range.2 hi)
 simp only [ho] at h1
 obtain ⟨h2,h3⟩:=Bool.and_eq_true_iff.1 h1
 refine ⟨fun e he hb=>?_,fun hlt=>?_,fun hgt=>?_⟩
 · have:=(Array.all_eq_true_iff_forall_mem.1 h2) e he
   simpa [hb] using this
 · rw [if_pos hlt] at h3
   obtain ⟨j,hj,hk⟩:=List.any_eq_true.1 h3
   have hjn:=List.mem_range.1 hj
   obtain ⟨h4,h5⟩:=Bool.and_eq_true_iff.1 hk
   cases hoj:ops[j]? with
   | none=>simp [hoj] at h5
   | some oj=>
    simp only [hoj] at h5
    obtain ⟨e,he,hb⟩:=Array.any_eq_true'.1 h5
    obtain ⟨hb1,hb2⟩:=Bool.and_eq_true_iff.1 hb
    exact ⟨j,oj,of_decide_eq_true h4,by omega,hoj,e,he,hb1,by simpa using hb2⟩
 · rw [if_neg (by omega),if_pos hgt] at h3
   obtain ⟨e,he,hb⟩:=Array.any_eq_true'.1 h3
   obtain ⟨hb1,hb2⟩:=Bool.and_eq_true_iff.1 hb
   exact ⟨e,he,hb1,of_decide_eq_true hb2⟩
def LateR (P:Program) (md:Region.Mode) (ops:Array Oper) (n:Nat) (Q:Exit->Act->World->Prop):Exit->Act->World->Prop
 | .normal,a,w=>wpAny P md ops Q (ops.size - n) (headsR n ops.size) a w
 | x,a,w=>Q x a w
theorem wpOp_late {n i:Nat} {K:Act->World->Prop} {a:Act} {w:World} (h:wpOp P ops (LateR P md ops n Q) i K a w):wpOp P ops Q i K a w:=by
 unfold wpOp at*
 split
 · rename_i ho;simpa [ho] using h
 · rename_i o ho
   simp only [ho] at h
   split
   · rename_i hw
     simp only [hw,if_true] at h
     rcases h with h | ⟨h1,h2⟩
     · refine .inl ?_
       unfold Oper.wp at*
       generalize (execOp a.eval o).run P w=r at*
       cases r with
       | ok m w'=>
        cases m<;>simp only [Oper.upon] at h ⊢<;>first | exact h | skip
       | halt x w'=>cases x<;>simp only [Oper.upon] at h ⊢<;>exact h
     · exact .inr ⟨h1,h2⟩
   · rename_i hw;simp only [hw] at h;exact h
theorem wpAny_more:∀ (f:Nat) (l:Array Bool) (a:Act) (w:World),wpAny P md ops Q f l a w->wpAny P md ops Q (f+1) l a w
 | 0,l,a,w,h=>⟨fun _=>h.2,by rw [h.1];intro i hi;cases hi⟩
 | f+1,l,a,w,h=>⟨h.1,fun i hi=>wpOp_mono (fun a w=>wpAny_more f _ a w) (h.2 i hi)⟩
theorem wpAny_plus {f:Nat} {l:Array Bool} {a:Act} {w:World} (h:wpAny P md ops Q f l a w):∀ k,wpAny P md ops Q (k+f) l a w
 | 0=>by rw [Nat.zero_add];exact h
 | k+1=>by rw [Nat.add_right_comm];exact wpAny_more _ _ _ _ (wpAny_plus h k)
structure AheadR (md:Region.Mode) (ops:Array Oper) (n:Nat) (l l':Array Bool):Prop where
 size:l.size=ops.size
 size':l'.size=ops.size
 low:∀ i,i<n->l'.getD i true=l.getD i true
 high:∀ i,n<=i->i<ops.size->l.getD i true=false/\l'.getD i true=true
 closed:∀ (i:Nat) (o:Oper),i<n->ops[i]?=some o->l.getD i true=true->∀ e∈o.after,Region.binds md e=true->l.getD e.on true=true
theorem getD_any {l:Array Bool} {i:Nat} (h:i<l.size) (d d':Bool):l.getD i d=l.getD i d':=by
 simp [Array.getD,h]
theorem early_all {n:Nat} {l l':Array Bool} (hok:tailOk md ops n=true) (h:AheadR md ops n l l') {on:Oper} (ho:ops[n]?=some on)
 (hn:∀ e∈on.after,Region.binds md e=true->l.getD e.on true=true):∀ i,i<n->l.getD i true=true:=by
 have key:∀ d i,i<n->n - i=d->l.getD i true=true:=by
  intro d
  induction d using Nat.strongRecOn with
  | _ d ih=>
   intro i hi hd
   have hlt:=tailOk_lt hok
   obtain ⟨o,hoi⟩:∃ o,ops[i]?=some o:=⟨_,Array.getElem?_eq_getElem (by omega)⟩
   obtain ⟨j,oj,h1,h2,h3,e,he,hb,hei⟩:=(tailOk_at hok hoi).2.1 hi
   by_cases hjn:j=n
   · subst hjn
     rw [ho] at h3;injection h3 with h3;subst h3
     rw [<- hei];exact hn e he hb
   · have hj:=ih (n - j) (by omega) j (by omega) rfl
     rw [<- hei];exact h.closed j oj (by omega) h3 hj e he hb
 exact fun i hi=>key (n - i) i hi rfl
theorem early_heads {n:Nat} {l l':Array Bool} (h:AheadR md ops n l l') (hall:∀ i,i<n->l.getD i true=true):l=headsR n ops.size:=by
 refine Array.ext (by rw [h.size,heads_size]) fun i hi hi2=>?_
 have e1:l.getD i true=l[i]:=by simp [Array.getD,hi]
 have e2:(headsR n ops.size).getD i true=(headsR n ops.size)[i]:=by simp [Array.getD,hi2]
 have hs:i<ops.size:=by rw [<- h.size];exact hi
 rw [<- e1,<- e2,heads_getD true hs]
 by_cases hin:i<n
 · rw [hall i hin,decide_eq_true hin]
 · rw [(h.high i (by omega) hs).1,decide_eq_false hin]
theorem early_ready {n j:Nat} {l l':Array Bool} (hok:tailOk md ops n=true) (h:AheadR md ops n l l') (hj:j<n):j∈Region.ready md ops l↔j∈Region.ready md ops l':=by
 have hlt:=tailOk_lt hok
 rw [mem_ready,mem_ready,h.low j hj]
 have key:∀ (o:Oper) (e:Edge),ops[j]?=some o->e∈o.after->Region.binds md e=true->l.getD e.on false=l'.getD e.on false:=fun o e ho he hb=>by
  have:=(tailOk_at hok ho).1 e he hb
  rw [getD_any (by rw [h.size];omega) false true,getD_any (by rw [h.size'];omega) false true,h.low _ (by omega)]
 constructor
 · rintro ⟨h1,o,ho,hall⟩
   exact ⟨h1,o,ho,fun e he hb=>by rw [<- key o e ho he hb];exact hall e he hb⟩
 · rintro ⟨h1,o,ho,hall⟩
   exact ⟨h1,o,ho,fun e he hb=>by rw [key o e ho he hb];exact hall e he hb⟩
theorem early_step {n j:Nat} {l l':Array Bool} (hok:tailOk md ops n=true) (h:AheadR md ops n l l') (hj:j<n) (hr:j∈Region.ready md ops l):AheadR md ops n (l.setIfInBounds j true) (l'.setIfInBounds j true):=by
 have hlt:=tailOk_lt hok
 have hset:∀ (m:Array Bool) (i:Nat),m.size=ops.size->(m.setIfInBounds j true).getD i true=if i=j then true else m.getD i true:=fun m i hm=>by
  by_cases e:i=j
  · subst e;rw [if_pos rfl];simp [Array.getD,hm]
  · rw [if_neg e,getD_set_ne true (Ne.symm e)]
 refine ⟨by simp [h.size],by simp [h.size'],fun i hi=>?_,fun i hi hs=>?_,fun i o hi ho hl e he hb=>?_⟩
 · rw [hset _ _ h.size,hset _ _ h.size',h.low i hi]
 · rw [hset _ _ h.size,hset _ _ h.size',if_neg (by omega),if_neg (by omega)];exact h.high i hi hs
 · rw [hset _ _ h.size] at hl ⊢
   by_cases e1:e.on=j
   · rw [if_pos e1]
   · rw [if_neg e1]
     by_cases e2:i=j
     · subst e2
       obtain ⟨-,o',ho',hall⟩:=mem_ready.1 hr
       rw [ho] at ho';injection ho' with ho';subst ho'
       have hlow:=(tailOk_at hok ho).1 e he hb
       rw [getD_any (by rw [h.size];omega) true false];exact hall e he hb
     · rw [if_neg e2] at hl
       exact h.closed i o hi ho hl e he hb
theorem early_low {n:Nat} {l l':Array Bool} (hok:tailOk md ops n=true) (h:AheadR md ops n l l') (hnil:Region.ready md ops l'=[]):∀ i,i<n->l.getD i true=true:=by
 have hlt:=tailOk_lt hok
 intro i
 induction i using Nat.strongRecOn with
 | _ i ih=>
  intro hi
  cases hg:l.getD i true with
  | true=>rfl
  | false=>
   obtain ⟨o,hoi⟩:∃ o,ops[i]?=some o:=⟨_,Array.getElem?_eq_getElem (by omega)⟩
   have:i∈Region.ready md ops l:=mem_ready.2 ⟨hg,o,hoi,fun e he hb=>by
    have hlow:=(tailOk_at hok hoi).1 e he hb
    rw [getD_any (by rw [h.size];omega) false true];exact ih e.on hlow (by omega)⟩
   rw [early_ready hok h hi,hnil] at this
   cases this
theorem wpAny_late {n:Nat} (hok:tailOk md ops n=true):∀ (f:Nat) (l l':Array Bool) (a:Act) (w:World),AheadR md ops n l l'->
 wpAny P md ops (LateR P md ops n Q) f l' a w->wpAny P md ops Q (f+(ops.size - n)) l a w:=by
 intro f
 induction f with
 | zero=>
  intro l l' a w h hw
  rw [Nat.zero_add,early_heads h (early_low hok h hw.1)]
  exact hw.2
 | succ f ih=>
  intro l l' a w h hw
  have hlt:=tailOk_lt hok
  by_cases hnil:Region.ready md ops l'=[]
  · rw [early_heads h (early_low hok h hnil)]
    exact wpAny_plus (hw.1 hnil) (f+1)
  · rw [Nat.add_right_comm]
    obtain ⟨i,hi⟩:=List.exists_mem_of_ne_nil _ hnil
    have hin:∀ j,j∈Region.ready md ops l'->j<n:=fun j hj=>by
     obtain ⟨h1,o,ho,-⟩:=mem_ready.1 hj
     refine Nat.lt_of_not_le fun hge=>?_
     have:=(h.high j hge (Array.getElem?_eq_some_iff.1 ho).1).2
     rw [h1] at this;cases this
    refine ⟨fun h0=>?_,fun j hj=>?_⟩
    · have:=(early_ready hok h (hin i hi)).2 hi
      rw [h0] at this;cases this
    · have hjn:j<n:=by
       refine Nat.lt_of_not_le fun hge=>?_
       obtain ⟨h1,o,ho,hall⟩:=mem_ready.1 hj
       have hjs:j<ops.size:=(Array.getElem?_eq_some_iff.1 ho).1
       by_cases e:j=n
       · subst e
         have hal:=early_all hok h ho fun e he hb=>by
          have hlow:=(tailOk_at hok ho).1 e he hb
          rw [getD_any (by rw [h.size];omega) true false];exact hall e he hb
         have h2:=hin i hi
         have h3:=(early_ready hok h h2).2 hi
         have h4:=(mem_ready.1 h3).1
         rw [hal i h2] at h4;cases h4
       · obtain ⟨e,he,hb,hne⟩:=(tailOk_at hok ho).2.2 (by omega)
         have hlow:=(tailOk_at hok ho).1 e he hb
         have h5:=hall e he hb
         rw [getD_any (by rw [h.size];omega) false true,(h.high e.on hne (by omega)).1] at h5
         cases h5
      have hj':=(early_ready hok h hjn).1 hj
      exact wpOp_mono (fun a w hk=>ih _ _ a w (early_step hok h hjn hj) hk) (wpOp_late (hw.2 j hj'))
theorem wp_region_late (n:Nat) {id:Nat} {a:Act} {w:World} (hm:P.follows .mixedOrders=true) (hok:tailOk .any ops n=true) (m:Array Bool)
 (hmask:m=((List.range ops.size).map fun i=>decide (n<=i)).toArray) (hS:S w.drew)
 (h:S w.drew->wpAnyH P .any ops (LateR P .any ops n Q) S n m a w.drew):(Code.region id ops true).wp P Q a w:=by
 have hlt:=tailOk_lt hok
 refine wp_region_any hm ?_
 have h1:=wpAny_of_held _ _ _ _ (h hS)
 have h2:=wpAny_late hok n (Array.replicate ops.size false) m a w.drew ?_ h1
 · rwa [show n+(ops.size - n)=ops.size from by omega] at h2
 · subst hmask
   refine ⟨by simp,by simp,fun i hi=>?_,fun i hi hs=>⟨?_,?_⟩,fun i o hi ho hl e he hb=>?_⟩
   · have:i<ops.size:=by omega
     simp [Array.getD,this];omega
   · simp [Array.getD,hs]
   · simp [Array.getD,hs,hi]
   · have:i<ops.size:=by omega
     simp [Array.getD,this] at hl
theorem late_go {n:Nat} {a:Act} {w:World} {T:World->Prop} (m:Array Bool) (k:Nat) (hm:headsR n ops.size=m) (hk:ops.size - n=k) (h:wpAnyH P md ops Q T k m a w):LateR P md ops n Q .normal a w:=by
 subst hm;subst hk
 exact wpAny_of_held _ _ _ _ h
end
end
section
section
open Go Go.RowKit Go.Proofs Pl
theorem form_c {w:World} {v:Value} {c:Cx} {L J:Nat} (h:Cv w v c) (h0:0<L) (hL:L<=1048576) (hn:c.ts.length<=4096) (hw:∀ t∈c.ts,t.2.xs.length<=L/\t.2.ds.length<=L) (hw2:c.r.xs.length<=L/\c.r.ds.length<=L):
 Calls Tryz.prog 70 #[v] w fun e w'=>∃ u,e=.returned u/\Cw w w' u ⟨c.s,fqT (mkV (qT c.ts)),fq c.r.q⟩:=by
 obtain ⟨⟨s,E,n,c',b,A,l,k,B,m,d⟩,rfl,hs,ht,hr⟩:=h
 have hs:s=c.s:=hs
 subst hs
 have ht:Tx w (.slice E n c') c.ts:=ht
 have hr:Fv w (.agg #[.bool b,.slice A l k,.slice B m d]) c.r:=hr
 have HS:=Yh7 ht hr h0 hL hn hw hw2
 clear ht hr h0 hL hn hw hw2
 change Calls Tryz.prog 70 #[.agg #[.int .i64 c.s,.slice E n c',.bool b,.slice A l k,.slice B m d]] w _
 go_enter Tryz.func70,Tryz.ntmps70
 go_upto_region 1 with (fail)
 have X0:=(Bl.new w 39 [.int .i64 c.s,.slice E n c',.bool b,.slice A l k,.slice B m d]).alloc (.cells #[.int .i64 0,.slice none 0 0,.bool false,.slice none 0 0,.slice none 0 0] 39)
 have R0:=Bl.new1 w (.cells #[.int .i64 c.s,.slice E n c',.bool b,.slice A l k,.slice B m d] 39) 39 [.int .i64 0,.slice none 0 0,.bool false,.slice none 0 0,.slice none 0 0]
 have hb0:Yg w ((w.alloc (.cells #[.int .i64 c.s,.slice E n c',.bool b,.slice A l k,.slice B m d] 39)).alloc (.cells #[.int .i64 0,.slice none 0 0,.bool false,.slice none 0 0,.slice none 0 0] 39)):=Yb (Ya _ _) (Ya _ _)
 obtain ⟨gR,hgR⟩:∃ g,g=w.heap.size+1:=⟨_,rfl⟩
 rw [<- hgR] at R0 ⊢
 have S0:=Yh3 X0 R0 hb0
 generalize (w.alloc _).alloc _=W0 at S0 ⊢
 have hgl:w.heap.size<gR:=by omega
 clear X0 R0 hb0 hgR
 refine wp_region_held_drew (S:=fun W=>Ye5 W w.heap.size (.int .i64 c.s) (.slice E n c') (.bool b) (.slice A l k) (.slice B m d)) (by kernel_rfl) ⟨Bl.ld (S0.p0.keep (below_dr _ 1)) 0 rfl,Bl.ld (S0.p0.keep (below_dr _ 1)) 1 rfl,Bl.ld (S0.p0.keep (below_dr _ 1)) 2 rfl,Bl.ld (S0.p0.keep (below_dr _ 1)) 3 rfl,Bl.ld (S0.p0.keep (below_dr _ 1)) 4 rfl⟩ (fun Hh=>?_)
 refine rgRun 6 [0,1,2,3,5,6] Hh fun K hK=>?_
 repeat refine rgA ?_
 refine hK _ _ ?_;clear hK K
 have T0:Hid (Bl W0.drew 39 w.heap.size [.int .i64 c.s,.slice E n c',.bool b,.slice A l k,.slice B m d]/\Bl W0.drew 39 gR [.int .i64 0,.slice none 0 0,.bool false,.slice none 0 0,.slice none 0 0]/\Yg w W0.drew):=⟨S0.p0.keep (below_dr _ 1),S0.p1.keep (below_dr _ 1),Yb S0.q2 (below_dr _ 1)⟩
 generalize W0.drew=Wd at T0 Hh ⊢
 clear S0
 refine rgO 4 fun K hK=>?_
 go_simp
 go_at_call 118;refine (make_v ((HS.p0.keep T0.q2).vt HS.p5) HS.p2 HS.p3 (by unfold qT;rw [List.length_map];exact HS.p4)).mono ?_;rintro e w4 ⟨u4,zs,rfl,h4,h5⟩
 have h6:=h4.tw h5
 obtain ⟨E4,c4,rfl⟩:=h6.shape
 obtain ⟨n4,hn4⟩:∃ n,n=(fqT (mkV (qT c.ts))).length:=⟨_,rfl⟩
 rw [<- hn4] at h6 ⊢
 have T1:Hid ((Bl w4 39 w.heap.size [.int .i64 c.s,.slice E n c',.bool b,.slice A l k,.slice B m d]/\Bl w4 39 gR [.int .i64 0,.slice none 0 0,.bool false,.slice none 0 0,.slice none 0 0]/\Yg w w4)/\Tw w w4 (.slice E4 n4 c4) (fqT (mkV (qT c.ts)))):=⟨⟨T0.p0.keep h6.below,T0.p1.keep h6.below,Yb T0.q2 h6.below⟩,h6.from T0.q2⟩
 clear h4 h5 h6 hn4 Hh T0
 go_wp2_with fail
 refine rgK hK ⟨Bl.ld (T1.p0.1) 0 rfl,Bl.ld (T1.p0.1) 1 rfl,Bl.ld (T1.p0.1) 2 rfl,Bl.ld (T1.p0.1) 3 rfl,Bl.ld (T1.p0.1) 4 rfl⟩ fun Hh=>?_;clear hK K
 refine rgO 7 fun K hK=>?_
 go_simp
 go_at_call 119;refine (form_v (a:=.agg #[.bool b,.slice A l k,.slice B m d]) ((HS.p1.keep T1.p0.2.2).qv HS.p6 HS.q7) HS.p2 (by have:=HS.p3;omega)).mono ?_;rintro e w9 ⟨u5,rfl,h7⟩
 have hf:=h7.fw
 obtain ⟨A5,l5,k5,B5,m5,d5,rfl⟩:=hf.fv.parts
 obtain ⟨b5,hb5⟩:∃ b,b=(fq c.r.q).b:=⟨_,rfl⟩
 rw [<- hb5] at hf ⊢
 have T9:Hid ((Bl w9 39 w.heap.size [.int .i64 c.s,.slice E n c',.bool b,.slice A l k,.slice B m d]/\Bl w9 39 gR [.int .i64 0,.slice none 0 0,.bool false,.slice none 0 0,.slice none 0 0]/\Yg w w9)/\Tw w w9 (.slice E4 n4 c4) (fqT (mkV (qT c.ts)))/\Fw w w9 (.agg #[.bool b5,.slice A5 l5 k5,.slice B5 m5 d5]) (fq c.r.q)):=⟨⟨T1.p0.1.keep hf.below,T1.p0.2.1.keep hf.below,Yb T1.p0.2.2 hf.below⟩,T1.q1.keep hf.below,hf.from T1.p0.2.2⟩
 clear h7 hf hb5 Hh T1
 go_wp2_with fail
 refine rgK hK ⟨Bl.ld (T9.p0.1) 0 rfl,Bl.ld (T9.p0.1) 1 rfl,Bl.ld (T9.p0.1) 2 rfl,Bl.ld (T9.p0.1) 3 rfl,Bl.ld (T9.p0.1) 4 rfl⟩ fun Hh=>?_;clear hK K
 refine rgT 8 Hh ?_
 refine rgO 9 fun K hK=>?_
 have f0:=Bl.fr (T9.p0.2.1) 0
 have f1:=Bl.fr (T9.p0.2.1) 1
 have f2:=Bl.fr (T9.p0.2.1) 2
 have f3:=Bl.fr (T9.p0.2.1) 3
 have f4:=Bl.fr (T9.p0.2.1) 4
 have r0:=Bl.ld (T9.p0.2.1) 0 rfl
 have r1:=Bl.ld (T9.p0.2.1) 1 rfl
 have r2:=Bl.ld (T9.p0.2.1) 2 rfl
 have r3:=Bl.ld (T9.p0.2.1) 3 rfl
 have r4:=Bl.ld (T9.p0.2.1) 4 rfl
 go_simp
 clear f0 r0 f1 r1 f2 r2 f3 r3 f4 r4
 have R9:Hid (Bl (cells5 w9 gR (.int .i64 c.s) (.slice E4 n4 c4) (.bool b5) (.slice A5 l5 k5) (.slice B5 m5 d5)) 39 gR [.int .i64 c.s,.slice E4 n4 c4,.bool b5,.slice A5 l5 k5,.slice B5 m5 d5]/\Bl (cells5 w9 gR (.int .i64 c.s) (.slice E4 n4 c4) (.bool b5) (.slice A5 l5 k5) (.slice B5 m5 d5)) 39 w.heap.size [.int .i64 c.s,.slice E n c',.bool b,.slice A l k,.slice B m d]/\Cw w (cells5 w9 gR (.int .i64 c.s) (.slice E4 n4 c4) (.bool b5) (.slice A5 l5 k5) (.slice B5 m5 d5)) (.agg #[.int .i64 c.s,.slice E4 n4 c4,.bool b5,.slice A5 l5 k5,.slice B5 m5 d5]) ⟨c.s,fqT (mkV (qT c.ts)),fq c.r.q⟩):=⟨T9.p0.2.1.set5 rfl _ _ _ _ _,T9.p0.1.other5 (by omega) _ _ _ _ _,⟨c.s,E4,n4,c4,b5,A5,l5,k5,B5,m5,d5⟩,rfl,rfl,T9.p1.keepT (T9.p0.2.1.keep5 (by decide) _ _ _ _ _) (T9.p0.2.1.keep5 (by decide) _ _ _ _ _) (below5 T9.p0.2.2 (by omega) _ _ _ _ _),T9.q2.keepT (T9.p0.2.1.keep5 (by decide) _ _ _ _ _) (below5 T9.p0.2.2 (by omega) _ _ _ _ _)⟩
 refine rgK hK ⟨Bl.ld (R9.p1) 0 rfl,Bl.ld (R9.p1) 1 rfl,Bl.ld (R9.p1) 2 rfl,Bl.ld (R9.p1) 3 rfl,Bl.ld (R9.p1) 4 rfl⟩ fun Hh=>?_;clear hK K
 refine Yw ?_
 clear Hh
 go_wp2_with fail
 refine ret_bl R9.p0 (fun W hW=>by have d0:=hW 0 _ rfl;have d1:=hW 1 _ rfl;have d2:=hW 2 _ rfl;have d3:=hW 3 _ rfl;have d4:=hW 4 _ rfl;simp [results,Tryz.results70,go_sem,d0,d1,d2,d3,d4];try rfl) rfl ?_
 exact ⟨_,rfl,R9.q2⟩
theorem sensible_c {w:World} (s:Int):Calls Tryz.prog 129 #[.int .i64 s] w fun e w'=>e=.returned (.bool (decide (0<s/\s<4)))/\w'=w:=by
 obtain ⟨D,hD⟩:∃ D,D=decide (0<s/\s<4):=⟨_,rfl⟩
 rw [<- hD]
 have HD:=Lib.hid hD
 clear hD
 by_cases h1:0<s
 · by_cases h2:s<4
   · have d1:decide (1<=s)=true:=decide_eq_true (by omega)
     have d2:decide (s<=3)=true:=decide_eq_true (by omega)
     obtain rfl:D=true:=HD.out.trans (decide_eq_true ⟨h1,h2⟩)
     clear h1 h2
     go_enter Tryz.func129,Tryz.ntmps129
     go_wp2_with fail
     go_ret
     first | done | exact ⟨rfl,rfl⟩
   · have d1:decide (1<=s)=true:=decide_eq_true (by omega)
     have d2:decide (s<=3)=false:=decide_eq_false (by omega)
     obtain rfl:D=false:=HD.out.trans (decide_eq_false (fun h=>h2 h.2))
     clear h1 h2
     go_enter Tryz.func129,Tryz.ntmps129
     go_wp2_with fail
     go_ret
     first | done | exact ⟨rfl,rfl⟩
 · have d1:decide (1<=s)=false:=decide_eq_false (by omega)
   obtain rfl:D=false:=HD.out.trans (decide_eq_false (fun h=>h1 h.1))
   clear h1
   go_enter Tryz.func129,Tryz.ntmps129
   go_wp2_with fail
   go_ret
   first | done | exact ⟨rfl,rfl⟩
def signC (f i:Int):Int × Bool:=if f=3 then (0,true) else if i=3 then (0,false) else if f=i then (1,false) else (-1,false)
theorem sign_c {w:World} (f i:Int):Calls Tryz.prog 130 #[.int .i64 f,.int .i64 i] w fun e w'=>e=.returned (.tuple #[.int .i64 (signC f i).1,.bool (signC f i).2])/\w'=w:=by
 by_cases h1:f=3
 · have e1:(f==3)=true:=by rw [h1];rfl
   have hs:signC f i=(0,true):=if_pos h1
   rw [hs]
   clear hs h1
   go_enter Tryz.func130,Tryz.ntmps130
   go_wp2_with fail
   go_ret2
   first | done | exact ⟨rfl,rfl⟩
 · have e1:(f==3)=false:=beq_eq_false_iff_ne.2 h1
   by_cases h2:i=3
   · have e2:(i==3)=true:=by rw [h2];rfl
     have hs:signC f i=(0,false):=by unfold signC;rw [if_neg h1,if_pos h2]
     rw [hs]
     clear hs h1 h2
     go_enter Tryz.func130,Tryz.ntmps130
     go_wp2_with fail
     go_ret2
     first | done | exact ⟨rfl,rfl⟩
   · have e2:(i==3)=false:=beq_eq_false_iff_ne.2 h2
     by_cases h3:f=i
     · have e3:(f==i)=true:=by rw [h3];exact beq_self_eq_true _
       have hs:signC f i=(1,false):=by unfold signC;rw [if_neg h1,if_neg h2,if_pos h3]
       rw [hs]
       clear hs h1 h2 h3
       go_enter Tryz.func130,Tryz.ntmps130
       go_wp2_with fail
       go_ret2
       first | done | exact ⟨rfl,rfl⟩
     · have e3:(f==i)=false:=beq_eq_false_iff_ne.2 h3
       have hs:signC f i=(-1,false):=by unfold signC;rw [if_neg h1,if_neg h2,if_neg h3]
       rw [hs]
       clear hs h1 h2 h3
       go_enter Tryz.func130,Tryz.ntmps130
       go_wp2_with fail
       go_ret2
       first | done | exact ⟨rfl,rfl⟩
end
end
section
section
open Go Go.RowKit Go.Proofs Pl
theorem fq_len {L:Nat} {q:Rat} (h:Sz L q):(fq q).xs.length<=L/\(fq q).ds.length<=L:=⟨dg_length_le WB_one h.1,dg_length_le WB_one h.2⟩
def rowT (l:LPx) (col:Int):Tms:=if col<l.n then [(col,1)] else (List.range l.n.toNat).map fun (i:Nat)=>((i:Int),getV (qT (l.cols.getD i [])) (col - l.n))
def okB (l:LPx) (col:Int):Prop:=0<=col/\col<l.cols.length/\l.lo.length=l.cols.length/\l.hi.length=l.cols.length/\l.hasLo.length=l.cols.length/\l.hasHi.length=l.cols.length/\0<=l.n/\l.n<=l.cols.length
instance (l:LPx) (col:Int):Decidable (okB l col):=by unfold okB;infer_instance
def hasX (l:LPx) (col:Int) (up:Bool):Bool:=bif up then l.hasHi.getD col.toNat false else l.hasLo.getD col.toNat false
def rhsX (l:LPx) (col:Int) (up:Bool):Fx:=bif up then l.hi.getD col.toNat ⟨false,[],[]⟩ else l.lo.getD col.toNat ⟨false,[],[]⟩
def cB (l:LPx) (col:Int) (up:Bool):Cx:=⟨bif up then 1 else 2,fqT (mkV (rowT l col)),fq (rhsX l col up).q⟩
def boundX (l:LPx) (col:Int) (up:Bool):Option Cx:=if okB l col/\hasX l col up=true then some (cB l col up) else none
def tellX (o:Option Cx):Cx × Int:=match o with | some c=>(c,0) | none=>(Cx.no,2)
def badC (sense:Int) (c:Cx) (f:Fx):Bool:=if sense=3 then true else if c.s=sense then decide (f.q<0) else decide (0<f.q)
abbrev Acc:=Bool × Tms × Rat
def stepC (sense:Int) (st:Acc) (p:Cx × Fx):Acc:=
 if p.2.q=0 then st else (st.1 || badC sense p.1 p.2,mkV (st.2.1++scaleT p.2.q (qT p.1.ts)),st.2.2+p.2.q*p.1.r.q)
def runC (sense:Int) (ps:List (Cx × Fx)):Acc:=ps.foldl (stepC sense) (false,[],0)
theorem runC_succ {sense:Int} {ps:List (Cx × Fx)} {k:Nat} {p:Cx × Fx} (h:ps[k]?=some p):runC sense (ps.take (k+1))=stepC sense (runC sense (ps.take k)) p:=by
 unfold runC
 rw [take_f h,List.foldl_append];rfl
def combX (cs:List Cx) (fs:List Fx) (sense:Int):Cx × Int:=
 if 0<sense/\sense<4 then (if (runC sense (cs.zip fs)).1=true then (Cx.no,241) else (⟨sense,fqT (runC sense (cs.zip fs)).2.1,fq (runC sense (cs.zip fs)).2.2⟩,0)) else (Cx.no,2)
def SumIs (l:LPx) (us:List Ux) (sense:Int) (r:Cx × Int):Prop:=
 ((∃ u∈us,boundX l u.c u.u=none)/\r=(Cx.no,2))∨∃ cs,Zip2 (fun (u:Ux) c=>boundX l u.c u.u=some c) us cs/\r=combX cs (us.map Ux.f) sense
theorem sz_at {L:Nat} (h1:1<=L):∀ {l:Tms},(l.Pairwise fun a b=>a.1<b.1)->(∀ t∈l,Sz L t.2)->∀ c,Sz L (sumAt l c)
 | [],_,_,c=>sz_zero.mono h1
 | (k,q)::l,hp,hs,c=>by
  by_cases hk:k=c
  · subst hk
    rw [sumAt_head hp];exact hs (k,q) (by simp)
  · show Sz L ((if k=c then q else 0)+sumAt l c)
    rw [if_neg hk,Rat.zero_add]
    exact sz_at h1 hp.tail (fun t ht=>hs t (List.mem_cons_of_mem _ ht)) c
theorem rowT_up (l:LPx) (col:Int):(rowT l col).Pairwise fun a b=>a.1<b.1:=by
 unfold rowT
 split
 · exact List.pairwise_singleton _ _
 · rw [List.pairwise_map]
   exact List.pairwise_lt_range.imp fun {a b} h=>by show (a:Int)<(b:Int);omega
theorem rowT_len {l:LPx} {col:Int} {m:Nat} (h:l.n<=m) (h1:1<=m):(rowT l col).length<=m:=by
 unfold rowT
 split
 · exact h1
 · rw [List.length_map,List.length_range];omega
def Fit (l:LPx):Prop:=l.cols.length<=14/\(∀ c∈l.cols,c.length<=30/\∀ t∈c,t.2.xs.length<=6/\t.2.ds.length<=6)/\∀ f,f∈l.lo∨f∈l.hi∨f∈l.cost->f.xs.length<=6/\f.ds.length<=6
theorem up_mem {l:Tms} (hp:l.Pairwise fun a b=>a.1<b.1) {t:Int × Rat} (ht:t∈l):sumAt l t.1=t.2:=by
 induction l with
 | nil=>cases ht
 | cons a l ih=>
  obtain ⟨k,q⟩:=a
  rcases List.mem_cons.1 ht with rfl | ht
  · exact sumAt_head hp
  · have:=List.rel_of_pairwise_cons hp ht
    show (if k=t.1 then q else 0)+sumAt l t.1=t.2
    rw [if_neg (by have:k<t.1:=this;omega),Rat.zero_add];exact ih hp.tail ht
theorem sumAt_scale (q:Rat) (l:Tms) (c:Int):sumAt (scaleT q l) c=q*sumAt l c:=by
 induction l with
 | nil=>exact (Rat.mul_zero q).symm
 | cons t l ih=>
  obtain ⟨k,r⟩:=t
  show (if k=c then q*r else 0)+sumAt (scaleT q l) c=q*((if k=c then r else 0)+sumAt l c)
  rw [ih,Rat.mul_add]
  congr 1
  split
  · rfl
  · exact (Rat.mul_zero q).symm
theorem getV_app (a b:Tms) (c:Int):getV (a++b) c=getV a c+getV b c:=by
 unfold getV
 split
 · exact sumAt_app a b c
 · exact (Rat.add_zero 0).symm
theorem sz_getV {L:Nat} {l:Tms} (h1:1<=L) (hp:l.Pairwise fun a b=>a.1<b.1) (hs:∀ t∈l,Sz L t.2) (c:Int):Sz L (getV l c):=by
 unfold getV
 split
 · exact sz_at h1 hp hs c
 · exact sz_zero.mono h1
theorem sz_axpy {M L K:Nat} {q:Rat} {a b:Tms} (hM:1<=M) (hL:1<=L) (ha:Vec a) (hb:Vec b) (sa:∀ t∈a,Sz M t.2) (sb:∀ t∈b,Sz L t.2) (hq:Sz K q) (c:Int):Sz (M+(K+L)+1) (getV (a++scaleT q b) c):=by
 rw [getV_app]
 refine (sz_getV hM ha.up sa c).add ?_
 unfold getV
 split
 · rw [sumAt_scale];exact hq.mul (sz_at hL hb.up sb c)
 · exact sz_zero.mono (by omega)
theorem sz_axpy_mk {M L K:Nat} {q:Rat} {a b:Tms} (hM:1<=M) (hL:1<=L) (ha:Vec a) (hb:Vec b) (sa:∀ t∈a,Sz M t.2) (sb:∀ t∈b,Sz L t.2) (hq:Sz K q):∀ t∈mkV (a++scaleT q b),Sz (M+(K+L)+1) t.2:=fun t ht=>by
 have hv:=vec_mk (a++scaleT q b)
 have h0:=hv.pos t ht
 rw [<- up_mem hv.up ht,sumAt_mk _ _ h0]
 have:=sz_axpy hM hL ha hb sa sb hq t.1
 unfold getV at this
 rwa [if_pos h0] at this
structure SzC (L M:Nat) (c:Cx):Prop where
 sense:c.s=1∨c.s=2
 vec:Vec (qT c.ts)
 ts:∀ t∈qT c.ts,Sz L t.2
 r:Sz L c.r.q
 len:c.ts.length<=M
 words:∀ t∈c.ts,t.2.xs.length<=L/\t.2.ds.length<=L
 rw_:c.r.xs.length<=L/\c.r.ds.length<=L
structure SzA (K M:Nat) (a:Acc):Prop where
 vec:Vec a.2.1
 ts:∀ t∈a.2.1,Sz K t.2
 r:Sz K a.2.2
 len:a.2.1.length<=M
theorem SzA.mono {K K' M M':Nat} {a:Acc} (h:SzA K M a) (h1:K<=K') (h2:M<=M'):SzA K' M' a:=⟨h.vec,fun t ht=>(h.ts t ht).mono h1,h.r.mono h1,Nat.le_trans h.len h2⟩
theorem szA_start:SzA 1 0 (false,[],0):=⟨Vec.nil,fun t ht=>(by cases ht),sz_zero,Nat.le_refl _⟩
theorem szA_step {sense:Int} {K M L N La:Nat} {a:Acc} {p:Cx × Fx} (h:SzA K M a) (hK:1<=K) (hL:1<=L) (hc:SzC L N p.1) (hf:Sz La p.2.q):SzA (K+(La+L)+1) (M+N) (stepC sense a p):=by
 unfold stepC
 split
 · exact h.mono (by omega) (by omega)
 · refine ⟨vec_mk _,sz_axpy_mk hK hL h.vec hc.vec h.ts hc.ts hf,h.r.add (hf.mul hc.r),?_⟩
   refine Nat.le_trans (mkV_len _) ?_
   have h1:=h.len
   have h2:=hc.len
   rw [List.length_append]
   simp only [scaleT,qT,List.length_map]
   omega
theorem szA_run {sense:Int} {L N La:Nat} (hL:1<=L) {ps:List (Cx × Fx)} (hp:∀ p∈ps,SzC L N p.1/\Sz La p.2.q):∀ k,k<=ps.length->SzA (1+k*(La+L+1)) (k*N) (runC sense (ps.take k)):=fun k=>by
 induction k with
 | zero=>intro _;have:=szA_start;simpa [runC] using this
 | succ k ih=>
  intro hk
  have hx:ps[k]?=some ps[k]:=List.getElem?_eq_getElem (by omega)
  rw [runC_succ hx]
  obtain ⟨h1,h2⟩:=hp _ (List.mem_of_getElem? hx)
  have h3:=szA_step (sense:=sense) (ih (by omega)) (by omega) hL h1 h2
  exact h3.mono (by rw [Nat.succ_mul];omega) (by rw [Nat.succ_mul];omega)
theorem szT_fq {L:Nat} {l:Tms} (h:∀ t∈l,Sz L t.2):∀ t∈fqT l,t.2.xs.length<=L/\t.2.ds.length<=L:=fun t ht=>by
 obtain ⟨u,hu,rfl⟩:=List.mem_map.1 ht
 exact fq_len (h u hu)
theorem sz_vecs {L:Nat} {l:Tms} (h1:1<=L) (hp:l.Pairwise fun a b=>a.1<b.1) (hs:∀ t∈l,Sz L t.2):∀ t∈mkV l,Sz L t.2:=fun t ht=>by
 have hv:=vec_mk l
 have h0:=hv.pos t ht
 rw [<- up_mem hv.up ht,sumAt_mk _ _ h0]
 exact sz_at h1 hp hs _
theorem rowT_sz {l:LPx} {L M:Nat} {col:Int} (hc:∀ c∈l.cols,c.length<=M/\∀ t∈c,Sz L t.2.q):∀ t∈rowT l col,Sz (1+M*(L+1)) t.2:=fun t ht=>by
 unfold rowT at ht
 split at ht
 · rw [List.mem_singleton.1 ht];exact sz_one.mono (by omega)
 · obtain ⟨i,-,rfl⟩:=List.mem_map.1 ht
   show Sz _ (getV (qT (l.cols.getD i [])) _)
   have hm:l.cols.getD i []=[]∨l.cols.getD i []∈l.cols:=by
    rw [List.getD_eq_getElem?_getD]
    cases h:l.cols[i]? with
    | none=>exact .inl rfl
    | some c=>exact .inr (List.mem_of_getElem? h)
   rcases hm with e | hm
   · rw [e];unfold getV;split<;>exact sz_zero.mono (by omega)
   · obtain ⟨h1,h2⟩:=hc _ hm
     refine (sz_get (L:=L) (fun t ht=>?_) _).mono ?_
     · obtain ⟨u,hu,rfl⟩:=List.mem_map.1 ht;exact h2 u hu
     · have:(qT (l.cols.getD i [])).length<=M:=by unfold qT;rw [List.length_map];exact h1
       have:=Nat.mul_le_mul_right (L+1) this
       omega
def SzL (l:LPx):Prop:=(∀ c∈l.cols,∀ t∈c,Sz 6 t.2.q)/\∀ f,f∈l.lo∨f∈l.hi∨f∈l.cost->Sz 6 f.q
theorem fit_sz {w:World} {v:Value} {l:LPx} (h:LPv w v l) (hf:Fit l):SzL l:=by
 obtain ⟨x,h1,h2,h3,h4,h5,h6,h7,h8⟩:=h
 have rx:∀ {u:Value} {fs:List Fx},Rx w u fs->(∀ f∈fs,f.xs.length<=6/\f.ds.length<=6)->∀ f∈fs,Sz 6 f.q:=fun {u fs} hr hl f hm=>by
  obtain ⟨i,hi⟩:=List.getElem?_of_mem hm
  obtain ⟨g,o,cap,x,-,-,hv,-⟩:=hr.at_ hi
  exact (hv.qv (hl f hm).1 (hl f hm).2).sz (by decide)
 refine ⟨fun c hc t ht=>?_,fun f hm=>?_⟩
 · obtain ⟨i,hi⟩:=List.getElem?_of_mem hc
   obtain ⟨g,o,cap,x,-,-,hv,-⟩:=h3.at_ hi
   obtain ⟨j,hj⟩:=List.getElem?_of_mem ht
   obtain ⟨g,o,cap,y,-,-,-,-,hq,-⟩:=hv.at_ hj
   have:=(hf.2.1 c hc).2 t ht
   exact (hq.qv this.1 this.2).sz (by decide)
 · rcases hm with hm | hm | hm
   · exact rx h6 (fun f hm=>hf.2.2 f (.inl hm)) f hm
   · exact rx h7 (fun f hm=>hf.2.2 f (.inr (.inl hm))) f hm
   · exact rx h8 (fun f hm=>hf.2.2 f (.inr (.inr hm))) f hm
theorem rhs_sz {l:LPx} (hs:SzL l) (col:Int) (up:Bool):Sz 6 (rhsX l col up).q:=by
 have h0:Sz 6 (⟨false,[],[]⟩:Fx).q:=sz_zero.mono (by decide)
 have key:∀ fs:List Fx,(∀ f∈fs,Sz 6 f.q)->Sz 6 (fs.getD col.toNat ⟨false,[],[]⟩).q:=fun fs h=>by
  rw [List.getD_eq_getElem?_getD]
  cases e:fs[col.toNat]? with
  | none=>exact h0
  | some f=>exact h f (List.mem_of_getElem? e)
 cases up
 · exact key l.lo fun f h=>hs.2 f (.inl h)
 · exact key l.hi fun f h=>hs.2 f (.inr (.inl h))
theorem cB_sz {l:LPx} {col:Int} {up:Bool} (hf:Fit l) (hs:SzL l) (hb:okB l col):SzC 211 14 (cB l col up):=by
 have hn:l.n<=14:=by have:=hb.2.2.2.2.2.2.2;have:=hf.1;omega
 have hr:=rowT_sz (l:=l) (L:=6) (M:=30) (col:=col) fun c hc=>⟨(hf.2.1 c hc).1,fun t ht=>hs.1 c hc t ht⟩
 have hv:=sz_vecs (L:=211) (by decide) (rowT_up l col) hr
 refine ⟨by cases up<;>simp [cB],?_,?_,?_,?_,?_,?_⟩
 · show Vec (qT (fqT _));rw [qT_fq];exact vec_mk _
 · show ∀ t∈qT (fqT _),_;rw [qT_fq];exact hv
 · show Sz 211 (fq _).q;rw [fq_q];exact (rhs_sz hs col up).mono (by decide)
 · show (fqT _).length<=14
   unfold fqT;rw [List.length_map]
   exact Nat.le_trans (mkV_len _) (rowT_len (by omega) (by decide))
 · exact szT_fq hv
 · exact fq_len ((rhs_sz hs col up).mono (by decide))
end
end
end Go.Proofs.YtclaiidoomdklaaGreat
