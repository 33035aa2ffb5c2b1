import Derived.Test.YtclaiidoomdklaaGreatSNA17
set_option maxRecDepth 100000
set_option maxHeartbeats 8000000
set_option linter.unusedVariables false
set_option linter.unusedSimpArgs false
namespace Go.Proofs.YtclaiidoomdklaaGreat
section
namespace I
section
open Go Go.RowKit Go.Proofs Pl
def mkRs (cs:List Int) (l:Tms):Tms:=(cs.filter fun c=>decide (getV l c≠0)).map fun c=>(c,getV l c)
theorem mkRs_succ {cs:List Int} {k:Nat} {c:Int} (h:cs[k]?=some c) (l:Tms):mkRs (cs.take (k+1)) l=mkRs (cs.take k) l++(if getV l c=0 then [] else [(c,getV l c)]):=by
 unfold mkRs
 rw [take_f h,List.filter_append,List.map_append]
 congr 1
 split
 · rename_i h0;simp [h0]
 · rename_i h0;simp [h0]
theorem mkRs_len (cs:List Int) (l:Tms):(mkRs cs l).length<=cs.length:=by
 unfold mkRs;rw [List.length_map];exact List.length_filter_le _ _
theorem fqT_app (a b:Tms):fqT (a++b)=fqT a++fqT b:=List.map_append
theorem make_e {w:World} {L J:Nat} {v:Value} {l:Tms} (hv:Vt w L v l) (h0:0<L) (hL:L<=10000) (hn:l.length<=4096) (hs:∀ c,Sz J (getV l c)) (hK:J<=1048576):
 Calls Tryz.prog 66 #[v] w fun e w'=>∃ u,e=.returned u/\Tw w w' u (fqT (mkV l)):=by
 rw [<- mkR_eq]
 have hM:7+l.length*(5*L+1)<=1073741824:=by
  have:=Nat.mul_le_mul hn (show 5*L+1<=50001 by omega)
  omega
 obtain ⟨cs,hcs⟩:∃ cs,cs=placesC l:=⟨_,rfl⟩
 have hR:mkR l=mkRs cs l:=by rw [hcs];rfl
 rw [hR]
 obtain ⟨n,hnn⟩:∃ n,cs.length=n:=⟨_,rfl⟩
 have hnl:n<=4096:=by rw [<- hnn,hcs];exact Nat.le_trans (places_len l) hn
 have HL:=Yh9 hv h0 hL hn hs hK hM hcs hnn
 clear hv h0 hL hn hs hK hM hR hcs hnn
 go_enter Tryz.func66,Tryz.ntmps66
 go_upto_region 2 with (fail)
 have R0:Hid (Tw w (w.alloc (.cells #[] 85)) (.slice (some ⟨w.heap.size,0,none⟩) 0 0) []):=Tw.made w
 generalize w.alloc _=W0 at R0 ⊢
 go_wp2_with fail
 refine (places_e (HL.p0.keep R0.out.below) HL.p3).mono ?_;rintro e w1 ⟨pv,rfl,hp,hb⟩
 rw [<- HL.p7] at hp
 obtain ⟨Ap,kp,rfl⟩:=hp.shape
 rw [HL.q8] at hp ⊢
 obtain ⟨b0,hb0⟩:∃ b,b=W0.heap.size:=⟨_,rfl⟩
 rw [<- hb0] at hp
 have R1:Hid (Tw w w1 (.slice (some ⟨w.heap.size,0,none⟩) 0 0) []/\Pi w1 b0 (.slice Ap n kp) cs):=⟨R0.out.keep hb,hp⟩
 clear R0 hp hb hb0
 go_wp2_with fail
 go_loopw [3,5] (fun z1 z2 wr=>∃ (k:Nat) (u1:Value),u1=z1/\z2=.int .i64 (k:Int)/\k<=n/\Hid (Tw w wr u1 (fqT (mkRs (cs.take k) l))/\Pi wr b0 (.slice Ap n kp) cs)) (fun _ z2 _=>n - (intOf z2).toNat)
 case atStart=>exact ⟨0,_,rfl,rfl,Nat.zero_le _,by have h:=R1.out;exact ⟨by simpa [mkRs,fqT] using h.1,h.2⟩⟩
 case round=>
  clear R1
  obtain ⟨k,u1,rfl,rfl,hk,H⟩:=hrel
  by_cases hlt:k<n
  · skip
    have hkx:k<cs.length:=by rw [HL.q8];exact hlt
    obtain ⟨c,hc⟩:∃ c,cs[k]?=some c:=⟨_,List.getElem?_eq_getElem hkx⟩
    obtain ⟨gp,capp,e,hB,hgp,c0⟩:=H.q1.at_ hc
    injection e with e1 e2 e3
    subst e1
    have hsu:=mkRs_succ hc l
    have hlen:(fqT (mkRs (cs.take k) l)).length<=1048576:=by unfold fqT;rw [List.length_map];have:=mkRs_len (cs.take k) l;rw [List.length_take] at this;omega
    have HX:=Yh3 hsu hlen hc
    have d0:(k:Int)<(n:Int):=Yo
    clear hkx hc hB hgp e2 e3 hsu hlen capp
    go_wp2_with fail
    refine (get_e (HL.p0.keep H.p0.below) HL.p1 HL.p2 HL.p3).mono ?_;rintro e w4 ⟨v4,rfl,h4,hb⟩
    obtain ⟨p,A4,l4,k4,B4,m4,d4,rfl⟩:=h4.parts
    obtain ⟨q,hq⟩:∃ q,q=getV l c:=⟨_,rfl⟩
    rw [<- hq] at h4
    have HQ:=Lib.hid hq
    have T1:=Yh3 (H.p0.keep hb) (H.q1.keep hb) h4
    clear h4 hb H hq c0
    go_upto_region 7 with (fail)
    have hal:=Ya w4 (.cells #[.bool p,.slice A4 l4 k4,.slice B4 m4 d4] 60)
    have T2:=Yh4 (T1.p0.keep hal) (T1.p1.keep hal) (T1.q2.keep hal) (B3.new 60 w4 (.bool p) (.slice A4 l4 k4) (.slice B4 m4 d4))
    clear T1 hal
    obtain ⟨gq,hgq⟩:∃ g,g=w4.heap.size:=⟨_,rfl⟩
    rw [<- hgq] at T2 ⊢
    generalize w4.alloc _=W5 at T2 ⊢
    clear hgq
    obtain ⟨c1,c2,c3,-,-,-⟩:=T2.q3.facts
    go_wp2_with fail
    refine (sign_e T2.p2).mono ?_;rintro e w6 ⟨rfl,hb⟩
    have T3:=Yh4 (T2.p0.keep hb) (T2.p1.keep hb) (T2.p2.keep hb) (T2.q3.keep hb)
    clear T2 hb c1 c2 c3
    obtain ⟨s,hs⟩:∃ s,s=sgnQ q:=⟨_,rfl⟩
    rw [<- hs]
    have HS:=Lib.hid hs
    clear hs
    by_cases hz:q=0
    · skip
      have e1:(s==0)=true:=by rw [HS.out,hz];rfl
      have K2:Hid (Tw w w6 u1 (fqT (mkRs (cs.take (k+1)) l))/\Pi w6 b0 (.slice (some ⟨gp,0,none⟩) n kp) cs):=⟨by rw [HX.p0,<- HQ.out,if_pos hz,List.append_nil];exact T3.p0,T3.p1⟩
      clear hz T3
      go_wp2_with fail
      case roundEnd=>exact ⟨⟨k+1,u1,rfl,by go_num,Yo,K2.out⟩,by simp [intOf];omega⟩
    have e1:(s==0)=false:=beq_eq_false_iff_ne.2 (by rw [HS.out];exact fun e=>hz ((sgn_zero q).1 e))
    have HZ:=Lib.hid hz
    clear hz
    have HC:∀ W:World,Pi W b0 (.slice (some ⟨gp,0,none⟩) n kp) cs->B3 60 W gq (.bool p) (.slice A4 l4 k4) (.slice B4 m4 d4)->W.cell? ⟨gp,k,none⟩=some (.int .i64 c)/\Ye3 W gq (.bool p) (.slice A4 l4 k4) (.slice B4 m4 d4):=fun W hp hb=>by
     obtain ⟨gp2,capp,e,-,-,c0⟩:=hp.at_ HX.q2
     injection e with e1 e2 e3
     injection e1 with e1
     injection e1 with e1
     subst e1
     obtain ⟨c1,c2,c3,-,-,-⟩:=hb.facts
     exact ⟨c0,c1,c2,c3⟩
    have HCC:=Lib.hid HC
    clear HC
    obtain ⟨c0,c1,c2,c3⟩:=HCC.out _ T3.p1 T3.q3
    go_upto_region 8 with (fail)
    refine wp_region_held_drew (S:=fun W=>W.cell? ⟨gp,k,none⟩=some (.int .i64 c)/\Ye3 W gq (.bool p) (.slice A4 l4 k4) (.slice B4 m4 d4)) (by kernel_rfl) ⟨c0,c1,c2,c3⟩ (fun Hh=>?_)
    clear c0 c1 c2 c3
    refine rgRun 6 [0,1,2,3,4,5] Hh fun K hK=>?_
    repeat refine rgA ?_
    refine hK _ _ ?_;clear hK K
    have T4:Hid (Tw w w6.drew u1 (fqT (mkRs (cs.take k) l))/\Pi w6.drew b0 (.slice (some ⟨gp,0,none⟩) n kp) cs/\Qe w6.drew (7+l.length*(5*L+1)) (.agg #[.bool p,.slice A4 l4 k4,.slice B4 m4 d4]) q/\B3 60 w6.drew gq (.bool p) (.slice A4 l4 k4) (.slice B4 m4 d4)):=⟨T3.p0.keep (below_dr _ 1),T3.p1.keep (below_dr _ 1),T3.p2.keep (below_dr _ 1),T3.q3.keep (below_dr _ 1)⟩
    generalize w6.drew=Wd at T4 Hh ⊢
    clear T3
    refine rgO 6 fun K hK=>?_
    go_simp
    go_at_call 29;refine (to_r (K:=J) T4.p2 HL.p6 (by rw [HQ.out];exact HL.p4 c) HL.p5).mono ?_;rintro e w7 ⟨v7,rfl,h7⟩
    obtain ⟨b7,A7,l7,k7,B7,m7,d7,rfl⟩:=h7.parts
    have hf7:=h7.fw
    have T5:=Yh4 (T4.p0.keep hf7.below) (T4.p1.keep hf7.below) (T4.q3.keep hf7.below) (hf7.from T4.p0.below)
    clear h7 hf7 Hh T4
    go_wp2_with fail
    refine rgK hK (HCC.out _ T5.p1 T5.p2) fun Hh=>?_;clear hK K
    refine rgT 7 Hh ?_
    refine rgO 8 fun K hK=>?_
    go_simp
    have hal:=Ya w7 (.cells #[.int .i64 c,.bool b7,.slice A7 l7 k7,.slice B7 m7 d7] 85)
    have T6:=Yh5 (T5.p0.keep hal) (T5.p1.keep hal) (T5.p2.keep hal) (T5.q3.keep hal) (Bl.new w7 85 [.int .i64 c,.bool b7,.slice A7 l7 k7,.slice B7 m7 d7])
    refine rgK hK (HCC.out _ T6.p1 T6.p2) fun Hh=>?_;clear hK K
    clear T5 hal
    obtain ⟨gn,hgn⟩:∃ k,w7.heap.size=k:=⟨_,rfl⟩
    rw [hgn] at T6 ⊢
    generalize w7.alloc _=W8 at T6 Hh ⊢
    clear hgn
    refine rgO 9 fun K hK=>?_
    rw [if_pos (by rfl)]
    refine app_t (t:=(c,fq q)) (.tmp 25) (.tmp 33) rfl (x:=⟨c,b7,A7,l7,k7,B7,m7,d7,q⟩) rfl rfl T6.p0 rfl (fq_q q).symm T6.p3 T6.q4 HX.p1 ?_
    intro u2 w2 k1 k2 k3
    have K2:Hid (Tw w w2 u2 (fqT (mkRs (cs.take (k+1)) l))/\Pi w2 b0 (.slice (some ⟨gp,0,none⟩) n kp) cs/\B3 60 w2 gq (.bool p) (.slice A4 l4 k4) (.slice B4 m4 d4)):=⟨by rw [HX.p0,<- HQ.out,if_neg HZ.out,fqT_app];exact k1,own_keepT T6.p1 (k2 3 Yd),(k2 60 Yd).b3 T6.p2⟩
    clear k1 k2 k3
    refine rgK hK (HCC.out _ K2.p1 K2.q2) fun Hh=>?_;clear hK K
    refine rgT 10 Hh ?_
    refine Yw ?_
    clear Hh
    clear T6
    go_wp2_with fail
    case roundEnd=>exact ⟨⟨k+1,u2,rfl,by go_num,Yo,K2.p0,K2.p1⟩,by simp [intOf];omega⟩
  · have d0:¬ (k:Int)<(n:Int):=by omega
    have hf:Hid (Tw w wr u1 (fqT (mkRs cs l))):=by
     have h:=H.p0
     rw [List.take_of_length_le (by rw [HL.q8];omega)] at h
     exact h
    go_wp2_with fail
    go_ret
    exact ⟨_,rfl,hf.out⟩
end
end I
end
section
section
open Go Go.RowKit Go.Proofs Pl
section
variable {α:Type} {f:α->List Value} {xs ys:List α} {s:Nat} {w:World} {T:TypeId} {v u:Value}
theorem app_all {S:TypeId} {bytes:Nat} {z:Value} (hS:Tryz.prog.underlying S=some (.slice T)) (hI:(Tryz.prog.info? T).map (fun i=>(i.zero,i.size,i.bytes))=some (some z,s,bytes))
 (hby:0<s/\z.cells.size=s/\bytes<=128) (hf:∀ x,(f x).length=s) (hf1:∀ x,∀ u∈f x,u.oneCell'=true) {o:Oper} {a:Act} {K:Act->World->Prop} {Q:Exit->Act->World->Prop} (sO xO:Operand)
 (ho:o.op=.call { callee:=.builtin .append,args:=#[sO,xO],argTypes:=#[S,S] }) {w0:World} (hs:a.eval sO=v) (hx:a.eval xO=u)
 (hown:Rr w w0.heap.size T s f v xs) (hn:Rv w f u ys) (hl:xs.length+ys.length<=1048576) (hb:Yg w0 w)
 (h:∀ v' w',Rr w' w0.heap.size T s f v' (xs++ys)->Yg w0 w'->(∀ T',T≠T'->KeepT T' w w')->(∀ g,g<w.heap.size->v.ownBlock≠some g->w'.heap[g]?=w.heap[g]?)->K (a.put o.dst v') w'):o.wp Tryz.prog a w K Q:=by
 obtain ⟨i0,hi0,hz0,hz1,hz2⟩:=info_parts hI
 obtain ⟨A,cap,rfl,h1,h2,h3,h4⟩:=hn
 have go:∀ ad:Addr,A=some ad->(∀ (j:Nat) (u:Value),(flat f ys)[j]?=some u->w.cell? (ad.add j)=some u)->o.wp Tryz.prog a w K Q:=fun ad hA hc=>by
  subst hA
  refine wp_append_own _ sO xO S ho w0.heap.size T i0 z s bytes hS hi0 hz0 hz1 hz2 hby.2.1 hby.1 v xs.length (flat f xs) hs hown ad ys.length cap (flat f ys) hx (by rw [flat_len hf]) hc (flat_cell hf1) (by unfold maxLen;omega) ?_ hb.size ?_
  · have:=Nat.mul_le_mul hl hby.2.2;omega
  · intro v' w' h1 h2 _
    refine h v' w' ?_ (hb.grown h2 hb.size (fun k hk=>(hown.lt k hk).1)) (fun T' hT=>own_keepT_of hown h2 hT) (fun g hg hne=>h2.block g hg (fun e=>hne e.symm))
    unfold Rr
    rw [flat_app,List.length_append]
    exact h1
 cases A with
 | none=>
  have hc0:=h3 rfl
  have hy0:ys=[]:=List.eq_nil_of_length_eq_zero Yo
  subst hy0;subst hc0
  have hrun:=run_append_owned_none (P:=Tryz.prog) (w:=w) w0.heap.size S o.type T i0 s hS hi0 v xs.length (flat f xs) hown
  unfold Oper.wp
  simp [execOp,ho,resolve,invoke,builtin,hs,hx,hrun,Result.andThen]
  exact h v w (by rw [List.append_nil];exact hown) hb (fun T' _=>KeepT.refl T' w) (fun _ _ _=>rfl)
 | some ad=>
  refine go ad rfl fun j u hj=>?_
  rcases h4 with h4 | ⟨g,o',e,hg,hc⟩
  · rw [h4] at hj;cases hj
  · obtain rfl:=Option.some.inj e
    have e:(⟨g,o',none⟩:Addr).add j=⟨g,o'+j,none⟩:=by unfold Addr.add;split<;>simp_all
    rw [e];exact hc j u hj
theorem app_alls {S:TypeId} {bytes:Nat} {z:Value} (hS:Tryz.prog.underlying S=some (.slice T)) (hI:(Tryz.prog.info? T).map (fun i=>(i.zero,i.size,i.bytes))=some (some z,s,bytes))
 (hby:0<s/\z.cells.size=s/\bytes<=128) (hf:∀ x,(f x).length=s) (hf1:∀ x,∀ u∈f x,u.oneCell'=true) {ops:Array Oper} {rest:List Oper} {o:Oper} {a:Act} {Q:Exit->Act->World->Prop} (hgd:o.guard=none) (sO xO:Operand)
 (ho:o.op=.call { callee:=.builtin .append,args:=#[sO,xO],argTypes:=#[S,S] }) {w0:World} (hs:a.eval sO=v) (hx:a.eval xO=u)
 (hown:Rr w w0.heap.size T s f v xs) (hn:Rv w f u ys) (hl:xs.length+ys.length<=1048576) (hb:Yg w0 w)
 (h:∀ v' w',Rr w' w0.heap.size T s f v' (xs++ys)->Yg w0 w'->(∀ T',T≠T'->KeepT T' w w')->(∀ g,g<w.heap.size->v.ownBlock≠some g->w'.heap[g]?=w.heap[g]?)->wpList Tryz.prog ops Q rest (a.put o.dst v') w'):wpList Tryz.prog ops Q (o::rest) a w:=
 wpList_plain hgd fun _ hK=>app_all hS hI hby hf hf1 sO xO ho hs hx hown hn hl hb fun v' w' h1 h2 h3 h4=>hK _ _ (h v' w' h1 h2 h3 h4)
theorem Rr.made (w:World) (T:TypeId) (s:Nat) (f:α->List Value) (_:0<s):Rr (w.alloc (.cells #[] T)) w.heap.size T s f (.slice (some ⟨w.heap.size,0,none⟩) 0 0) []:=
 World.ownsRow_made (base:=w.heap.size) (e:=T) (size:=s) w #[] 0 (Nat.le_refl _) (Nat.zero_le _) (by simp)
end
namespace I
theorem axpy_e {w:World} {La L M J:Nat} {a v u0:Value} {q:Rat} {l m:Tms} (ha:Qv w La a q) (hv:Vt w L v l) (hu:Vt w M u0 m) (h0:0<La) (h1:0<L) (h2:0<M) (hsum:La+L+M<=10000) (hl:l.length<=2048) (hm:m.length<=2048)
 (hs:∀ c,Sz J (getV (m++scaleT q l) c)) (hK:J<=1048576):
 Calls Tryz.prog 133 #[a,v,u0] w fun e w'=>∃ u,e=.returned u/\Tw w w' u (fqT (mkV (m++scaleT q l))):=by
 obtain ⟨xs,hxs,rfl⟩:=hv
 obtain ⟨ys,hys,rfl⟩:=hu
 have hxq:∀ x∈xs,Qv w L x.num x.q:=by obtain ⟨A,cap,-,-,-,-,-,h⟩:=hxs;exact h
 have hyq:∀ x∈ys,Qv w M x.num x.q:=by obtain ⟨A,cap,-,-,-,-,-,h⟩:=hys;exact h
 have hyr:Rv w Tm.cs u0 ys:=by
  obtain ⟨A,cap,e,z1,z2,z3,z4,-⟩:=hys
  exact ⟨A,cap,e,z1,z2,z3,by rw [<- flatT_flat];exact z4⟩
 obtain ⟨A,cap,rfl,q1,q2,q3,q4,-⟩:=hxs
 obtain ⟨pa,Aa,la,ca,Ba,ma,da,rfl⟩:=ha.parts
 obtain ⟨n,hn⟩:∃ n,xs.length=n:=⟨_,rfl⟩
 have hn4:n<=2048:=by rw [<- hn];simpa using hl
 have hy4:ys.length<=2048:=by simpa using hm
 rw [hn]
 have HS:=Yh6 hyr hyq hxq q4 hn ha
 have HB:=Yh7 h0 h1 h2 hsum hy4 hs hK
 clear hyr hys hyq hxq ha h0 h1 h2 hsum hl hm hy4 q1 q2 q3 q4 hn hs hK
 go_enter Tryz.func133,Tryz.ntmps133
 go_upto_region 1 with (fail)
 have S0:=Yh2 (B3.new 37 w (.bool pa) (.slice Aa la ca) (.slice Ba ma da)) (Ya w (.cells #[.bool pa,.slice Aa la ca,.slice Ba ma da] 37))
 generalize w.alloc _=W0 at S0 ⊢
 go_wp2_with (at_builtin;refine app_alls (w0:=w) (f:=Tm.cs) (xs:=[]) Tryz.underlying32 term_info ⟨Yd,rfl,Yd⟩ Tm.len Tm.one rfl (.tmp 9) (.tmp 10) rfl rfl rfl ((Rr.made W0 85 4 Tm.cs Yd).mono S0.q1.size) ((HS.p0.keep S0.q1).keep (Ya _ _)) (by have:=HB.p4;simp only [List.length_nil];omega) (Yb S0.q1 (Ya _ _)) ?_;intro u1 w1 k1 k2 k3 k4)
 rw [List.nil_append] at k1
 have R1:=Yh3 k1 ((k3 37 Yd).b3 (S0.p0.keep (Ya _ _))) k2
 clear k1 k2 k3 k4 S0
 go_wp2_with fail
 go_loopw [7,8] (fun z1 z2 wr=>∃ (k:Nat) (ns:List Tm) (u1:Value),z2=.int .i64 (k:Int)/\k<=n/\u1=z1/\Hid (Rr wr w.heap.size 85 4 Tm.cs u1 (ys++ns)/\(∀ x∈ns,Qr w wr x.num x.q)/\ns.map Tm.t=scaleT q ((xs.map Tm.t).take k)/\Yg w wr/\B3 37 wr w.heap.size (.bool pa) (.slice Aa la ca) (.slice Ba ma da))) (fun _ z2 _=>n - (intOf z2).toNat)
 case atStart=>exact ⟨0,[],_,rfl,Nat.zero_le _,rfl,by rw [List.append_nil];exact R1.p0,by simp,rfl,R1.q2,R1.p1⟩
 case round=>
  clear R1
  obtain ⟨k,ns,u1,rfl,hk,rfl,H⟩:=hrel
  by_cases hlt:k<n
  · skip
    have hkx:k<xs.length:=by rw [HS.p4];exact hlt
    obtain ⟨x,hx⟩:∃ x,xs[k]?=some x:=⟨_,List.getElem?_eq_getElem hkx⟩
    obtain ⟨g,off,rfl,hgl,c0,c1,c2,c3⟩:=HS.p3.at_ hx
    have HC:Hid (∀ W,Yg w W->B3 37 W w.heap.size (.bool pa) (.slice Aa la ca) (.slice Ba ma da)->Yc3 W w.heap.size (.bool pa) (.slice Aa la ca) (.slice Ba ma da) (W.cell? ⟨g,off+k*4,none⟩=some (.int .i64 x.c)/\W.cell? ⟨g,off+k*4+1,none⟩=some (.bool x.b)/\W.cell? ⟨g,off+k*4+2,none⟩=some (.slice x.A x.l x.k)/\W.cell? ⟨g,off+k*4+3,none⟩=some (.slice x.B x.m x.d))):=fun W hb h3=>⟨h3.facts.1,h3.facts.2.1,h3.facts.2.2.1,(hb.cell (p:=⟨g,_,none⟩) hgl).trans c0,(hb.cell (p:=⟨g,_,none⟩) hgl).trans c1,(hb.cell (p:=⟨g,_,none⟩) hgl).trans c2,(hb.cell (p:=⟨g,_,none⟩) hgl).trans c3⟩
    have hxm:=List.mem_of_getElem? hx
    have hsu:scaleT q ((xs.map Tm.t).take (k+1))=scaleT q ((xs.map Tm.t).take k)++[(x.c,q*x.q)]:=scale_succ (t:=x.t) (by rw [List.getElem?_map,hx];rfl) q
    have HX:=Yh2 (HS.p2 x hxm) hsu
    have hnl:(ys++ns).length<=1048576:=by have e:=congrArg List.length H.p2;simp [scaleT] at e;rw [List.length_append];have:=HB.p4;omega
    have HNL:=Lib.hid hnl
    have d0:(k:Int)<(n:Int):=Yo
    clear hx hgl hkx hxm hsu hnl c0 c1 c2 c3
    go_upto_region 5 with (fail)
    refine wp_region_held_drew (S:=fun W=>Yc3 W w.heap.size (.bool pa) (.slice Aa la ca) (.slice Ba ma da) (W.cell? ⟨g,off+k*4,none⟩=some (.int .i64 x.c)/\W.cell? ⟨g,off+k*4+1,none⟩=some (.bool x.b)/\W.cell? ⟨g,off+k*4+2,none⟩=some (.slice x.A x.l x.k)/\W.cell? ⟨g,off+k*4+3,none⟩=some (.slice x.B x.m x.d))) (by kernel_rfl) (HC.out _ (Yb H.p3 (below_dr _ 1)) (H.q4.keep (below_dr _ 1))) (fun Hh=>?_)
    refine rgRun 12 [0,1,2,3,4,5,6,8,9,10,11,12] Hh fun K hK=>?_
    repeat refine rgA ?_
    refine hK _ _ ?_;clear hK K
    have HM:=Lib.hid H.p2
    have T0:Hid (Rr wr.drew w.heap.size 85 4 Tm.cs u1 (ys++ns)/\(∀ yy∈ns,Qr w wr.drew yy.num yy.q)/\Yg w wr.drew/\B3 37 wr.drew w.heap.size (.bool pa) (.slice Aa la ca) (.slice Ba ma da)):=⟨H.p0.keep (below_dr _ 1),fun y hy=>(H.p1 y hy).keep (below_dr _ 1),Yb H.p3 (below_dr _ 1),H.q4.keep (below_dr _ 1)⟩
    generalize wr.drew=Wd at T0 Hh ⊢
    clear H
    refine rgO 7 fun K hK=>?_
    go_simp
    go_at_call 28;refine (of_e (a:=.agg #[.bool pa,.slice Aa la ca,.slice Ba ma da]) (HS.q5.keep T0.p2) HB.p0 (by have:=HB.out;omega)).mono ?_;rintro e w4 ⟨v4,rfl,h,hb⟩
    obtain ⟨p4,A4,l4,c4,B4,m4,d4,rfl⟩:=h.parts
    have T1:Hid ((Rr w4 w.heap.size 85 4 Tm.cs u1 (ys++ns)/\(∀ yy∈ns,Qr w w4 yy.num yy.q)/\Yg w w4/\B3 37 w4 w.heap.size (.bool pa) (.slice Aa la ca) (.slice Ba ma da))/\Qe w4 (5*La) (.agg #[.bool p4,.slice A4 l4 c4,.slice B4 m4 d4]) q):=⟨⟨T0.p0.keep hb,fun y hy=>(T0.p1 y hy).keep hb,Yb T0.p2 hb,T0.q3.keep hb⟩,h⟩
    clear h hb Hh T0
    go_wp2_with fail
    refine rgK hK (HC.out _ T1.p0.2.2.1 T1.p0.2.2.2) fun Hh=>?_;clear hK K
    refine rgO 13 fun K hK=>?_
    go_simp
    go_at_call 28;refine (of_e (a:=x.num) (HX.p0.keep T1.p0.2.2.1) HB.p1 (by have:=HB.out;omega)).mono ?_;rintro e w5 ⟨v5,rfl,h,hb⟩
    obtain ⟨p5,A5,l5,c5,B5,m5,d5,rfl⟩:=h.parts
    have T2:Hid ((Rr w5 w.heap.size 85 4 Tm.cs u1 (ys++ns)/\(∀ yy∈ns,Qr w w5 yy.num yy.q)/\Yg w w5/\B3 37 w5 w.heap.size (.bool pa) (.slice Aa la ca) (.slice Ba ma da))/\Qe w5 (5*La) (.agg #[.bool p4,.slice A4 l4 c4,.slice B4 m4 d4]) q/\Qe w5 (5*L) (.agg #[.bool p5,.slice A5 l5 c5,.slice B5 m5 d5]) x.q):=⟨⟨T1.p0.1.keep hb,fun y hy=>(T1.p0.2.1 y hy).keep hb,Yb T1.p0.2.2.1 hb,T1.p0.2.2.2.keep hb⟩,T1.q1.keep hb,h⟩
    clear h hb Hh T1
    go_wp2_with fail
    refine rgK hK (HC.out _ T2.p0.2.2.1 T2.p0.2.2.2) fun Hh=>?_;clear hK K
    refine rgO 14 fun K hK=>?_
    go_simp
    go_at_call 26;refine (mul_e (L:=5*La) (M:=5*L) T2.p1 T2.q2 (by have:=HB.out;omega) (by have:=HB.out;omega) (by have:=HB.out;omega) (by have:=HB.out;omega)).mono ?_;rintro e w6 ⟨v6,rfl,h,hb⟩
    obtain ⟨p6,A6,l6,c6,B6,m6,d6,rfl⟩:=h.parts
    have T3:Hid ((Rr w6 w.heap.size 85 4 Tm.cs u1 (ys++ns)/\(∀ yy∈ns,Qr w w6 yy.num yy.q)/\Yg w w6/\B3 37 w6 w.heap.size (.bool pa) (.slice Aa la ca) (.slice Ba ma da))/\Qe w6 (5*La+5*L) (.agg #[.bool p6,.slice A6 l6 c6,.slice B6 m6 d6]) (q*x.q)):=⟨⟨T2.p0.1.keep hb,fun y hy=>(T2.p0.2.1 y hy).keep hb,Yb T2.p0.2.2.1 hb,T2.p0.2.2.2.keep hb⟩,h⟩
    clear h hb Hh T2
    go_wp2_with fail
    refine rgK hK (HC.out _ T3.p0.2.2.1 T3.p0.2.2.2) fun Hh=>?_;clear hK K
    refine rgO 15 fun K hK=>?_
    go_simp
    go_at_call 29;refine (to_r (K:=La+L) T3.q1 (by have:=HB.out;omega) ((HS.q5.sz HB.p0).mul (HX.p0.sz HB.p1)) (by have:=HB.out;omega)).mono ?_;rintro e w7 ⟨v7,rfl,h7⟩
    have hb:=h7.below
    obtain ⟨b7,A7,l7,k7,B7,m7,d7,rfl⟩:=h7.parts
    have T4:Hid ((Rr w7 w.heap.size 85 4 Tm.cs u1 (ys++ns)/\(∀ yy∈ns,Qr w w7 yy.num yy.q)/\Yg w w7/\B3 37 w7 w.heap.size (.bool pa) (.slice Aa la ca) (.slice Ba ma da))/\Qr w w7 (.agg #[.bool b7,.slice A7 l7 k7,.slice B7 m7 d7]) (q*x.q)):=⟨⟨T3.p0.1.keep hb,fun y hy=>(T3.p0.2.1 y hy).keep hb,Yb T3.p0.2.2.1 hb,T3.p0.2.2.2.keep hb⟩,h7.from T3.p0.2.2.1⟩
    clear h7 hb Hh T3
    go_wp2_with fail
    refine rgK hK (HC.out _ T4.p0.2.2.1 T4.p0.2.2.2) fun Hh=>?_;clear hK K
    refine rgT 16 Hh ?_
    refine rgO 17 fun K hK=>?_
    go_simp
    have hal:=Ya w7 (.cells #[.int .i64 x.c,.bool b7,.slice A7 l7 k7,.slice B7 m7 d7] 85)
    have T5:Hid ((Rr (w7.alloc (.cells #[.int .i64 x.c,.bool b7,.slice A7 l7 k7,.slice B7 m7 d7] 85)) w.heap.size 85 4 Tm.cs u1 (ys++ns)/\(∀ yy∈ns,Qr w (w7.alloc (.cells #[.int .i64 x.c,.bool b7,.slice A7 l7 k7,.slice B7 m7 d7] 85)) yy.num yy.q)/\Yg w (w7.alloc (.cells #[.int .i64 x.c,.bool b7,.slice A7 l7 k7,.slice B7 m7 d7] 85))/\B3 37 (w7.alloc (.cells #[.int .i64 x.c,.bool b7,.slice A7 l7 k7,.slice B7 m7 d7] 85)) w.heap.size (.bool pa) (.slice Aa la ca) (.slice Ba ma da))/\Qr w (w7.alloc (.cells #[.int .i64 x.c,.bool b7,.slice A7 l7 k7,.slice B7 m7 d7] 85)) (.agg #[.bool b7,.slice A7 l7 k7,.slice B7 m7 d7]) (q*x.q)/\Bl (w7.alloc (.cells #[.int .i64 x.c,.bool b7,.slice A7 l7 k7,.slice B7 m7 d7] 85)) 85 w7.heap.size [.int .i64 x.c,.bool b7,.slice A7 l7 k7,.slice B7 m7 d7]):=⟨⟨T4.p0.1.keep hal,fun y hy=>(T4.p0.2.1 y hy).keep hal,Yb T4.p0.2.2.1 hal,T4.p0.2.2.2.keep hal⟩,T4.q1.keep hal,Bl.new w7 _ _⟩
    refine rgK hK (HC.out _ T5.p0.2.2.1 T5.p0.2.2.2) fun Hh=>?_;clear hK K
    clear hal T4
    obtain ⟨gn,hgn⟩:∃ k,w7.heap.size=k:=⟨_,rfl⟩
    rw [hgn] at T5 ⊢
    generalize w7.alloc _=W8 at T5 Hh ⊢
    clear hgn
    obtain ⟨nw,hnw⟩:∃ z:Tm,z=⟨x.c,b7,A7,l7,k7,B7,m7,d7,q*x.q⟩:=⟨_,rfl⟩
    have HW:=Lib.hid hnw
    refine rgO 18 fun K hK=>?_
    rw [if_pos (by rfl)]
    refine app_el (w0:=w) (f:=Tm.cs) (x:=nw) Tryz.underlying32 term_info ⟨Yd,rfl,Yd⟩ Tm.len Tm.one (.tmp 18) (.tmp 35) rfl rfl rfl T5.p0.1 (by rw [hnw];exact T5.q2) HNL.out T5.p0.2.2.1 ?_
    intro u2 w2 k1 k2 k3 k4
    have ku:=k3 155 (Ne.symm term_word)
    have K2:Hid (Rr w2 w.heap.size 85 4 Tm.cs u2 (ys++(ns++[nw]))/\(∀ x∈ns++[nw],Qr w w2 x.num x.q)/\(ns++[nw]).map Tm.t=scaleT q ((xs.map Tm.t).take (k+1))/\Yg w w2/\B3 37 w2 w.heap.size (.bool pa) (.slice Aa la ca) (.slice Ba ma da)):=by
     refine ⟨by rw [<- List.append_assoc];exact k1,fun z hz=>?_,?_,k2,(k3 37 Yd).b3 T5.p0.2.2.2⟩
     · rcases List.mem_append.1 hz with hz | hz
       · exact (T5.p0.2.1 z hz).keepT ku k2
       · rw [List.mem_singleton.1 hz,hnw];exact T5.p1.keepT ku k2
     · rw [HX.q1,List.map_append,HM.out,hnw];rfl
    clear k1 k2 k3 k4 ku hnw
    refine rgK hK (HC.out _ K2.p3 K2.q4) fun Hh=>?_;clear hK K
    refine rgT 19 Hh ?_
    refine Yw ?_
    clear Hh
    clear T5
    go_wp2_with fail
    case roundEnd=>exact ⟨⟨k+1,_,u2,by go_num,Yo,rfl,K2.out⟩,by simp [intOf];omega⟩
  have d0:¬ (k:Int)<(n:Int):=Yo
  obtain rfl:k=n:=by omega
  have hns:ns.map Tm.t=scaleT q (xs.map Tm.t):=by rw [H.p2,List.take_of_length_le (by rw [List.length_map,HS.p4];exact Nat.le_refl _)]
  have hlen:ns.length=k:=by have:=congrArg List.length hns;simp [scaleT] at this;rw [this];exact HS.p4
  have hvt:Vt wr (La+L+M) u1 (ys.map Tm.t++scaleT q (xs.map Tm.t)):=by
   obtain ⟨A',cap',e,z1,z2,z3,z4⟩:=H.p0.rv
   refine ⟨ys++ns,⟨A',cap',e,z1,z2,z3,by rw [flatT_flat];exact z4,fun z hz=>?_⟩,by rw [List.map_append,hns]⟩
   rcases List.mem_append.1 hz with hz | hz
   · exact ((HS.p1 z hz).keep H.p3).mono Yo
   · have hmem:z.t∈scaleT q (xs.map Tm.t):=by rw [<- hns];exact List.mem_map_of_mem hz
     obtain ⟨t,ht,e⟩:=List.mem_map.1 hmem
     obtain ⟨x,hx,rfl⟩:=List.mem_map.1 ht
     have eq:z.q=q*x.q:=(congrArg Prod.snd e).symm
     refine (H.p1 z hz).qv ?_
     rw [eq]
     exact ((HS.q5.sz HB.p0).mul ((HS.p2 x hx).sz HB.p1)).mono Yo
  have hle:(ys.map Tm.t++scaleT q (xs.map Tm.t)).length<=4096:=by rw [List.length_append];simp only [scaleT,List.length_map];have:=HB.p4;have:=HS.p4;omega
  have HV:=Yh3 hvt hle H.p3
  clear hvt hns hlen H hle
  go_wp2_with fail
  refine (make_e HV.p0 (by have:=HB.out;omega) (by have:=HB.out;omega) HV.p1 HB.p5 HB.q6).mono ?_;rintro e w4 ⟨v4,rfl,h4⟩
  have R:=Lib.hid (h4.from HV.q2)
  clear h4
  go_wp2_with fail
  go_ret
  exact ⟨_,rfl,R.out⟩
end I
end
end
section
open Go Go.RowKit Go.Proofs
section
variable {P:Program} {md:Region.Mode} {ops:Array Oper} {Q:Exit->Act->World->Prop} {S:World->Prop}
def headsR (n s:Nat):Array Bool:=((List.range s).map fun i=>decide (i<n)).toArray
theorem heads_size (n s:Nat):(headsR n s).size=s:=by simp [headsR]
theorem heads_get {n s i:Nat} (h:i<s):(headsR n s)[i]?=some (decide (i<n)):=by
 simp [headsR,h]
theorem heads_getD {n s i:Nat} (d:Bool) (h:i<s):(headsR n s).getD i d=decide (i<n):=by
 have:=heads_get (n:=n) h
 simp [Array.getD_eq_getD_getElem?,this]
def tailOk (md:Region.Mode) (ops:Array Oper) (n:Nat):Bool:=
 decide (n<ops.size) && (List.range ops.size).all fun i=>match ops[i]? with
  | none=>true
  | some o=>(o.after.all fun e=>!Region.binds md e || decide (e.on<i)) &&
   (if i<n then (List.range (n+1)).any fun j=>decide (i<j) && (match ops[j]? with | none=>false | some oj=>oj.after.any fun e=>Region.binds md e && e.on==i)
    else if n<i then o.after.any fun e=>Region.binds md e && decide (n<=e.on) else true)
theorem tailOk_lt {n:Nat} (h:tailOk md ops n=true):n<ops.size:=by
 unfold tailOk at h
 exact of_decide_eq_true (Bool.and_eq_true_iff.1 h).1
theorem tailOk_at {n i:Nat} {o:Oper} (h:tailOk md ops n=true) (ho:ops[i]?=some o):
 (∀ e∈o.after,Region.binds md e=true->e.on<i)/\(i<n->∃ j oj,i<j/\j<=n/\ops[j]?=some oj/\∃ e∈oj.after,Region.binds md e=true/\e.on=i)/\
 (n<i->∃ e∈o.after,Region.binds md e=true/\n<=e.on):=by
 unfold tailOk at h
 have hi:i<ops.size:=(Array.getElem?_eq_some_iff.1 ho).1
 have h1:=(List.all_eq_true.1 (Bool.and_eq_true_iff.1 h).2) i (List.mem_range.2 hi)
 simp only [ho] at h1
 obtain ⟨h2,h3⟩:=Bool.and_eq_true_iff.1 h1
 refine ⟨fun e he hb=>?_,fun hlt=>?_,fun hgt=>?_⟩
 · have:=(Array.all_eq_true_iff_forall_mem.1 h2) e he
   simpa [hb] using this
 · rw [if_pos hlt] at h3
   obtain ⟨j,hj,hk⟩:=List.any_eq_true.1 h3
   have hjn:=List.mem_range.1 hj
   obtain ⟨h4,h5⟩:=Bool.and_eq_true_iff.1 hk
   cases hoj:ops[j]? with
   | none=>simp [hoj] at h5
   | some oj=>
    simp only [hoj] at h5
    obtain ⟨e,he,hb⟩:=Array.any_eq_true'.1 h5
    obtain ⟨hb1,hb2⟩:=Bool.and_eq_true_iff.1 hb
    exact ⟨j,oj,of_decide_eq_true h4,Yo,hoj,e,he,hb1,by simpa using hb2⟩
 · rw [if_neg (by omega),if_pos hgt] at h3
   obtain ⟨e,he,hb⟩:=Array.any_eq_true'.1 h3
   obtain ⟨hb1,hb2⟩:=Bool.and_eq_true_iff.1 hb
   exact ⟨e,he,hb1,of_decide_eq_true hb2⟩
def LateR (P:Program) (md:Region.Mode) (ops:Array Oper) (n:Nat) (Q:Exit->Act->World->Prop):Exit->Act->World->Prop
 | .normal,a,w=>wpAny P md ops Q (ops.size - n) (headsR n ops.size) a w
 | x,a,w=>Q x a w
theorem wpOp_late {n i:Nat} {K:Act->World->Prop} {a:Act} {w:World} (h:wpOp P ops (LateR P md ops n Q) i K a w):wpOp P ops Q i K a w:=by
 unfold wpOp at*
 split
 · rename_i ho;simpa [ho] using h
 · rename_i o ho
   simp only [ho] at h
   split
   · rename_i hw
     simp only [hw,if_true] at h
     rcases h with h | ⟨h1,h2⟩
     · refine .inl ?_
       unfold Oper.wp at*
       generalize (execOp a.eval o).run P w=r at*
       cases r with
       | ok m w'=>
        cases m<;>simp only [Oper.upon] at h ⊢<;>first | exact h | skip
       | halt x w'=>cases x<;>simp only [Oper.upon] at h ⊢<;>exact h
     · exact .inr ⟨h1,h2⟩
   · rename_i hw;simp only [hw] at h;exact h
theorem wpAny_more:∀ (f:Nat) (l:Array Bool) (a:Act) (w:World),wpAny P md ops Q f l a w->wpAny P md ops Q (f+1) l a w
 | 0,l,a,w,h=>⟨fun _=>h.2,by rw [h.1];intro i hi;cases hi⟩
 | f+1,l,a,w,h=>⟨h.1,fun i hi=>wpOp_mono (fun a w=>wpAny_more f _ a w) (h.2 i hi)⟩
theorem wpAny_plus {f:Nat} {l:Array Bool} {a:Act} {w:World} (h:wpAny P md ops Q f l a w):∀ k,wpAny P md ops Q (k+f) l a w
 | 0=>by rw [Nat.zero_add];exact h
 | k+1=>by rw [Nat.add_right_comm];exact wpAny_more _ _ _ _ (wpAny_plus h k)
structure AheadR (md:Region.Mode) (ops:Array Oper) (n:Nat) (l l':Array Bool):Prop where
 size:l.size=ops.size
 size':l'.size=ops.size
 low:∀ i,i<n->l'.getD i true=l.getD i true
 high:∀ i,n<=i->i<ops.size->l.getD i true=false/\l'.getD i true=true
 closed:∀ (i:Nat) (o:Oper),i<n->ops[i]?=some o->l.getD i true=true->∀ e∈o.after,Region.binds md e=true->l.getD e.on true=true
theorem getD_any {l:Array Bool} {i:Nat} (h:i<l.size) (d d':Bool):l.getD i d=l.getD i d':=by
 simp [Array.getD,h]
theorem early_all {n:Nat} {l l':Array Bool} (hok:tailOk md ops n=true) (h:AheadR md ops n l l') {on:Oper} (ho:ops[n]?=some on)
 (hn:∀ e∈on.after,Region.binds md e=true->l.getD e.on true=true):∀ i,i<n->l.getD i true=true:=by
 have key:∀ d i,i<n->n - i=d->l.getD i true=true:=by
  intro d
  induction d using Nat.strongRecOn with
  | _ d ih=>
   intro i hi hd
   have hlt:=tailOk_lt hok
   obtain ⟨o,hoi⟩:∃ o,ops[i]?=some o:=⟨_,Array.getElem?_eq_getElem Yo⟩
   obtain ⟨j,oj,h1,h2,h3,e,he,hb,hei⟩:=(tailOk_at hok hoi).2.1 hi
   by_cases hjn:j=n
   · subst hjn
     rw [ho] at h3;injection h3 with h3;subst h3
     rw [<- hei];exact hn e he hb
   · have hj:=ih (n - j) Yo j Yo rfl
     rw [<- hei];exact h.closed j oj Yo h3 hj e he hb
 exact fun i hi=>key (n - i) i hi rfl
theorem early_heads {n:Nat} {l l':Array Bool} (h:AheadR md ops n l l') (hall:∀ i,i<n->l.getD i true=true):l=headsR n ops.size:=by
 refine Array.ext (by rw [h.size,heads_size]) fun i hi hi2=>?_
 have e1:l.getD i true=l[i]:=by simp [Array.getD,hi]
 have e2:(headsR n ops.size).getD i true=(headsR n ops.size)[i]:=by simp [Array.getD,hi2]
 have hs:i<ops.size:=by rw [<- h.size];exact hi
 rw [<- e1,<- e2,heads_getD true hs]
 by_cases hin:i<n
 · rw [hall i hin,decide_eq_true hin]
 · rw [(h.high i (by omega) hs).1,decide_eq_false hin]
theorem early_ready {n j:Nat} {l l':Array Bool} (hok:tailOk md ops n=true) (h:AheadR md ops n l l') (hj:j<n):j∈Region.ready md ops l↔j∈Region.ready md ops l':=by
 have hlt:=tailOk_lt hok
 rw [mem_ready,mem_ready,h.low j hj]
 have key:∀ (o:Oper) (e:Edge),ops[j]?=some o->e∈o.after->Region.binds md e=true->l.getD e.on false=l'.getD e.on false:=fun o e ho he hb=>by
  have:=(tailOk_at hok ho).1 e he hb
  rw [getD_any (by rw [h.size];omega) false true,getD_any (by rw [h.size'];omega) false true,h.low _ (by omega)]
 constructor
 · rintro ⟨h1,o,ho,hall⟩
   exact ⟨h1,o,ho,fun e he hb=>by rw [<- key o e ho he hb];exact hall e he hb⟩
 · rintro ⟨h1,o,ho,hall⟩
   exact ⟨h1,o,ho,fun e he hb=>by rw [key o e ho he hb];exact hall e he hb⟩
theorem early_step {n j:Nat} {l l':Array Bool} (hok:tailOk md ops n=true) (h:AheadR md ops n l l') (hj:j<n) (hr:j∈Region.ready md ops l):AheadR md ops n (l.setIfInBounds j true) (l'.setIfInBounds j true):=by
 have hlt:=tailOk_lt hok
 have hset:∀ (m:Array Bool) (i:Nat),m.size=ops.size->(m.setIfInBounds j true).getD i true=if i=j then true else m.getD i true:=fun m i hm=>by
  by_cases e:i=j
  · subst e;rw [if_pos rfl];simp [Array.getD,hm]
  · rw [if_neg e,getD_set_ne true (Ne.symm e)]
 refine ⟨by simp [h.size],by simp [h.size'],fun i hi=>?_,fun i hi hs=>?_,fun i o hi ho hl e he hb=>?_⟩
 · rw [hset _ _ h.size,hset _ _ h.size',h.low i hi]
 · rw [hset _ _ h.size,hset _ _ h.size',if_neg (by omega),if_neg (by omega)];exact h.high i hi hs
 · rw [hset _ _ h.size] at hl ⊢
   by_cases e1:e.on=j
   · rw [if_pos e1]
   · rw [if_neg e1]
     by_cases e2:i=j
     · subst e2
       obtain ⟨-,o',ho',hall⟩:=mem_ready.1 hr
       rw [ho] at ho';injection ho' with ho';subst ho'
       have hlow:=(tailOk_at hok ho).1 e he hb
       rw [getD_any (by rw [h.size];omega) true false];exact hall e he hb
     · rw [if_neg e2] at hl
       exact h.closed i o hi ho hl e he hb
theorem early_low {n:Nat} {l l':Array Bool} (hok:tailOk md ops n=true) (h:AheadR md ops n l l') (hnil:Region.ready md ops l'=[]):∀ i,i<n->l.getD i true=true:=by
 have hlt:=tailOk_lt hok
 intro i
 induction i using Nat.strongRecOn with
 | _ i ih=>
  intro hi
  cases hg:l.getD i true with
  | true=>rfl
  | false=>
   obtain ⟨o,hoi⟩:∃ o,ops[i]?=some o:=⟨_,Array.getElem?_eq_getElem Yo⟩
   have:i∈Region.ready md ops l:=mem_ready.2 ⟨hg,o,hoi,fun e he hb=>by
    have hlow:=(tailOk_at hok hoi).1 e he hb
    rw [getD_any (by rw [h.size];omega) false true];exact ih e.on hlow Yo⟩
   rw [early_ready hok h hi,hnil] at this
   cases this
theorem wpAny_late {n:Nat} (hok:tailOk md ops n=true):∀ (f:Nat) (l l':Array Bool) (a:Act) (w:World),AheadR md ops n l l'->
 wpAny P md ops (LateR P md ops n Q) f l' a w->wpAny P md ops Q (f+(ops.size - n)) l a w:=by
 intro f
 induction f with
 | zero=>
  intro l l' a w h hw
  rw [Nat.zero_add,early_heads h (early_low hok h hw.1)]
  exact hw.2
 | succ f ih=>
  intro l l' a w h hw
  have hlt:=tailOk_lt hok
  by_cases hnil:Region.ready md ops l'=[]
  · rw [early_heads h (early_low hok h hnil)]
    exact wpAny_plus (hw.1 hnil) (f+1)
  · rw [Nat.add_right_comm]
    obtain ⟨i,hi⟩:=List.exists_mem_of_ne_nil _ hnil
    have hin:∀ j,j∈Region.ready md ops l'->j<n:=fun j hj=>by
     obtain ⟨h1,o,ho,-⟩:=mem_ready.1 hj
     refine Nat.lt_of_not_le fun hge=>?_
     have:=(h.high j hge (Array.getElem?_eq_some_iff.1 ho).1).2
     rw [h1] at this;cases this
    refine ⟨fun h0=>?_,fun j hj=>?_⟩
    · have:=(early_ready hok h (hin i hi)).2 hi
      rw [h0] at this;cases this
    · have hjn:j<n:=by
       refine Nat.lt_of_not_le fun hge=>?_
       obtain ⟨h1,o,ho,hall⟩:=mem_ready.1 hj
       have hjs:j<ops.size:=(Array.getElem?_eq_some_iff.1 ho).1
       by_cases e:j=n
       · subst e
         have hal:=early_all hok h ho fun e he hb=>by
          have hlow:=(tailOk_at hok ho).1 e he hb
          rw [getD_any (by rw [h.size];omega) true false];exact hall e he hb
         have h2:=hin i hi
         have h3:=(early_ready hok h h2).2 hi
         have h4:=(mem_ready.1 h3).1
         rw [hal i h2] at h4;cases h4
       · obtain ⟨e,he,hb,hne⟩:=(tailOk_at hok ho).2.2 Yo
         have hlow:=(tailOk_at hok ho).1 e he hb
         have h5:=hall e he hb
         rw [getD_any (by rw [h.size];omega) false true,(h.high e.on hne (by omega)).1] at h5
         cases h5
      have hj':=(early_ready hok h hjn).1 hj
      exact wpOp_mono (fun a w hk=>ih _ _ a w (early_step hok h hjn hj) hk) (wpOp_late (hw.2 j hj'))
theorem wp_region_late (n:Nat) {id:Nat} {a:Act} {w:World} (hm:P.follows .mixedOrders=true) (hok:tailOk .any ops n=true) (m:Array Bool)
 (hmask:m=((List.range ops.size).map fun i=>decide (n<=i)).toArray) (hS:S w.drew)
 (h:S w.drew->wpAnyH P .any ops (LateR P .any ops n Q) S n m a w.drew):(Code.region id ops true).wp P Q a w:=by
 have hlt:=tailOk_lt hok
 refine wp_region_any hm ?_
 have h1:=wpAny_of_held _ _ _ _ (h hS)
 have h2:=wpAny_late hok n (Array.replicate ops.size false) m a w.drew ?_ h1
 · rwa [show n+(ops.size - n)=ops.size from by omega] at h2
 · subst hmask
   refine ⟨by simp,by simp,fun i hi=>?_,fun i hi hs=>⟨?_,?_⟩,fun i o hi ho hl e he hb=>?_⟩
   · have:i<ops.size:=by omega
     simp [Array.getD,this];omega
   · simp [Array.getD,hs]
   · simp [Array.getD,hs,hi]
   · have:i<ops.size:=by omega
     simp [Array.getD,this] at hl
theorem late_go {n:Nat} {a:Act} {w:World} {T:World->Prop} (m:Array Bool) (k:Nat) (hm:headsR n ops.size=m) (hk:ops.size - n=k) (h:wpAnyH P md ops Q T k m a w):LateR P md ops n Q .normal a w:=by
 subst hm;subst hk
 exact wpAny_of_held _ _ _ _ h
end
end
end Go.Proofs.YtclaiidoomdklaaGreat
