import Derived.Test.YtaajajngnmaggaaGreatENA21
set_option maxRecDepth 100000
set_option maxHeartbeats 8000000
set_option linter.unusedVariables false
set_option linter.unusedSimpArgs false
namespace Go.Proofs.YtaajajngnmaggaaGreat
section
section
open Go Go.RowKit Go.Proofs Pl
def okF (s g:Int) (fx:Bool):Bool:=if s=1 then !(decide (g<0) && !fx) else if s=2 then !(decide (0<g) && !fx) else decide (g=0)
def feasK (ok:Nat->Bool):Nat->Bool
 | 0=>true
 | k+1=>feasK ok k && ok k
def okN (l:LPx) (st:List Int) (ds:List Fx) (k:Nat):Bool:=okF (st.getD k 0) (sgnQ (ds.getD k fx0).q) (fixN l k)
theorem feasK_no {ok:Nat->Bool} {k:Nat} (h:ok k=false):∀ {n:Nat},k<n->feasK ok n=false
 | 0,hk=>by omega
 | n+1,hk=>by
  unfold feasK
  by_cases e:k=n
  · subst e;rw [h,Bool.and_false]
  · rw [feasK_no h (by omega),Bool.false_and]
theorem feasK_yes {ok:Nat->Bool} {k:Nat} (h:ok k=true) (h2:feasK ok k=true):feasK ok (k+1)=true:=by rw [feasK,h,h2];rfl
theorem fits2 {l:LPx} {a b:Nat} (h:fitsX l [(a:Int),(b:Int)]=true):fitsOne l a/\a=b:=by
 simp only [fitsX,allIs,List.cons_append,List.nil_append,List.all_cons,List.all_nil,Bool.and_true,Bool.and_eq_true,beq_iff_eq] at h
 unfold fitsOne;omega
theorem okN_at {l:LPx} {st:List Int} {ds:List Fx} {k:Nat} {s:Int} {bl bh:Bool} {f g r:Fx} (h0:st[k]?=some s) (h1:l.hasLo[k]?=some bl) (h2:l.hasHi[k]?=some bh) (h3:l.lo[k]?=some f) (h4:l.hi[k]?=some g) (h5:ds[k]?=some r):
 okN l st ds k=okF s (sgnQ r.q) (fixedQ bl bh f.q g.q):=by
 simp only [okN,fixN,List.getD_eq_getElem?_getD,h0,h1,h2,h3,h4,h5,Option.getD_some]
theorem feas_v {w:World} {v u y:Value} {l:LPx} {st:List Int} {ds:List Fx} (h:LPv w v l) (hs:Iv w u st) (hd:Rx w y ds) (hf:Fit30 l) (hds:∀ f∈ds,f.xs.length<=6/\f.ds.length<=6):
 Calls Tryz.prog 36 #[v,u,y] w fun e w'=>Saysb (fun r=>fitsX l [(st.length:Int),(ds.length:Int)]=true->r=feasK (okN l st ds) st.length) e/\Yg w w':=by
 have hlp:=h
 obtain ⟨aA,an,ac,bA,bn,bc,cA,cn,cc,dA,dn,dc,eA,en,ec,fA,fn,fc,rfl,hP,hla,hlb,hlc,hld,hle,hlf,hma,hmb,hmc,hmd,hme,hmf⟩:=h.open
 obtain ⟨Au,cu,rfl,-,-⟩:=hs.shape
 obtain ⟨Ay,cy,rfl,-,-⟩:=hd.shape
 obtain ⟨n,hn⟩:∃ n,st.length=n:=⟨_,rfl⟩
 obtain ⟨m,hm⟩:∃ m,ds.length=m:=⟨_,rfl⟩
 rw [hn] at hs ⊢
 rw [hm] at hd ⊢
 have HS:=Yh3 hlp hs hd
 have HN:=Yh2 hn hm
 have HZ:=Yh2 hds hf
 have HAN:=Yh2 hla hf.1.1
 clear hP hlp hs hd hn hm hds hf hla hlb hlc hld hle hlf hma hmb hmc hmd hme hmf h
 change Calls Tryz.prog 36 #[.agg #[.int .i64 l.n,.slice aA an ac,.slice bA bn bc,.slice cA cn cc,.slice dA dn dc,.slice eA en ec,.slice fA fn fc],.slice Au n cu,.slice Ay m cy] w _
 go_enter Tryz.func36,Tryz.ntmps36
 go_upto_region 1 with (fail)
 obtain ⟨hX,hB⟩:=box1 w 26 [.int .i64 l.n,.slice aA an ac,.slice bA bn bc,.slice cA cn cc,.slice dA dn dc,.slice eA en ec,.slice fA fn fc]
 have HX:=Yh2 hX hB
 clear hX hB
 generalize w.alloc _=W0 at HX ⊢
 have l0:=Bl.ld HX.p0 0 rfl
 have l1:=Bl.ld HX.p0 1 rfl
 have l2:=Bl.ld HX.p0 2 rfl
 have l3:=Bl.ld HX.p0 3 rfl
 have l4:=Bl.ld HX.p0 4 rfl
 have l5:=Bl.ld HX.p0 5 rfl
 have l6:=Bl.ld HX.p0 6 rfl
 have hal:=Ya W0 (.cells #[.int .i64 (n:Int),.int .i64 (m:Int)] 3)
 go_wp2_with fail
 refine (fits_r (n:=2) (ks:=[(n:Int),(m:Int)]) ((HS.p0.keep HX.q1).keep hal) (Bl.new W0 3 [.int .i64 (n:Int),.int .i64 (m:Int)]) rfl Yd).mono ?_;rintro e w1 ⟨rfl,hb⟩
 have H1:=Yh2 (HX.p0.keep (Yb hal hb)) (Yb HX.q1 (Yb hal hb))
 clear hal hb HX l0 l1 l2 l3 l4 l5 l6
 obtain ⟨ft,hft⟩:∃ b,fitsX l [(n:Int),(m:Int)]=b:=⟨_,rfl⟩
 rw [hft]
 cases ft with
 | false=>
  go_wp2_with fail
  go_ret
  exact ⟨⟨false,rfl,fun h=>by rw [hft] at h;cases h⟩,H1.q1⟩
 | true=>
  obtain ⟨hf1,rfl⟩:=fits2 hft
  have HFT:=Lib.hid hf1
  clear hft hf1
  have hn14:n<=14:=by have:=HFT.p0;have:=HAN.out;omega
  have HN14:=Lib.hid hn14
  clear hn14
  go_wp2_with fail
  go_loopw [20] (fun z wr=>∃ k:Nat,z=.int .i64 (k:Int)/\k<=n/\Hid (feasK (okN l st ds) k=true/\Bl wr 26 w.heap.size [.int .i64 l.n,.slice aA an ac,.slice bA bn bc,.slice cA cn cc,.slice dA dn dc,.slice eA en ec,.slice fA fn fc]/\Yg w wr)) (fun z _=>n - (intOf z).toNat)
  case atStart=>exact ⟨0,rfl,Nat.zero_le _,rfl,H1.p0,H1.q1⟩
  case round=>
   obtain ⟨k,rfl,hk,H⟩:=hrel
   have hn14:=HN14.out
   by_cases hlt:k<n
   · skip
     obtain ⟨s,h0⟩:∃ x,st[k]?=some x:=⟨_,List.getElem?_eq_getElem (by rw [HN.p0];exact hlt)⟩
     obtain ⟨bl,bh,f,g,dx,h1,h2,h3,h4,h5⟩:=el_ex (xs:=ds) (c:=k) (by rw [HN.q1];exact HFT.out) (by rw [HN.q1];exact hlt)
     have HOK:=Lib.hid (okN_at h0 h1 h2 h3 h4 h5)
     have z3:=HZ.p1.2.2 f (.inl (List.mem_of_getElem? h3))
     have z4:=HZ.p1.2.2 g (.inr (.inl (List.mem_of_getElem? h4)))
     have z5:=HZ.p0 dx (List.mem_of_getElem? h5)
     obtain ⟨fx,hfx⟩:∃ b,fixedQ bl bh f.q g.q=b:=⟨_,rfl⟩
     rw [hfx] at HOK
     have HFX:Hid (∀ W,Yg w W->Calls Tryz.prog 99 #[.agg #[.int .i64 l.n,.slice aA an ac,.slice bA bn bc,.slice cA cn cc,.slice dA dn dc,.slice eA en ec,.slice fA fn fc],.int .i64 (k:Int)] W fun e w'=>e=.returned (.bool fx)/\Yg W w'):=fun W b=>by rw [<- hfx];exact fixed_v (HS.p0.keep b) h1 h2 h3 h4 z3.1 z3.2 z4.1 z4.2
     obtain ⟨gu,ou,_,e,hgu,cu0⟩:=HS.p1.at_ h0
     injection e with e1 e2 e3
     subst e1
     clear e2 e3
     obtain ⟨gy,oy,_,xy,e,hgy,hvy,y0,y1,y2⟩:=HS.q2.at_ h5
     rw [HN.q1] at e
     injection e with e1 e2 e3
     subst e1
     clear e2 e3
     have cu1:=(H.q2.cell (p:=⟨gu,ou+k,none⟩) hgu).trans cu0
     have v0:=(H.q2.cell (p:=⟨gy,_,none⟩) hgy).trans y0
     have v1:=(H.q2.cell (p:=⟨gy,_,none⟩) hgy).trans y1
     have v2:=(H.q2.cell (p:=⟨gy,_,none⟩) hgy).trans y2
     have HVY:=Lib.hid (Fv.qv (L:=6) hvy z5.1 z5.2)
     clear h0 h1 h2 h3 h4 h5 z3 z4 z5 hfx hgu hgy hvy cu0 y0 y1 y2
     go_wp2_with fail
     refine (sign_v (HVY.out.keep H.q2) Yd).mono ?_;rintro e w2 ⟨rfl,hb⟩
     have H2:=Yh3 H.p0 (H.p1.keep hb) (Yb H.q2 hb)
     clear hb H HVY cu1 v0 v1 v2
     have l0:=Bl.ld H2.p1 0 rfl
     have l1:=Bl.ld H2.p1 1 rfl
     have l2:=Bl.ld H2.p1 2 rfl
     have l3:=Bl.ld H2.p1 3 rfl
     have l4:=Bl.ld H2.p1 4 rfl
     have l5:=Bl.ld H2.p1 5 rfl
     have l6:=Bl.ld H2.p1 6 rfl
     rcases sgnQ_cases dx.q with hz | hz | hz<;>rw [hz]<;>(
      by_cases h1:s=1
      · subst h1
        cases fx<;>(
         go_wp2_with (refine (HFX.out _ H2.q2).mono ?_;rintro e w3 ⟨rfl,hb⟩)
         first
          | (go_ret;exact ⟨⟨false,rfl,fun _=>(feasK_no (by rw [HOK.out,hz];decide) hlt).symm⟩,by first | exact Yb H2.q2 hb | exact H2.q2⟩)
          | (case roundEnd=>exact ⟨⟨k+1,by go_num,Yo,feasK_yes (by rw [HOK.out,hz];decide) H2.p0,by first | exact H2.p1.keep hb | exact H2.p1,by first | exact Yb H2.q2 hb | exact H2.q2⟩,by simp [intOf];omega⟩))
      · by_cases h2:s=2
        · subst h2
          cases fx<;>(
           go_wp2_with (refine (HFX.out _ H2.q2).mono ?_;rintro e w3 ⟨rfl,hb⟩)
           first
            | (go_ret;exact ⟨⟨false,rfl,fun _=>(feasK_no (by rw [HOK.out,hz];decide) hlt).symm⟩,by first | exact Yb H2.q2 hb | exact H2.q2⟩)
            | (case roundEnd=>exact ⟨⟨k+1,by go_num,Yo,feasK_yes (by rw [HOK.out,hz];decide) H2.p0,by first | exact H2.p1.keep hb | exact H2.p1,by first | exact Yb H2.q2 hb | exact H2.q2⟩,by simp [intOf];omega⟩))
        · have e1:(s==1)=false:=beq_eq_false_iff_ne.2 h1
          have e2:(s==2)=false:=beq_eq_false_iff_ne.2 h2
          have HO2:Hid (okN l st ds k=decide (sgnQ dx.q=0)):=by rw [HOK.out];unfold okF;rw [if_neg h1,if_neg h2];rfl
          go_wp2_with fail
          first
           | (go_ret;exact ⟨⟨false,rfl,fun _=>(feasK_no (by rw [HO2.out,hz];decide) hlt).symm⟩,H2.q2⟩)
           | (case roundEnd=>exact ⟨⟨k+1,by go_num,Yo,feasK_yes (by rw [HO2.out,hz];decide) H2.p0,H2.q1⟩,by simp [intOf];omega⟩))
   obtain rfl:k=n:=by omega
   go_wp2_with fail
   go_ret
   exact ⟨⟨true,rfl,fun _=>H.p0.symm⟩,H.q2⟩
end
end
section
section
open Go Go.RowKit Go.Proofs Pl
def Apart (v u:Value):Prop:=∀ k,v.ownBlock=some k->u.ownBlock≠some k
theorem Apart.symm {v u:Value} (h:Apart v u):Apart u v:=fun k h1 h2=>h k h2 h1
section
variable {α β:Type} {f:α->List Value} {f':β->List Value} {xs:List α} {ys:List β} {x:α} {s s' B:Nat} {w w':World} {T T':TypeId} {v v' u:Value}
theorem apart_nil:Apart (.slice none 0 0) u:=fun k h=>by simp [Value.ownBlock] at h
theorem Rr.stay (h:Rr w B T' s' f' u ys) (ha:Apart v u) (hk:∀ g,g<w.heap.size->v.ownBlock≠some g->w'.heap[g]?=w.heap[g]?):Rr w' B T' s' f' u ys:=by
 refine ⟨h.1,?_⟩
 rcases h.2 with hn | ⟨g,cap,cur,rfl,hb,hg,hr⟩
 · exact .inl hn
 · refine .inr ⟨g,cap,cur,rfl,hb,?_,hr⟩
   rw [hk g (Array.getElem?_eq_some_iff.1 hg).1 fun e=>ha g e (by simp [Value.ownBlock])]
   exact hg
theorem Rr.apart (h:Rr w B T' s' f' u ys) (ha:Apart v u) (hw:∀ k,v'.ownBlock=some k->v.ownBlock=some k∨w.heap.size<=k):Apart v' u:=fun k h1 h2=>by
 rcases hw k h1 with h3 | h3
 · exact ha k h3 h2
 · exact absurd (World.ownsRow.lt h k h2).2 Yo
theorem run_append_at {S ty:TypeId} {i:TypeInfo} {z:Value} (hS:Tryz.prog.underlying S=some (.slice T)) (hi:Tryz.prog.info? T=some i) (hz:i.zero=some z)
 {zs:List Value} (hown:w.ownsRow B T i.size v xs.length zs) {a:Addr} {news:List Value} (hl:news.length=1*i.size) (hnews:∀ (j:Nat) (u:Value),news[j]?=some u->w.cell? (a.add j)=some u) (h1:∀ u∈news,u.oneCell'=true)
 (hbig:xs.length<=1048576) (hby:(xs.length+1)*i.bytes<=140737488355328)
 {w':World} (hr:(Builtin.append_ #[S,S] ty #[v,.slice (some a) 1 1]).run Tryz.prog w=.ok v' w'):∀ k,v'.ownBlock=some k->v.ownBlock=some k∨w.heap.size<=k:=fun k hk=>by
 rcases hown.2 with ⟨rfl,he⟩ | ⟨g,cap,cur,rfl,hbg,hg,hnc,hcm,hcs,htake⟩
 · have h2:=run_append_nil (P:=Tryz.prog) w S ty T i z hS hi hz a 1 1 news hl hnews Yo Yo (by have:=hby;rw [he] at this;omega)
   rw [h2] at hr
   injection hr with e1 e2
   rw [<- e1] at hk
   simp [Value.ownBlock] at hk
   exact .inr Yo
 · by_cases hroom:xs.length+1<=cap
   · have hfit:xs.length*i.size+news.length<=cur.size:=by rw [hl,hcs,<- Nat.add_mul];exact Nat.mul_le_mul_right _ hroom
     have h2:=run_append_room (P:=Tryz.prog) w S ty T i hS hi g xs.length cap cur hg a 1 1 news hl hnews h1 hroom hfit
     rw [h2] at hr
     injection hr with e1 e2
     rw [<- e1] at hk
     simp [Value.ownBlock] at hk
     exact .inl (by simp [Value.ownBlock,hk])
   · have h2:=run_append_grow (P:=Tryz.prog) w S ty T i z hS hi hz ⟨g,0,none⟩ xs.length cap zs hown.1 (hown.cells (g:=g) rfl) a 1 1 news hl hnews Yo Yo (growslice_fits Yo hby)
     rw [h2] at hr
     injection hr with e1 e2
     rw [<- e1] at hk
     simp [Value.ownBlock] at hk
     exact .inr Yo
theorem app_at {S:TypeId} {bytes:Nat} {z:Value} (hS:Tryz.prog.underlying S=some (.slice T)) (hI:(Tryz.prog.info? T).map (fun i=>(i.zero,i.size,i.bytes))=some (some z,s,bytes))
 (hby:0<s/\z.cells.size=s/\bytes<=128) (hf:∀ x,(f x).length=s) (hf1:∀ x,∀ u∈f x,u.oneCell'=true) {o:Oper} {a:Act} {K:Act->World->Prop} {Q:Exit->Act->World->Prop} (sO xO:Operand)
 (ho:o.op=.call { callee:=.builtin .append,args:=#[sO,xO],argTypes:=#[S,S] }) {w0:World} {gn:Nat} (hs:a.eval sO=v) (hx:a.eval xO=.slice (some ⟨gn,0,none⟩) 1 1)
 (hown:Rr w w0.heap.size T s f v xs) (hn:Bl w T gn (f x)) (hl:xs.length<=1048576) (hb:Yg w0 w)
 (h:∀ v' w',Rr w' w0.heap.size T s f v' (xs++[x])->Yg w0 w'->(∀ T',T≠T'->KeepT T' w w')->(∀ g,g<w.heap.size->v.ownBlock≠some g->w'.heap[g]?=w.heap[g]?)->(∀ k,v'.ownBlock=some k->v.ownBlock=some k∨w.heap.size<=k)->K (a.put o.dst v') w'):o.wp Tryz.prog a w K Q:=by
 obtain ⟨i0,hi0,hz0,hz1,hz2⟩:=info_parts hI
 subst hz1
 have h48:(xs.length+1)*i0.bytes<=140737488355328:=by rw [hz2];have:=Nat.mul_le_mul (show xs.length+1<=1048577 by omega) hby.2.2;omega
 have hnl:(f x).length=1*i0.size:=by rw [hf];omega
 obtain ⟨v',w',hr,h1,h2,-⟩:=run_append_own (P:=Tryz.prog) (w:=w) w0.heap.size S o.type T i0 z i0.size i0.bytes hS hi0 hz0 rfl rfl hby.2.1 hby.1 v xs.length (flat f xs) hown ⟨gn,0,none⟩ 1 1 (f x) hnl (fun j u hj=>hn.cell hj) (hf1 x) (by unfold maxLen;omega) h48 hb.size
 have hwh:=run_append_at hS hi0 hz0 (xs:=xs) hown hnl (fun j u hj=>hn.cell hj) (hf1 x) hl h48 hr
 unfold Oper.wp execOp
 simp only [ho,resolve,invoke,builtin,Sem.run_bind,Sem.run_pure,Result.andThen_ok,List.map_toArray,List.map_cons,List.map_nil,hs,hx,hr]
 refine h v' w' ?_ (hb.grown h2 hb.size (fun k hk=>(World.ownsRow.lt hown k hk).1)) (fun T' hT=>own_keepT_of hown h2 hT) (fun g hg hne=>h2.block g hg (fun e=>hne e.symm)) hwh
 unfold Rr
 rw [flat_app,flat_one_,List.length_append]
 exact h1
end
end
end
section
section
open Go Go.RowKit Go.Proofs Pl
section
variable {T e:TypeId} {w w0:World} {g h B:Nat} {us vs:List Value} {x0 x1 x2 x3 x4 x5 x6:Value}
def cells7 (w:World) (g:Nat) (x0 x1 x2 x3 x4 x5 x6:Value):World:=((((((w.setCell ⟨g,0,none⟩ x0).setCell ⟨g,1,none⟩ x1).setCell ⟨g,2,none⟩ x2).setCell ⟨g,3,none⟩ x3).setCell ⟨g,4,none⟩ x4).setCell ⟨g,5,none⟩ x5).setCell ⟨g,6,none⟩ x6
theorem Bl.set7 (X:Bl w T g us) (hl:us.length=7) (x0 x1 x2 x3 x4 x5 x6:Value):Bl (cells7 w g x0 x1 x2 x3 x4 x5 x6) T g [x0,x1,x2,x3,x4,x5,x6]:=by
 have:=((((((X.set 0 x0).set 1 x1).set 2 x2).set 3 x3).set 4 x4).set 5 x5).set 6 x6
 match us,hl with
 | [_,_,_,_,_,_,_],_=>exact this
theorem Bl.keep7 (X:Bl w T g us) (hne:T≠e) (x0 x1 x2 x3 x4 x5 x6:Value):KeepT e w (cells7 w g x0 x1 x2 x3 x4 x5 x6):=(((((((X.keepT1 hne 0 x0).trans ((X.set 0 x0).keepT1 hne 1 x1)).trans (((X.set 0 x0).set 1 x1).keepT1 hne 2 x2)).trans ((((X.set 0 x0).set 1 x1).set 2 x2).keepT1 hne 3 x3)).trans (((((X.set 0 x0).set 1 x1).set 2 x2).set 3 x3).keepT1 hne 4 x4)).trans ((((((X.set 0 x0).set 1 x1).set 2 x2).set 3 x3).set 4 x4).keepT1 hne 5 x5)).trans (((((((X.set 0 x0).set 1 x1).set 2 x2).set 3 x3).set 4 x4).set 5 x5).keepT1 hne 6 x6))
theorem below7 (hb:Below B w0 w) (hg:B<=g) (x0 x1 x2 x3 x4 x5 x6:Value):Below B w0 (cells7 w g x0 x1 x2 x3 x4 x5 x6):=(((((((hb.setCell (p:=⟨g,0,none⟩) hg x0).setCell (p:=⟨g,1,none⟩) hg x1).setCell (p:=⟨g,2,none⟩) hg x2).setCell (p:=⟨g,3,none⟩) hg x3).setCell (p:=⟨g,4,none⟩) hg x4).setCell (p:=⟨g,5,none⟩) hg x5).setCell (p:=⟨g,6,none⟩) hg x6)
end
section
variable {w w' w0 w1:World} {v:Value} {fs:List Fx} {cs:List (List (Int × Fx))} {l:LPx}
theorem Ro.keepT (h:Ro w0 w v fs) (k:KeepT 36 w w') (k2:KeepT 125 w w') (hb:Below w0.heap.size w0 w'):Ro w0 w' v fs:=by
 obtain ⟨xs,h1,h2,h3⟩:=h
 exact ⟨xs,h1.keepT k,h2.imp fun x f hf=>hf.keepT k2 hb,hb⟩
theorem Gw.keepT (h:Gw w0 w v cs) (k:KeepT 54 w w') (k1:KeepT 63 w w') (k2:KeepT 125 w w') (hb:Below w0.heap.size w0 w'):Gw w0 w' v cs:=by
 obtain ⟨xs,h1,h2,h3⟩:=h
 exact ⟨xs,h1.keepT k,h2.imp fun x c hc=>hc.keepT k1 k2 hb,hb⟩
theorem Ew.keepT {bs:List Bool} (h:Ew w0 w v bs) (k:KeepT 4 w w'):Ew w0 w' v bs:=Rr.keepT h k
theorem Gw.from (h:Gw w1 w v cs) (hb:Below w0.heap.size w0 w1):Gw w0 w v cs:=by
 obtain ⟨xs,h1,h2,h3⟩:=h
 exact ⟨xs,h1.mono hb.size,h2.imp fun x c hc=>hc.from hb,Yb hb h3⟩
theorem Ew.from {bs:List Bool} (h:Ew w1 w v bs) (hb:Below w0.heap.size w0 w1):Ew w0 w v bs:=Rr.mono h hb.size
def LPw (w0 w:World) (v:Value) (l:LPx):Prop:=∃ x:Lm,v=x.agg/\x.n=l.n/\(Gw w0 w x.a.v l.cols/\Ew w0 w x.b.v l.hasLo/\Ew w0 w x.c.v l.hasHi/\Ro w0 w x.d.v l.lo/\Ro w0 w x.e.v l.hi/\Ro w0 w x.f.v l.cost)/\Yg w0 w
theorem LPw.lpv (h:LPw w0 w v l):LPv w v l:=by
 obtain ⟨x,e,h1,⟨h2,h3,h4,h5,h6,h7⟩,-⟩:=h
 exact ⟨x,e,h1,h2.gx,h3.ex,h4.ex,h5.rx,h6.rx,h7.rx⟩
theorem LPw.below (h:LPw w0 w v l):Below w0.heap.size w0 w:=by obtain ⟨x,e,h1,h2,h3⟩:=h;exact h3
theorem LPw.keep (h:LPw w0 w v l) (hb:Below w.heap.size w w'):LPw w0 w' v l:=by
 obtain ⟨x,e,h1,⟨h2,h3,h4,h5,h6,h7⟩,h8⟩:=h
 exact ⟨x,e,h1,⟨h2.keep hb,h3.keep hb,h4.keep hb,h5.keep hb,h6.keep hb,h7.keep hb⟩,Yb h8 hb⟩
theorem LPw.from (h:LPw w1 w v l) (hb:Below w0.heap.size w0 w1):LPw w0 w v l:=by
 obtain ⟨x,e,h1,⟨h2,h3,h4,h5,h6,h7⟩,h8⟩:=h
 exact ⟨x,e,h1,⟨h2.from hb,h3.from hb,h4.from hb,h5.from hb,h6.from hb,h7.from hb⟩,Yb hb h8⟩
end
namespace I
theorem copy_l {w:World} {v:Value} {l:LPx} (h:LPv w v l) (hf:Fit30 l) (hb1:l.hasLo.length<=140737488355328) (hb2:l.hasHi.length<=140737488355328):
 Calls Tryz.prog 11 #[v] w fun e w'=>∃ u,e=.returned u/\LPw w w' u l:=by
 obtain ⟨aA,an,ac,bA,bn,bc,cA,cn,cc,dA,dn,dc,eA,en,ec,fA,fn,fc,rfl,hP,hla,hlb,hlc,hld,hle,hlf,hma,hmb,hmc,hmd,hme,hmf⟩:=h.open
 have HS:=Lib.hid hP
 have HF:=Lib.hid hf
 have hna:an<=14:=by rw [<- hla];exact hf.1.1
 have HL:=Yh6 hla hlb hlc hld hle hlf
 have HB2:=Yh2 hb1 hb2
 clear hP hf hla hlb hlc hld hle hlf hma hmb hmc hmd hme hmf hb1 hb2 h
 change Calls Tryz.prog 11 #[.agg #[.int .i64 l.n,.slice aA an ac,.slice bA bn bc,.slice cA cn cc,.slice dA dn dc,.slice eA en ec,.slice fA fn fc]] w _
 go_enter Tryz.func11,Tryz.ntmps11
 go_upto_region 1 with (fail)
 have hb0:Yg w ((w.alloc (.cells #[.int .i64 l.n,.slice aA an ac,.slice bA bn bc,.slice cA cn cc,.slice dA dn dc,.slice eA en ec,.slice fA fn fc] 26)).alloc (.cells #[.int .i64 0,.slice none 0 0,.slice none 0 0,.slice none 0 0,.slice none 0 0,.slice none 0 0,.slice none 0 0] 26)):=Yb (Ya _ _) (Ya _ _)
 have HBL:=Lib.hid ((Bl.new w 26 [.int .i64 l.n,.slice aA an ac,.slice bA bn bc,.slice cA cn cc,.slice dA dn dc,.slice eA en ec,.slice fA fn fc]).alloc (.cells #[.int .i64 0,.slice none 0 0,.slice none 0 0,.slice none 0 0,.slice none 0 0,.slice none 0 0,.slice none 0 0] 26))
 have R0:=Bl.new1 w (.cells #[.int .i64 l.n,.slice aA an ac,.slice bA bn bc,.slice cA cn cc,.slice dA dn dc,.slice eA en ec,.slice fA fn fc] 26) 26 [.int .i64 0,.slice none 0 0,.slice none 0 0,.slice none 0 0,.slice none 0 0,.slice none 0 0,.slice none 0 0]
 have HA:=Yh6 (HS.p0.keep hb0) (HS.p1.keep hb0) (HS.p2.keep hb0) (HS.p3.keep hb0) (HS.p4.keep hb0) (HS.q5.keep hb0)
 obtain ⟨gR,hgR⟩:∃ g,g=w.heap.size+1:=⟨_,rfl⟩
 rw [<- hgR] at R0 ⊢
 have hgl:w.heap.size<gR:=Yo
 have HR0:=Lib.hid R0
 have HBW:=Lib.hid hb0
 clear HS R0 hb0 hgR
 generalize (w.alloc _).alloc _=W0 at HA HBL HR0 HBW ⊢
 have HC:Hid (∀ W,Yg W0 W->Ye7 W w.heap.size (.int .i64 l.n) (.slice aA an ac) (.slice bA bn bc) (.slice cA cn cc) (.slice dA dn dc) (.slice eA en ec) (.slice fA fn fc)):=fun W hb=>⟨Bl.ld (HBL.out.keep hb) 0 rfl,Bl.ld (HBL.out.keep hb) 1 rfl,Bl.ld (HBL.out.keep hb) 2 rfl,Bl.ld (HBL.out.keep hb) 3 rfl,Bl.ld (HBL.out.keep hb) 4 rfl,Bl.ld (HBL.out.keep hb) 5 rfl,Bl.ld (HBL.out.keep hb) 6 rfl⟩
 go_cut [3] (fun s3 wx=>∃ (g3:Nat) (A10:Option Addr) (c10:Nat) (A14:Option Addr) (c14:Nat),s3=.pointer (some ⟨g3,0,none⟩)/\Hid (Yg W0 wx/\W0.heap.size<=g3/\Bl wx 26 g3 [.int .i64 l.n,.slice none 0 0,.slice A10 bn c10,.slice A14 cn c14,.slice none 0 0,.slice none 0 0,.slice none 0 0]/\Ew W0 wx (.slice A10 bn c10) l.hasLo/\Ew W0 wx (.slice A14 cn c14) l.hasHi))
 case first=>
  refine flow (fun W=>Yg W0 W/\Ye7 W w.heap.size (.int .i64 l.n) (.slice aA an ac) (.slice bA bn bc) (.slice cA cn cc) (.slice dA dn dc) (.slice eA en ec) (.slice fA fn fc)) (fun vs W=>match vs with|[]=>True|[a]=>∃ g,a=.pointer (some ⟨g,0,none⟩)/\W0.heap.size<=g/\Bl W 26 g [.int .i64 0,.slice none 0 0,.slice none 0 0,.slice none 0 0,.slice none 0 0,.slice none 0 0,.slice none 0 0]|[a,_]=>∃ g A10 c10 A14 c14,a=.pointer (some ⟨g,0,none⟩)/\W0.heap.size<=g/\Bl W 26 g [.int .i64 l.n,.slice none 0 0,.slice A10 bn c10,.slice A14 cn c14,.slice none 0 0,.slice none 0 0,.slice none 0 0]/\Ew W0 W (.slice A10 bn c10) l.hasLo/\Ew W0 W (.slice A14 cn c14) l.hasHi|_=>True) (KeepT 4) 2 [⟨[],[(0,5),(1,6),(3,8),(4,9),(7,12),(8,13)],[],[(2,7,fun v W=>∃ g,v=.slice (some ⟨g,0,none⟩) 0 0/\W0.heap.size<=g/\Bl W 4 g []),(6,11,fun v W=>∃ g,v=.slice (some ⟨g,0,none⟩) 0 0/\W0.heap.size<=g/\Bl W 4 g [])]⟩,⟨[(2,7)],[(3,8),(4,9)],[],[(5,10,fun v W=>∃ A c,v=.slice A bn c/\Ew W0 W (.slice A bn c) l.hasLo)]⟩,⟨[(6,11)],[(7,12),(8,13)],[],[(9,14,fun v W=>∃ A c,v=.slice A cn c/\Ew W0 W (.slice A cn c) l.hasHi)]⟩,⟨[(5,10),(9,14)],[(0,5),(1,6),(10,15)],[],[]⟩] [] [⟨11,some 3,[],[],[]⟩,⟨12,none,[(5,10),(9,14)],[(0,5),(1,6),(10,15)],[]⟩] ⟨[(2,7),(5,10),(6,11),(9,14)],[(0,5),(1,6),(3,8),(4,9),(7,12),(8,13),(10,15)],[],[]⟩ ⟨below_nil,HC.out _ below_nil⟩ (trivial) (fun _ _ h b=>⟨Yb h.1 b,HC.out _ (Yb h.1 b)⟩) (fun vs _ _ h b=>match vs,h with|[],_=>trivial|[_],⟨g,e,h1,h2⟩=>⟨g,e,h1,h2.keep b⟩|[_,_],⟨g,A,c,A2,c2,h1,h2,h3,h4,h5⟩=>⟨g,A,c,A2,c2,h1,h2,h3.keep b,h4.keep b,h5.keep b⟩|_::_::_::_,_=>trivial) ⟨fun _ _ _ ⟨g,h,q,X⟩ b=>⟨g,h,q,X.keep b⟩,fun _ _ _ ⟨g,h,q,X⟩ r=>⟨g,h,q,r.bl X⟩,⟨fun _ _ _ ⟨g,h,q,X⟩ b=>⟨g,h,q,X.keep b⟩,fun _ _ _ ⟨g,h,q,X⟩ r=>⟨g,h,q,r.bl X⟩,⟨fun _ _ _ ⟨A,c,h,E⟩ b=>⟨A,c,h,E.keep b⟩,fun _ _ _ ⟨A,c,h,E⟩ r=>⟨A,c,h,E.keepT r⟩,⟨fun _ _ _ ⟨A,c,h,E⟩ b=>⟨A,c,h,E.keep b⟩,fun _ _ _ ⟨A,c,h,E⟩ r=>⟨A,c,h,E.keepT r⟩,trivial⟩⟩⟩⟩ ⟨?_,?_,?_,?_,trivial⟩ trivial ⟨?_,?_,trivial⟩ ?_
  · rintro W hS
    refine gvN ?_;(repeat refine flA ?_);refine flN (flN ?_)
    refine flK (fun K hK=>?_) (flK (fun K hK=>?_) flL)
    · have hal:=Ya W (.cells #[] 4)
      go_simp
      exact hK.out _ _ ⟨⟨_,rfl,hS.1.size,Bl.new W 4 []⟩,hal⟩
    · have hal:=Ya W (.cells #[] 4)
      go_simp
      exact hK.out _ _ ⟨⟨_,rfl,hS.1.size,Bl.new W 4 []⟩,hal⟩
  · rintro W hS v2 ⟨g2,rfl,p2,X2⟩
    refine gvN ?_;(repeat refine flA ?_);refine flN (flN ?_)
    refine flK (fun K hK=>?_) flL
    rw [if_pos (by rfl)]
    refine app_lit (f:=bcs) (ys:=l.hasLo) Tryz.underlying23 bool_info ⟨Yd,rfl⟩ bcs_len bcs_one (.tmp 7) (.tmp 9) rfl rfl rfl X2 p2 (HA.p1.keep hS.1) (by have:=HB2.p0;have:=HL.p1;omega) ?_
    rw [HL.p1]
    intro A c W2 h1 hb
    exact hK.out _ _ ⟨⟨_,_,rfl,h1⟩,hb⟩
  · rintro W hS v6 ⟨g6,rfl,p6,X6⟩
    refine gvN ?_;(repeat refine flA ?_);refine flN (flN ?_)
    refine flK (fun K hK=>?_) flL
    rw [if_pos (by rfl)]
    refine app_lit (f:=bcs) (ys:=l.hasHi) Tryz.underlying23 bool_info ⟨Yd,rfl⟩ bcs_len bcs_one (.tmp 11) (.tmp 13) rfl rfl rfl X6 p6 (HA.p2.keep hS.1) (by have:=HB2.q1;have:=HL.p2;omega) ?_
    rw [HL.p2]
    intro A c W2 h1 hb
    exact hK.out _ _ ⟨⟨_,_,rfl,h1⟩,hb⟩
  · rintro W hS v5 ⟨A10,c10,rfl,E10⟩ v9 ⟨A14,c14,rfl,E14⟩
    refine gvN ?_;(repeat refine flA ?_);refine flN (flN ?_)
    exact flL
  · rintro W hS -
    have hS:=hS flY
    refine gvN ?_;refine flN (flN ?_)
    refine flC fun K hK=>?_
    have hal:=Ya W (.cells #[.int .i64 0,.slice none 0 0,.slice none 0 0,.slice none 0 0,.slice none 0 0,.slice none 0 0,.slice none 0 0] 26)
    go_simp
    exact hK.out _ _ ⟨⟨_,rfl,hS.1.size,Bl.new W 26 [.int .i64 0,.slice none 0 0,.slice none 0 0,.slice none 0 0,.slice none 0 0,.slice none 0 0,.slice none 0 0]⟩,fun _=>⟨⟨Yb hS.1 hal,HC.out _ (Yb hS.1 hal)⟩,KeepT.below hal⟩⟩
  · rintro W hS c11 ⟨gz,rfl,pz,Xz⟩ v5 ⟨A10,c10,rfl,E10⟩ v9 ⟨A14,c14,rfl,E14⟩
    have hS:=hS flY
    refine gvN ?_;(repeat refine flA ?_);refine flN (flN ?_)
    refine flC fun K hK=>?_
    have f0:=Bl.fr Xz 0
    have f1:=Bl.fr Xz 1
    have f2:=Bl.fr Xz 2
    have f3:=Bl.fr Xz 3
    have f4:=Bl.fr Xz 4
    have f5:=Bl.fr Xz 5
    have f6:=Bl.fr Xz 6
    have r0:=Bl.ld Xz 0 rfl
    have r1:=Bl.ld Xz 1 rfl
    have r2:=Bl.ld Xz 2 rfl
    have r3:=Bl.ld Xz 3 rfl
    have r4:=Bl.ld Xz 4 rfl
    have r5:=Bl.ld Xz 5 rfl
    have r6:=Bl.ld Xz 6 rfl
    go_simp
    clear f0 r0 f1 r1 f2 r2 f3 r3 f4 r4 f5 r5 f6 r6
    have k7:=fun T h=>Xz.keep7 (e:=T) h (.int .i64 l.n) (.slice none 0 0) (.slice A10 bn c10) (.slice A14 cn c14) (.slice none 0 0) (.slice none 0 0) (.slice none 0 0)
    have b7:=below7 hS.1 pz (.int .i64 l.n) (.slice none 0 0) (.slice A10 bn c10) (.slice A14 cn c14) (.slice none 0 0) (.slice none 0 0) (.slice none 0 0)
    exact hK.out undef _ ⟨⟨_,_,_,_,_,rfl,pz,Xz.set7 rfl (.int .i64 l.n) (.slice none 0 0) (.slice A10 bn c10) (.slice A14 cn c14) (.slice none 0 0) (.slice none 0 0) (.slice none 0 0),E10.keepT (k7 _ Yd),E14.keepT (k7 _ Yd)⟩,fun _=>⟨⟨b7,HC.out _ b7⟩,k7 _ Yd⟩⟩
  rintro W hS c11 c12 ⟨gz,B10,d10,B14,d14,rfl,pz,Xz,F10,F14⟩ v2 ⟨g2,rfl,p2,X2⟩ v5 ⟨A10,c10,rfl,E10⟩ v6 ⟨g6,rfl,p6,X6⟩ v9 ⟨A14,c14,rfl,E14⟩
  have hS:=hS flY
  refine gvN ?_;(repeat refine flA ?_);refine flN (flN ?_)
  go_wp2_with fail
  go_meet
  exact ⟨gz,B10,d10,B14,d14,rfl,hS.1,pz,Xz,F10,F14⟩
 case rest=>
  obtain ⟨g3,A10,c10,A14,c14,rfl,HQ⟩:=hcut
  generalize wc=V1 at HQ ⊢
  go_upto_region 2 with (fail)
  have B1:=Lib.hid (Yb HQ.p0 (below_d _))
  have T0:=Yh3 (HQ.p2.keep (below_d _)) (HQ.p3.keep (below_d _)) (HQ.q4.keep (below_d _))
  have hg3:W0.heap.size<=g3:=HQ.p1
  clear HQ
  refine wp_region_held_drew (S:=fun W=>Ye7 W w.heap.size (.int .i64 l.n) (.slice aA an ac) (.slice bA bn bc) (.slice cA cn cc) (.slice dA dn dc) (.slice eA en ec) (.slice fA fn fc)) (by kernel_rfl) (HC.out _ B1.out) (fun Hh=>?_)
  generalize V1.drew=Wd at B1 T0 Hh ⊢
  refine rgFree [0,1,3,4,6,7,9,11,13] (Yl 15 0) (fun HFR=>?_)
  refine rgRun 6 [0,1,3,4,6,7] Hh fun K hK=>?_
  repeat refine rgA ?_
  refine hK _ _ ?_;clear hK K
  refine rgO 2 fun K hK=>?_
  go_simp
  go_at_call 31;refine (copyAll_r (HA.p3.keep B1.out) (Nat.le_trans HF.p1 Yd) (fun f hf=>⟨Nat.le_trans (HF.p0.2.2 f (.inl hf)).1 Yd,Nat.le_trans (HF.p0.2.2 f (.inl hf)).2 Yd⟩)).mono ?_;rintro e wd ⟨ud,rfl,hr⟩
  have hb:=hr.below
  obtain ⟨Ad9,cd9,rfl⟩:=hr.shape
  rw [HL.p3] at hr ⊢
  have B2:=Lib.hid (Yb B1.out hb)
  have T1:=Yh4 (T0.p0.keep hb) (T0.p1.keep hb) (T0.q2.keep hb) (hr.from B1.out)
  clear hb hr B1 T0 Hh
  go_wp2_with fail
  refine rgK hK (HC.out _ B2.out) fun Hh=>?_;clear hK K
  refine rgU 9 25 HFR Hh ?_
  refine rgO 5 fun K hK=>?_
  go_simp
  go_at_call 31;refine (copyAll_r (HA.p4.keep B2.out) (Nat.le_trans HF.p2 Yd) (fun f hf=>⟨Nat.le_trans (HF.p0.2.2 f (.inr (.inl hf))).1 Yd,Nat.le_trans (HF.p0.2.2 f (.inr (.inl hf))).2 Yd⟩)).mono ?_;rintro e we ⟨ue,rfl,hr⟩
  have hb:=hr.below
  obtain ⟨Ae9,ce9,rfl⟩:=hr.shape
  rw [HL.p4] at hr ⊢
  have B3:=Lib.hid (Yb B2.out hb)
  have T2:=Yh5 (T1.p0.keep hb) (T1.p1.keep hb) (T1.p2.keep hb) (T1.q3.keep hb) (hr.from B2.out)
  clear hb hr B2 T1 Hh
  go_wp2_with fail
  refine rgK hK (HC.out _ B3.out) fun Hh=>?_;clear hK K
  refine rgO 8 fun K hK=>?_
  go_simp
  go_at_call 31;refine (copyAll_r (HA.q5.keep B3.out) (Nat.le_trans HF.q3 Yd) (fun f hf=>⟨Nat.le_trans (HF.p0.2.2 f (.inr (.inr hf))).1 Yd,Nat.le_trans (HF.p0.2.2 f (.inr (.inr hf))).2 Yd⟩)).mono ?_;rintro e wf ⟨uf,rfl,hr⟩
  have hb:=hr.below
  obtain ⟨Af9,cf9,rfl⟩:=hr.shape
  rw [HL.q5] at hr ⊢
  have B4:=Lib.hid (Yb B3.out hb)
  have T3:=Yh6 (T2.p0.keep hb) (T2.p1.keep hb) (T2.p2.keep hb) (T2.p3.keep hb) (T2.q4.keep hb) (hr.from B3.out)
  clear hb hr B3 T2 Hh
  go_wp2_with fail
  refine rgK hK (HC.out _ B4.out) fun Hh=>?_;clear hK K
  refine rgO 10 fun K hK=>?_
  have f0:=Bl.fr T3.p0 4
  have r0:=Bl.ld T3.p0 4 rfl
  go_simp
  clear f0 r0
  have hbn:Yg W0 (wf.setCell ⟨g3,4,none⟩ (.slice Ad9 dn cd9)):=B4.out.setCell (p:=⟨g3,4,none⟩) hg3 _
  have T4:=Yh6 (T3.p0.set 4 (.slice Ad9 dn cd9)) (T3.p1.keepT (T3.p0.keepT1 Yd 4 (.slice Ad9 dn cd9))) (T3.p2.keepT (T3.p0.keepT1 Yd 4 (.slice Ad9 dn cd9))) (T3.p3.keepT (T3.p0.keepT1 Yd 4 (.slice Ad9 dn cd9)) (T3.p0.keepT1 Yd 4 (.slice Ad9 dn cd9)) hbn) (T3.p4.keepT (T3.p0.keepT1 Yd 4 (.slice Ad9 dn cd9)) (T3.p0.keepT1 Yd 4 (.slice Ad9 dn cd9)) hbn) (T3.q5.keepT (T3.p0.keepT1 Yd 4 (.slice Ad9 dn cd9)) (T3.p0.keepT1 Yd 4 (.slice Ad9 dn cd9)) hbn)
  have B5:=Lib.hid hbn
  refine rgK hK (HC.out _ B5.out) fun Hh=>?_;clear hK K
  clear hbn T3 B4
  generalize wf.setCell ⟨g3,4,none⟩ (.slice Ad9 dn cd9)=V2 at T4 B5 Hh ⊢
  refine rgU 11 26 HFR Hh ?_
  refine rgO 12 fun K hK=>?_
  have f0:=Bl.fr T4.p0 5
  have r0:=Bl.ld T4.p0 5 rfl
  go_simp
  clear f0 r0
  have hbn:Yg W0 (V2.setCell ⟨g3,5,none⟩ (.slice Ae9 en ce9)):=B5.out.setCell (p:=⟨g3,5,none⟩) hg3 _
  have T5:=Yh6 (T4.p0.set 5 (.slice Ae9 en ce9)) (T4.p1.keepT (T4.p0.keepT1 Yd 5 (.slice Ae9 en ce9))) (T4.p2.keepT (T4.p0.keepT1 Yd 5 (.slice Ae9 en ce9))) (T4.p3.keepT (T4.p0.keepT1 Yd 5 (.slice Ae9 en ce9)) (T4.p0.keepT1 Yd 5 (.slice Ae9 en ce9)) hbn) (T4.p4.keepT (T4.p0.keepT1 Yd 5 (.slice Ae9 en ce9)) (T4.p0.keepT1 Yd 5 (.slice Ae9 en ce9)) hbn) (T4.q5.keepT (T4.p0.keepT1 Yd 5 (.slice Ae9 en ce9)) (T4.p0.keepT1 Yd 5 (.slice Ae9 en ce9)) hbn)
  have B6:=Lib.hid hbn
  refine rgK hK (HC.out _ B6.out) fun Hh=>?_;clear hK K
  clear hbn T4 B5
  generalize V2.setCell ⟨g3,5,none⟩ (.slice Ae9 en ce9)=V3 at T5 B6 Hh ⊢
  refine rgU 13 27 HFR Hh ?_
  refine rgO 14 fun K hK=>?_
  have f0:=Bl.fr T5.p0 6
  have r0:=Bl.ld T5.p0 6 rfl
  go_simp
  clear f0 r0
  have hbn:Yg W0 (V3.setCell ⟨g3,6,none⟩ (.slice Af9 fn cf9)):=B6.out.setCell (p:=⟨g3,6,none⟩) hg3 _
  have T6:=Yh6 (T5.p0.set 6 (.slice Af9 fn cf9)) (T5.p1.keepT (T5.p0.keepT1 Yd 6 (.slice Af9 fn cf9))) (T5.p2.keepT (T5.p0.keepT1 Yd 6 (.slice Af9 fn cf9))) (T5.p3.keepT (T5.p0.keepT1 Yd 6 (.slice Af9 fn cf9)) (T5.p0.keepT1 Yd 6 (.slice Af9 fn cf9)) hbn) (T5.p4.keepT (T5.p0.keepT1 Yd 6 (.slice Af9 fn cf9)) (T5.p0.keepT1 Yd 6 (.slice Af9 fn cf9)) hbn) (T5.q5.keepT (T5.p0.keepT1 Yd 6 (.slice Af9 fn cf9)) (T5.p0.keepT1 Yd 6 (.slice Af9 fn cf9)) hbn)
  have B7:=Lib.hid hbn
  refine rgK hK (HC.out _ B7.out) fun Hh=>?_;clear hK K
  clear hbn T5 B6
  generalize V3.setCell ⟨g3,6,none⟩ (.slice Af9 fn cf9)=V4 at T6 B7 Hh ⊢
  refine Yw ?_
  clear Hh
  go_wp2_with fail
  go_loopw [4] (fun z4 wr=>∃ (k:Nat) (Aq:Option Addr) (cq:Nat),z4=.int .i64 (k:Int)/\k<=an/\Hid (Yg W0 wr/\Bl wr 26 g3 [.int .i64 l.n,.slice Aq k cq,.slice A10 bn c10,.slice A14 cn c14,.slice Ad9 dn cd9,.slice Ae9 en ce9,.slice Af9 fn cf9]/\Gw W0 wr (.slice Aq k cq) (l.cols.take k)/\Ew W0 wr (.slice A10 bn c10) l.hasLo/\Ew W0 wr (.slice A14 cn c14) l.hasHi/\Ro W0 wr (.slice Ad9 dn cd9) l.lo/\Ro W0 wr (.slice Ae9 en ce9) l.hi/\Ro W0 wr (.slice Af9 fn cf9) l.cost)) (fun z _=>an - (intOf z).toNat)
  case atStart=>exact ⟨0,none,0,rfl,Nat.zero_le _,B7.out,T6.p0,⟨[],Rr.nil _ _ _ _ _,Zip2.nil,B7.out⟩,T6.p1,T6.p2,T6.p3,T6.p4,T6.q5⟩
  case round=>
   clear T6 B7
   obtain ⟨k,Aq,cq,rfl,hk,H⟩:=hrel
   by_cases hlt:k<an
   · skip
     obtain ⟨ta,hta⟩:∃ t,l.cols[k]?=some t:=⟨_,List.getElem?_eq_getElem (by rw [HL.p0];exact hlt)⟩
     obtain ⟨ga,oa,qa,xa,e,hga,hva,za0⟩:=HA.p0.at_ hta
     rw [HL.p0] at e
     injection e with e1 e2 e3
     subst e1
     clear e2 e3 qa
     have HV:=Yh3 hva (fit_cols HF.p0 hta) (take_f hta)
     have HCa:Hid (∀ W,Yg W0 W->Yc7 W w.heap.size (.int .i64 l.n) (.slice (some ⟨ga,oa,none⟩) an ac) (.slice bA bn bc) (.slice cA cn cc) (.slice dA dn dc) (.slice eA en ec) (.slice fA fn fc) (W.cell? ⟨ga,oa+k,none⟩=some (.slice xa.A xa.l xa.k))):=fun W hb=>⟨Bl.ld (HBL.out.keep hb) 0 rfl,Bl.ld (HBL.out.keep hb) 1 rfl,Bl.ld (HBL.out.keep hb) 2 rfl,Bl.ld (HBL.out.keep hb) 3 rfl,Bl.ld (HBL.out.keep hb) 4 rfl,Bl.ld (HBL.out.keep hb) 5 rfl,Bl.ld (HBL.out.keep hb) 6 rfl,(hb.cell (p:=⟨ga,_,none⟩) hga).trans za0⟩
     clear hga hta za0 hva
     have dk:(k:Int)<(an:Int):=Yo
     obtain ⟨l0,l1,l2,l3,l4,l5,l6,za0⟩:=HCa.out _ H.p0
     go_upto_region 6 with (fail)
     clear l0 l1 l2 l3 l4 l5 l6 za0
     have HHk:=Lib.hid H.out
     clear H
     obtain ⟨nt,hnt⟩:∃ n,ta.length=n:=⟨_,rfl⟩
     have HNT:=Lib.hid hnt
     clear hnt
     refine flow (fun W=>Yg W0 W/\W.cell? ⟨g3,1,none⟩=some (.slice Aq k cq)/\Yc7 W w.heap.size (.int .i64 l.n) (.slice (some ⟨ga,oa,none⟩) an ac) (.slice bA bn bc) (.slice cA cn cc) (.slice dA dn dc) (.slice eA en ec) (.slice fA fn fc) (W.cell? ⟨ga,oa+k,none⟩=some (.slice xa.A xa.l xa.k))) (fun vs W=>match vs with|[]=>Yg W0 W/\Bl W 26 g3 [.int .i64 l.n,.slice Aq k cq,.slice A10 bn c10,.slice A14 cn c14,.slice Ad9 dn cd9,.slice Ae9 en ce9,.slice Af9 fn cf9]/\Gw W0 W (.slice Aq k cq) (l.cols.take k)/\Ew W0 W (.slice A10 bn c10) l.hasLo/\Ew W0 W (.slice A14 cn c14) l.hasHi/\Ro W0 W (.slice Ad9 dn cd9) l.lo/\Ro W0 W (.slice Ae9 en ce9) l.hi/\Ro W0 W (.slice Af9 fn cf9) l.cost|[a]=>∃ A c,a=.slice A (k+1) c/\Yg W0 W/\Bl W 26 g3 [.int .i64 l.n,.slice Aq k cq,.slice A10 bn c10,.slice A14 cn c14,.slice Ad9 dn cd9,.slice Ae9 en ce9,.slice Af9 fn cf9]/\Gw W0 W (.slice A (k+1) c) (l.cols.take (k+1))/\Ew W0 W (.slice A10 bn c10) l.hasLo/\Ew W0 W (.slice A14 cn c14) l.hasHi/\Ro W0 W (.slice Ad9 dn cd9) l.lo/\Ro W0 W (.slice Ae9 en ce9) l.hi/\Ro W0 W (.slice Af9 fn cf9) l.cost|[_,_]=>∃ A c,Yg W0 W/\Bl W 26 g3 [.int .i64 l.n,.slice A (k+1) c,.slice A10 bn c10,.slice A14 cn c14,.slice Ad9 dn cd9,.slice Ae9 en ce9,.slice Af9 fn cf9]/\Gw W0 W (.slice A (k+1) c) (l.cols.take (k+1))/\Ew W0 W (.slice A10 bn c10) l.hasLo/\Ew W0 W (.slice A14 cn c14) l.hasHi/\Ro W0 W (.slice Ad9 dn cd9) l.lo/\Ro W0 W (.slice Ae9 en ce9) l.hi/\Ro W0 W (.slice Af9 fn cf9) l.cost|_=>True) (fun _ _=>False) 0 [⟨[],[(0,35),(1,36),(2,37),(3,38),(4,39),(5,40),(6,41)],[],[(7,42,fun v W=>∃ A c,v=.slice A nt c/\Tw W0 W (.slice A nt c) ta)]⟩,⟨[(7,42)],[],[],[(8,43,fun v W=>∃ g A c,v=.slice (some ⟨g,0,none⟩) 1 1/\Bl W 54 g [.slice A nt c]/\Tw W0 W (.slice A nt c) ta)]⟩] [⟨[],[],[(10,45)],[]⟩] [⟨9,some 44,[(8,43)],[(0,35),(1,36)],[]⟩,⟨11,none,[],[],[(10,45)]⟩] ⟨[(7,42),(8,43)],[(0,35),(1,36),(2,37),(3,38),(4,39),(5,40),(6,41)],[(10,45)],[]⟩ ⟨HHk.p0,Bl.ld HHk.p1 1 rfl,HCa.out _ HHk.p0⟩ HHk.out (fun _ _ h b=>⟨Yb h.1 b,cell_keep h.2.1 b,HCa.out _ (Yb h.1 b)⟩) (fun vs _ _ h b=>match vs,h with|[],h=>⟨Yb h.1 b,h.2.1.keep b,h.2.2.1.keep b,h.2.2.2.1.keep b,h.2.2.2.2.1.keep b,h.2.2.2.2.2.1.keep b,h.2.2.2.2.2.2.1.keep b,h.2.2.2.2.2.2.2.keep b⟩|[_],⟨A,c,e,h⟩=>⟨A,c,e,⟨Yb h.1 b,h.2.1.keep b,h.2.2.1.keep b,h.2.2.2.1.keep b,h.2.2.2.2.1.keep b,h.2.2.2.2.2.1.keep b,h.2.2.2.2.2.2.1.keep b,h.2.2.2.2.2.2.2.keep b⟩⟩|[_,_],⟨A,c,h⟩=>⟨A,c,⟨Yb h.1 b,h.2.1.keep b,h.2.2.1.keep b,h.2.2.2.1.keep b,h.2.2.2.2.1.keep b,h.2.2.2.2.2.1.keep b,h.2.2.2.2.2.2.1.keep b,h.2.2.2.2.2.2.2.keep b⟩⟩|_::_::_::_,_=>trivial) ⟨fun _ _ _ ⟨A,c,e,h⟩ b=>⟨A,c,e,h.keep b⟩,fun _ _ _ _ h=>h.elim,⟨fun _ _ _ ⟨g,A,c,e,h,q⟩ b=>⟨g,A,c,e,h.keep b,q.keep b⟩,fun _ _ _ _ h=>h.elim,trivial⟩⟩ ⟨?_,?_,trivial⟩ ⟨?_,trivial⟩ ⟨?_,?_,trivial⟩ ?_
     · rintro W hS
       refine gvN ?_;(repeat refine flA ?_);refine flN (flN ?_)
       refine flK (fun K hK=>?_) flL
       go_simp
       go_at_call 48;refine (copy_t (HV.p0.keep hS.1) (Nat.le_trans HV.p1.1 Yd) (fun t ht=>⟨Nat.le_trans (HV.p1.2 t ht).1 Yd,Nat.le_trans (HV.p1.2 t ht).2 Yd⟩)).mono ?_;rintro e wt ⟨ut,rfl,ht⟩
       have hb:=ht.below
       obtain ⟨At,ct,rfl⟩:=ht.shape
       rw [HNT.out] at ht ⊢
       go_wp2_with fail
       exact hK.out _ _ ⟨⟨_,_,rfl,ht.from hS.1⟩,hb⟩
     · rintro W hS v7 ⟨At,ct,rfl,rT⟩
       refine gvN ?_;refine flN (flN ?_)
       refine flK (fun K hK=>?_) flL
       have hal:=Ya W (.cells #[.slice At nt ct] 54)
       go_simp
       exact hK.out _ _ ⟨⟨_,_,_,rfl,Bl.new W 54 [.slice At nt ct],rT.keep hal⟩,hal⟩
     · refine gvN ?_;(repeat refine flA ?_);exact trivial
     · rintro W hS ⟨rB,rX,rG,rE,rF,rU,rV,rY⟩ v8 ⟨gn,At,ct,rfl,rN,rT⟩
       have hS:=hS flY
       refine gvN ?_;(repeat refine flA ?_);refine flN (flN ?_)
       refine flC fun K hK=>?_
       rw [if_pos (by rfl)]
       obtain ⟨xs,hx1,hx2,hx3⟩:=rG
       have hlx:xs.length=k:=by rw [hx2.1,List.length_take,HL.p0];omega
       refine app_el (f:=Sl.cs) (x:=⟨At,nt,ct⟩) Tryz.underlying22 terms_info ⟨Yd,rfl,Yd⟩ Sl.len Sl.one (.tmp 36) (.tmp 43) rfl rfl rfl hx1 rN Yo rB ?_
       intro v9 W3 k1 k2 k3 k4
       obtain ⟨A9,c9,e9,-⟩:=k1.shape
       rw [List.length_append,hlx,List.length_singleton] at e9
       subst e9
       exact hK.out _ _ ⟨⟨_,_,rfl,k2,(k3 _ Yd).bl rX,⟨_,k1,by rw [HV.q2];exact (hx2.imp fun x c hc=>hc.keepT (k3 _ Yd) (k3 _ Yd) k2).app (rT.keepT (k3 _ Yd) (k3 _ Yd) k2),k2⟩,rE.keepT (k3 _ Yd),rF.keepT (k3 _ Yd),rU.keepT (k3 _ Yd) (k3 _ Yd) k2,rV.keepT (k3 _ Yd) (k3 _ Yd) k2,rY.keepT (k3 _ Yd) (k3 _ Yd) k2⟩,fun h=>flX h⟩
     · rintro W hS c9 ⟨A9,c9,rfl,rB,rX,rG,rE,rF,rU,rV,rY⟩
       clear hS
       refine gvN ?_;(repeat refine flA ?_);refine flN ?_
       refine flC fun K hK=>?_
       have f0:=Bl.fr rX 1
       have r0:=Bl.ld rX 1 rfl
       go_simp
       clear f0 r0
       have hbn:=rB.setCell (p:=⟨g3,1,none⟩) hg3 (.slice A9 (k+1) c9)
       exact hK.out undef _ ⟨⟨_,_,hbn,rX.set 1 (.slice A9 (k+1) c9),rG.keepT (rX.keepT1 Yd 1 (.slice A9 (k+1) c9)) (rX.keepT1 Yd 1 (.slice A9 (k+1) c9)) (rX.keepT1 Yd 1 (.slice A9 (k+1) c9)) hbn,rE.keepT (rX.keepT1 Yd 1 (.slice A9 (k+1) c9)),rF.keepT (rX.keepT1 Yd 1 (.slice A9 (k+1) c9)),rU.keepT (rX.keepT1 Yd 1 (.slice A9 (k+1) c9)) (rX.keepT1 Yd 1 (.slice A9 (k+1) c9)) hbn,rV.keepT (rX.keepT1 Yd 1 (.slice A9 (k+1) c9)) (rX.keepT1 Yd 1 (.slice A9 (k+1) c9)) hbn,rY.keepT (rX.keepT1 Yd 1 (.slice A9 (k+1) c9)) (rX.keepT1 Yd 1 (.slice A9 (k+1) c9)) hbn⟩,fun h=>flX h⟩
     rintro W hS c9 c11 ⟨A9,c9,rB,rX,rG,rE,rF,rU,rV,rY⟩ v7 - v8 -
     clear hS
     refine gvN ?_;(repeat refine flA ?_);refine flN ?_
     go_wp2_with fail
     case roundEnd=>exact ⟨⟨k+1,A9,c9,by go_num,Yo,rB,rX,rG,rE,rF,rU,rV,rY⟩,by simp [intOf];omega⟩
   obtain rfl:k=an:=by omega
   have dk:¬ (k:Int)<(k:Int):=Yo
   have HG:Hid (Gw W0 wr (.slice Aq k cq) l.cols):=by have h:=H.p2;rw [List.take_of_length_le (by rw [HL.p0];exact Nat.le_refl _)] at h;exact h
   obtain ⟨l0,l1,l2,l3,l4,l5,l6⟩:=HC.out _ H.p0
   have y0:=Bl.ld H.p1 0 rfl
   have y1:=Bl.ld H.p1 1 rfl
   have y2:=Bl.ld H.p1 2 rfl
   have y3:=Bl.ld H.p1 3 rfl
   have y4:=Bl.ld H.p1 4 rfl
   have y5:=Bl.ld H.p1 5 rfl
   have y6:=Bl.ld H.p1 6 rfl
   have X9:=HR0.out.keep H.p0
   have f0:=Bl.fr X9 0
   have f1:=Bl.fr X9 1
   have f2:=Bl.fr X9 2
   have f3:=Bl.fr X9 3
   have f4:=Bl.fr X9 4
   have f5:=Bl.fr X9 5
   have f6:=Bl.fr X9 6
   have r0:=Bl.ld X9 0 rfl
   have r1:=Bl.ld X9 1 rfl
   have r2:=Bl.ld X9 2 rfl
   have r3:=Bl.ld X9 3 rfl
   have r4:=Bl.ld X9 4 rfl
   have r5:=Bl.ld X9 5 rfl
   have r6:=Bl.ld X9 6 rfl
   have hX9:=Lib.hid X9
   clear X9
   go_wp2_with fail
   clear f0 r0 f1 r1 f2 r2 f3 r3 f4 r4 f5 r5 f6 r6 y0 y1 y2 y3 y4 y5 y6 l0 l1 l2 l3 l4 l5 l6
   try simp only [Exit.inBlock,Exit.then]
   refine ret_bl (hX9.out.set7 rfl _ _ _ _ _ _ _) (fun W hW=>by have d0:=hW 0 _ rfl;have d1:=hW 1 _ rfl;have d2:=hW 2 _ rfl;have d3:=hW 3 _ rfl;have d4:=hW 4 _ rfl;have d5:=hW 5 _ rfl;have d6:=hW 6 _ rfl;simp [results,Tryz.results11,go_sem,d0,d1,d2,d3,d4,d5,d6];try rfl) rfl ?_
   have kk:∀ T,26≠T->KeepT T wr (cells7 wr gR (.int .i64 l.n) (.slice Aq k cq) (.slice A10 bn c10) (.slice A14 cn c14) (.slice Ad9 dn cd9) (.slice Ae9 en ce9) (.slice Af9 fn cf9)):=fun T hT=>hX9.out.keep7 hT (.int .i64 l.n) (.slice Aq k cq) (.slice A10 bn c10) (.slice A14 cn c14) (.slice Ad9 dn cd9) (.slice Ae9 en ce9) (.slice Af9 fn cf9)
   have hbz:=below7 (Yb HBW.out H.p0) (Nat.le_of_lt hgl) (.int .i64 l.n) (.slice Aq k cq) (.slice A10 bn c10) (.slice A14 cn c14) (.slice Ad9 dn cd9) (.slice Ae9 en ce9) (.slice Af9 fn cf9)
   exact ⟨_,rfl,⟨l.n,⟨Aq,k,cq⟩,⟨A10,bn,c10⟩,⟨A14,cn,c14⟩,⟨Ad9,dn,cd9⟩,⟨Ae9,en,ce9⟩,⟨Af9,fn,cf9⟩⟩,rfl,rfl,⟨(HG.out.from HBW.out).keepT (kk _ Yd) (kk _ Yd) (kk _ Yd) hbz,(H.p3.from HBW.out).keepT (kk _ Yd),(H.p4.from HBW.out).keepT (kk _ Yd),(H.p5.from HBW.out).keepT (kk _ Yd) (kk _ Yd) hbz,(H.p6.from HBW.out).keepT (kk _ Yd) (kk _ Yd) hbz,(H.q7.from HBW.out).keepT (kk _ Yd) (kk _ Yd) hbz⟩,hbz⟩
end I
end
end
section
section
open Go Go.RowKit Go.Proofs Pl
section
variable {wv w0 w w':World} {v v' u:Value} {fs gs hs:List Fx} {f:Fx} {bs cs:List Bool} {b c:Bool}
def Rc (wv w0 w:World) (v:Value) (fs:List Fx):Prop:=∃ xs,Rr w w0.heap.size 36 3 Rm.cs v xs/\Zip2 (fun x f=>Fv wv x.num f∨Fw w0 w x.num f) xs fs
theorem Rc.nil:Rc wv w0 w (.slice none 0 0) []:=⟨[],Rr.nil _ _ _ _ _,Zip2.nil⟩
theorem Rc.keep (h:Rc wv w0 w v fs) (hb:Below w.heap.size w w'):Rc wv w0 w' v fs:=by
 obtain ⟨xs,h1,h2⟩:=h
 exact ⟨xs,h1.keep hb,h2.imp fun x f hf=>hf.imp id fun k=>k.keep hb⟩
theorem Rc.keepT (h:Rc wv w0 w v fs) (k1:KeepT 36 w w') (k2:KeepT 125 w w') (hb:Below w0.heap.size w0 w'):Rc wv w0 w' v fs:=by
 obtain ⟨xs,h1,h2⟩:=h
 exact ⟨xs,h1.keepT k1,h2.imp fun x f hf=>hf.imp id fun k=>k.keepT k2 hb⟩
theorem Rc.stay (h:Rc wv w0 w u fs) (ha:Apart v u) (k4:∀ g,g<w.heap.size->v.ownBlock≠some g->w'.heap[g]?=w.heap[g]?) (k2:KeepT 125 w w') (hb:Below w0.heap.size w0 w'):Rc wv w0 w' u fs:=by
 obtain ⟨xs,h1,h2⟩:=h
 exact ⟨xs,h1.stay ha k4,h2.imp fun x f hf=>hf.imp id fun k=>k.keepT k2 hb⟩
theorem Rc.apart (h:Rc wv w0 w u fs) (ha:Apart v u) (hw:∀ k,v'.ownBlock=some k->v.ownBlock=some k∨w.heap.size<=k):Apart v' u:=by
 obtain ⟨xs,h1,h2⟩:=h
 exact h1.apart ha hw
theorem Rc.shape (h:Rc wv w0 w v fs):∃ A cap,v=.slice A fs.length cap:=by
 obtain ⟨xs,h1,h2⟩:=h
 obtain ⟨A,cap,e,-⟩:=h1.shape
 exact ⟨A,cap,by rw [e,h2.1]⟩
theorem Rc.fresh (h:Rc wv w0 w v fs) {g n k:Nat} (hg:w.heap.size<=g):Apart v (.slice (some ⟨g,0,none⟩) n k):=fun j h1 h2=>by
 obtain ⟨xs,h3,-⟩:=h
 have:=(World.ownsRow.lt h3 j h1).2
 simp [Value.ownBlock] at h2
 omega
theorem Rc.fin (h:Rc wv w0 w v fs) (hw:Below wv.heap.size wv w0) (k1:KeepT 36 w w') (k2:KeepT 125 w w') (hb:Below wv.heap.size wv w'):Rx w' v fs:=by
 obtain ⟨xs,h1,h2⟩:=h
 exact ⟨xs,(h1.keepT k1).rv,h2.imp fun x f hf=>hf.elim (fun k=>k.keep hb) fun k=>((k.from hw).keepT k2 hb).fv⟩
theorem lit_stay {T:TypeId} {g n k:Nat} {us:List Value} (h:Bl w T g us) (ha:Apart v (.slice (some ⟨g,0,none⟩) n k)) (k4:∀ g,g<w.heap.size->v.ownBlock≠some g->w'.heap[g]?=w.heap[g]?):Bl w' T g us:=
 (k4 g h.lt fun e=>ha g e (by simp [Value.ownBlock])).trans h
theorem app_rc {o:Oper} {a:Act} {K:Act->World->Prop} {Q:Exit->Act->World->Prop} (sO xO:Operand)
 (ho:o.op=.call { callee:=.builtin .append,args:=#[sO,xO],argTypes:=#[24,24] }) {gn:Nat} {x:Rm} (hs:a.eval sO=v) (hx:a.eval xO=.slice (some ⟨gn,0,none⟩) 1 1)
 (h:Rc wv w0 w v fs) (hf:Fv wv x.num f∨Fw w0 w x.num f) (hn:Bl w 36 gn x.cs) (hl:fs.length<=1048576) (hb:Yg w0 w)
 (hk:∀ v' w',Rc wv w0 w' v' (fs++[f])->Yg w0 w'->(∀ T',36≠T'->KeepT T' w w')->(∀ g,g<w.heap.size->v.ownBlock≠some g->w'.heap[g]?=w.heap[g]?)->(∀ k,v'.ownBlock=some k->v.ownBlock=some k∨w.heap.size<=k)->K (a.put o.dst v') w'):o.wp Tryz.prog a w K Q:=by
 obtain ⟨xs,h1,h2⟩:=h
 refine app_at (f:=Rm.cs) (x:=x) Tryz.underlying24 rat_info ⟨Yd,rfl,Yd⟩ Rm.len Rm.one sO xO ho hs hx h1 hn (by rw [h2.1];exact hl) hb ?_
 intro v' w' k1 k2 k3 k4 k5
 exact hk v' w' ⟨_,k1,(h2.imp fun x f hf=>hf.imp id fun k=>k.keepT (k3 _ Yd) k2).app (hf.imp id fun k=>k.keepT (k3 _ Yd) k2)⟩ k2 k3 k4 k5
def Rb (w0 w:World) (v:Value) (bs:List Bool):Prop:=Rr w w0.heap.size 4 1 bcs v bs
theorem Rb.shape (h:Rb w0 w v bs):∃ A cap,v=.slice A bs.length cap:=by
 obtain ⟨A,cap,e,-⟩:=Rr.shape h
 exact ⟨A,cap,e⟩
theorem Rb.fresh (h:Rb w0 w v bs) {g n k:Nat} (hg:w.heap.size<=g):Apart v (.slice (some ⟨g,0,none⟩) n k):=fun j h1 h2=>by
 have:=(World.ownsRow.lt h j h1).2
 simp [Value.ownBlock] at h2
 omega
theorem app_b {o:Oper} {a:Act} {K:Act->World->Prop} {Q:Exit->Act->World->Prop} (sO xO:Operand)
 (ho:o.op=.call { callee:=.builtin .append,args:=#[sO,xO],argTypes:=#[23,23] }) {gn:Nat} (hs:a.eval sO=v) (hx:a.eval xO=.slice (some ⟨gn,0,none⟩) 1 1)
 (h:Rb w0 w v bs) (hn:Bl w 4 gn [.bool b]) (hl:bs.length<=1048576) (hb:Yg w0 w)
 (hk:∀ v' w',Rb w0 w' v' (bs++[b])->Yg w0 w'->(∀ T',4≠T'->KeepT T' w w')->(∀ g,g<w.heap.size->v.ownBlock≠some g->w'.heap[g]?=w.heap[g]?)->(∀ k,v'.ownBlock=some k->v.ownBlock=some k∨w.heap.size<=k)->K (a.put o.dst v') w'):o.wp Tryz.prog a w K Q:=
 app_at (f:=bcs) (x:=b) Tryz.underlying23 bool_info ⟨Yd,rfl,Yd⟩ bcs_len bcs_one sO xO ho hs hx h hn hl hb hk
def Sb (w0 w:World) (v u:Value) (bs cs:List Bool):Prop:=Rb w0 w v bs/\Rb w0 w u cs/\Apart v u
def Sd (wv w0 w:World) (v u z:Value) (fs gs hs:List Fx):Prop:=Rc wv w0 w v fs/\Rc wv w0 w u gs/\Rc wv w0 w z hs/\Apart v u/\Apart v z/\Apart u z
theorem Sb.keep (h:Sb w0 w v u bs cs) (hb:Below w.heap.size w w'):Sb w0 w' v u bs cs:=⟨Rr.keep h.1 hb,Rr.keep h.2.1 hb,h.2.2⟩
theorem Sb.keepT (h:Sb w0 w v u bs cs) (k:KeepT 4 w w'):Sb w0 w' v u bs cs:=⟨Rr.keepT h.1 k,Rr.keepT h.2.1 k,h.2.2⟩
variable {z:Value}
theorem Sd.keep (h:Sd wv w0 w v u z fs gs hs) (hb:Below w.heap.size w w'):Sd wv w0 w' v u z fs gs hs:=⟨h.1.keep hb,h.2.1.keep hb,h.2.2.1.keep hb,h.2.2.2⟩
theorem Sd.keepT (h:Sd wv w0 w v u z fs gs hs) (k1:KeepT 36 w w') (k2:KeepT 125 w w') (hb:Below w0.heap.size w0 w'):Sd wv w0 w' v u z fs gs hs:=⟨h.1.keepT k1 k2 hb,h.2.1.keepT k1 k2 hb,h.2.2.1.keepT k1 k2 hb,h.2.2.2⟩
theorem Sd.app1 {fs':List Fx} (h:Sd wv w0 w v u z fs gs hs) (k1:Rc wv w0 w' v' fs') (hb:Below w0.heap.size w0 w') (k2:KeepT 125 w w') (k4:∀ g,g<w.heap.size->v.ownBlock≠some g->w'.heap[g]?=w.heap[g]?) (k5:∀ k,v'.ownBlock=some k->v.ownBlock=some k∨w.heap.size<=k):Sd wv w0 w' v' u z fs' gs hs:=
 ⟨k1,h.2.1.stay h.2.2.2.1 k4 k2 hb,h.2.2.1.stay h.2.2.2.2.1 k4 k2 hb,h.2.1.apart h.2.2.2.1 k5,h.2.2.1.apart h.2.2.2.2.1 k5,h.2.2.2.2.2⟩
theorem Sd.app2 {fs':List Fx} (h:Sd wv w0 w v u z fs gs hs) (k1:Rc wv w0 w' v' fs') (hb:Below w0.heap.size w0 w') (k2:KeepT 125 w w') (k4:∀ g,g<w.heap.size->u.ownBlock≠some g->w'.heap[g]?=w.heap[g]?) (k5:∀ k,v'.ownBlock=some k->u.ownBlock=some k∨w.heap.size<=k):Sd wv w0 w' v v' z fs fs' hs:=
 ⟨h.1.stay h.2.2.2.1.symm k4 k2 hb,k1,h.2.2.1.stay h.2.2.2.2.2 k4 k2 hb,(h.1.apart h.2.2.2.1.symm k5).symm,h.2.2.2.2.1,h.2.2.1.apart h.2.2.2.2.2 k5⟩
theorem Sd.app3 {fs':List Fx} (h:Sd wv w0 w v u z fs gs hs) (k1:Rc wv w0 w' v' fs') (hb:Below w0.heap.size w0 w') (k2:KeepT 125 w w') (k4:∀ g,g<w.heap.size->z.ownBlock≠some g->w'.heap[g]?=w.heap[g]?) (k5:∀ k,v'.ownBlock=some k->z.ownBlock=some k∨w.heap.size<=k):Sd wv w0 w' v u v' fs gs fs':=
 ⟨h.1.stay h.2.2.2.2.1.symm k4 k2 hb,h.2.1.stay h.2.2.2.2.2.symm k4 k2 hb,k1,h.2.2.2.1,(h.1.apart h.2.2.2.2.1.symm k5).symm,(h.2.1.apart h.2.2.2.2.2.symm k5).symm⟩
theorem Sb.app1 {bs':List Bool} (h:Sb w0 w v u bs cs) (k1:Rb w0 w' v' bs') (k4:∀ g,g<w.heap.size->v.ownBlock≠some g->w'.heap[g]?=w.heap[g]?) (k5:∀ k,v'.ownBlock=some k->v.ownBlock=some k∨w.heap.size<=k):Sb w0 w' v' u bs' cs:=
 ⟨k1,Rr.stay h.2.1 h.2.2 k4,Rr.apart h.2.1 h.2.2 k5⟩
theorem Sb.app2 {bs':List Bool} (h:Sb w0 w v u bs cs) (k1:Rb w0 w' v' bs') (k4:∀ g,g<w.heap.size->u.ownBlock≠some g->w'.heap[g]?=w.heap[g]?) (k5:∀ k,v'.ownBlock=some k->u.ownBlock=some k∨w.heap.size<=k):Sb w0 w' v v' bs bs':=
 ⟨Rr.stay h.1 h.2.2.symm k4,k1,(Rr.apart h.1 h.2.2.symm k5).symm⟩
end
structure Wm where
 nm:ByteArray
 p:Bool
 q:Bool
 lo:Rm
 hi:Rm
 ts:Sl
structure Vm where
 nm:ByteArray
 wh:Bool
 p:Bool
 q:Bool
 lo:Rm
 hi:Rm
 co:Rm
def Wm.cs (x:Wm):List Value:=[.string x.nm,.bool x.p,.bool x.q,.bool x.lo.b,.slice x.lo.A x.lo.l x.lo.k,.slice x.lo.B x.lo.m x.lo.d,.bool x.hi.b,.slice x.hi.A x.hi.l x.hi.k,.slice x.hi.B x.hi.m x.hi.d,.slice x.ts.A x.ts.l x.ts.k]
def Vm.cs (x:Vm):List Value:=[.string x.nm,.bool x.wh,.bool x.p,.bool x.q,.bool x.lo.b,.slice x.lo.A x.lo.l x.lo.k,.slice x.lo.B x.lo.m x.lo.d,.bool x.hi.b,.slice x.hi.A x.hi.l x.hi.k,.slice x.hi.B x.hi.m x.hi.d,.bool x.co.b,.slice x.co.A x.co.l x.co.k,.slice x.co.B x.co.m x.co.d]
theorem Wm.len (x:Wm):x.cs.length=10:=rfl
theorem Vm.len (x:Vm):x.cs.length=13:=rfl
structure Wx where
 p:Bool
 q:Bool
 lo:Fx
 hi:Fx
 ts:List (Int × Fx)
structure Vx where
 p:Bool
 q:Bool
 lo:Fx
 hi:Fx
 co:Fx
structure Px where
 rows:List Wx
 vars:List Vx
def Wv (w:World) (x:Wm) (r:Wx):Prop:=x.p=r.p/\x.q=r.q/\Fv w x.lo.num r.lo/\Fv w x.hi.num r.hi/\Tx w x.ts.v r.ts
def Vv (w:World) (x:Vm) (r:Vx):Prop:=x.p=r.p/\x.q=r.q/\Fv w x.lo.num r.lo/\Fv w x.hi.num r.hi/\Fv w x.co.num r.co
def Wr (w:World) (v:Value) (rs:List Wx):Prop:=∃ xs,Rv w Wm.cs v xs/\Zip2 (Wv w) xs rs
def Vr' (w:World) (v:Value) (rs:List Vx):Prop:=∃ xs,Rv w Vm.cs v xs/\Zip2 (Vv w) xs rs
def Pv (w:World) (v:Value) (p:Px):Prop:=∃ n1 n2 A a c B b d,v=.agg #[n1,n2,.slice A a c,.slice B b d]/\Wr w (.slice A a c) p.rows/\Vr' w (.slice B b d) p.vars
section
variable {w w':World} {v:Value} {rs:List Wx} {vs:List Vx} {r:Wx} {s:Vx} {i:Nat}
theorem Wr.keep (h:Wr w v rs) (hb:Below w.heap.size w w'):Wr w' v rs:=by
 obtain ⟨xs,h1,h2⟩:=h
 exact ⟨xs,h1.keep hb,h2.imp fun x r hr=>⟨hr.1,hr.2.1,hr.2.2.1.keep hb,hr.2.2.2.1.keep hb,hr.2.2.2.2.keep hb⟩⟩
theorem Wr.shape (h:Wr w v rs):∃ A cap,v=.slice A rs.length cap/\rs.length<=maxLen:=by
 obtain ⟨xs,⟨A,cap,e,h1,h3,-⟩,h2⟩:=h
 exact ⟨A,cap,by rw [e,h2.1],by rw [<- h2.1];omega⟩
theorem Vr'.shape (h:Vr' w v vs):∃ A cap,v=.slice A vs.length cap/\vs.length<=maxLen:=by
 obtain ⟨xs,⟨A,cap,e,h1,h3,-⟩,h2⟩:=h
 exact ⟨A,cap,by rw [e,h2.1],by rw [<- h2.1];omega⟩
theorem Wr.at_ (h:Wr w v rs) (hi:rs[i]?=some r):∃ g o cap,∃ x:Wm,v=.slice (some ⟨g,o,none⟩) rs.length cap/\g<w.heap.size/\Wv w x r/\∀ j u,x.cs[j]?=some u->w.cell? ⟨g,o+(i*10+j),none⟩=some u:=by
 obtain ⟨xs,h1,h2⟩:=h
 obtain ⟨x,hx,hr⟩:=h2.left hi
 obtain ⟨g,o,cap,e,-,hg,hc⟩:=h1.at_ Yd Wm.len hx
 exact ⟨g,o,cap,x,by rw [e,h2.1],hg,hr,hc⟩
theorem Vr'.at_ (h:Vr' w v vs) (hi:vs[i]?=some s):∃ g o cap,∃ x:Vm,v=.slice (some ⟨g,o,none⟩) vs.length cap/\g<w.heap.size/\Vv w x s/\∀ j u,x.cs[j]?=some u->w.cell? ⟨g,o+(i*13+j),none⟩=some u:=by
 obtain ⟨xs,h1,h2⟩:=h
 obtain ⟨x,hx,hr⟩:=h2.left hi
 obtain ⟨g,o,cap,e,-,hg,hc⟩:=h1.at_ Yd Vm.len hx
 exact ⟨g,o,cap,x,by rw [e,h2.1],hg,hr,hc⟩
end
def colM (p:Px) (i k:Nat):Tms:=(List.range k).map fun (j:Nat)=>((j:Int),getV (qT (p.rows.getD j ⟨false,false,⟨false,[],[]⟩,⟨false,[],[]⟩,[]⟩).ts) i)
def colsV (p:Px) (n:Nat):List (List (Int × Fx)):=(List.range n).map fun i=>fqT (mkV (colM p i p.rows.length))
def slacks (k:Nat):List (List (Int × Fx)):=(List.range k).map fun (j:Nat)=>[((j:Int),fq (-1))]
def makeX (p:Px):LPx:=⟨p.vars.length,colsV p p.vars.length++slacks p.rows.length,p.vars.map Vx.p++p.rows.map Wx.p,p.vars.map Vx.q++p.rows.map Wx.q,p.vars.map Vx.lo++p.rows.map Wx.lo,p.vars.map Vx.hi++p.rows.map Wx.hi,p.vars.map Vx.co++p.rows.map fun _=>fq 0⟩
def FitP (p:Px):Prop:=p.rows.length<=100/\p.vars.length<=100/\(∀ r∈p.rows,r.ts.length<=30/\∀ t∈r.ts,t.2.xs.length<=6/\t.2.ds.length<=6)
def L1 (p:Px) (k:Nat) (a:List (List (Int × Fx))) (b c:List Bool) (d e f:List Fx):Prop:=
 a=colsV p k/\b=(p.vars.take k).map Vx.p/\c=(p.vars.take k).map Vx.q/\d=(p.vars.take k).map Vx.lo/\e=(p.vars.take k).map Vx.hi/\f=(p.vars.take k).map Vx.co
def L3 (p:Px) (k:Nat) (a:List (List (Int × Fx))) (b c:List Bool) (d e f:List Fx):Prop:=
 a=colsV p p.vars.length++slacks k/\b=p.vars.map Vx.p++(p.rows.take k).map Wx.p/\c=p.vars.map Vx.q++(p.rows.take k).map Wx.q/\d=p.vars.map Vx.lo++(p.rows.take k).map Wx.lo/\e=p.vars.map Vx.hi++(p.rows.take k).map Wx.hi/\f=p.vars.map Vx.co++(p.rows.take k).map fun _=>fq 0
section
variable {p:Px} {k:Nat} {a:List (List (Int × Fx))} {b c:List Bool} {d e f:List Fx} {r:Wx} {s:Vx}
theorem L1.nil (p:Px):L1 p 0 [] [] [] [] [] []:=⟨rfl,rfl,rfl,rfl,rfl,rfl⟩
theorem L1.next (h:L1 p k a b c d e f) (hs:p.vars[k]?=some s):L1 p (k+1) (a++[fqT (mkV (colM p k p.rows.length))]) (b++[s.p]) (c++[s.q]) (d++[s.lo]) (e++[s.hi]) (f++[s.co]):=by
 obtain ⟨rfl,rfl,rfl,rfl,rfl,rfl⟩:=h
 refine ⟨by unfold colsV;rw [List.range_succ,List.map_append];rfl,?_,?_,?_,?_,?_⟩<;>(rw [take_f hs,List.map_append];rfl)
theorem L3.next (h:L3 p k a b c d e f) (hr:p.rows[k]?=some r):L3 p (k+1) (a++[[((k:Int),fq (-1))]]) (b++[r.p]) (c++[r.q]) (d++[r.lo]) (e++[r.hi]) (f++[fq 0]):=by
 obtain ⟨rfl,rfl,rfl,rfl,rfl,rfl⟩:=h
 refine ⟨by unfold slacks;rw [List.range_succ,List.map_append,List.append_assoc];rfl,?_,?_,?_,?_,?_⟩<;>(rw [take_f hr,List.map_append,List.append_assoc];rfl)
theorem L1.turn (h:L1 p p.vars.length a b c d e f):L3 p 0 a b c d e f:=by
 obtain ⟨rfl,rfl,rfl,rfl,rfl,rfl⟩:=h
 refine ⟨by simp [slacks],?_,?_,?_,?_,?_⟩<;>simp
theorem L3.all (h:L3 p p.rows.length a b c d e f):(⟨p.vars.length,a,b,c,d,e,f⟩:LPx)=makeX p:=by
 obtain ⟨rfl,rfl,rfl,rfl,rfl,rfl⟩:=h
 unfold makeX
 simp
theorem L1.len (h:L1 p k a b c d e f) (hk:k<=p.vars.length):a.length=k/\b.length=k/\c.length=k/\d.length=k/\e.length=k/\f.length=k:=by
 obtain ⟨rfl,rfl,rfl,rfl,rfl,rfl⟩:=h
 refine ⟨by simp [colsV],?_,?_,?_,?_,?_⟩<;>(rw [List.length_map,List.length_take];omega)
theorem L3.len (h:L3 p k a b c d e f) (hk:k<=p.rows.length):a.length=p.vars.length+k/\b.length=p.vars.length+k/\c.length=p.vars.length+k/\d.length=p.vars.length+k/\e.length=p.vars.length+k/\f.length=p.vars.length+k:=by
 obtain ⟨rfl,rfl,rfl,rfl,rfl,rfl⟩:=h
 refine ⟨by simp [colsV,slacks],?_,?_,?_,?_,?_⟩<;>(rw [List.length_append,List.length_map,List.length_map,List.length_take];omega)
theorem colM_succ (p:Px) (i:Nat) {j:Nat} (hr:p.rows[j]?=some r):colM p i (j+1)=colM p i j++[((j:Int),getV (qT r.ts) i)]:=by
 unfold colM
 rw [List.range_succ,List.map_append]
 simp [List.getD_eq_getElem?_getD,hr]
end
end
end
section
namespace I
section
open Go Go.RowKit Go.Proofs Pl
theorem getV_sz {w:World} {v:Value} {c:List (Int × Fx)} (h:Tx w v c) (hc:c.length<=30/\∀ t∈c,t.2.xs.length<=6/\t.2.ds.length<=6) (i:Int):Sz 211 (getV (qT c) i):=by
 refine (sz_get (L:=6) (l:=qT c) (fun t ht=>?_) i).mono ?_
 · obtain ⟨u,hu,rfl⟩:=List.mem_map.1 ht
   obtain ⟨k,hk⟩:=List.getElem?_of_mem hu
   obtain ⟨g,o,cap,y,-,-,-,-,hq,-⟩:=h.at_ hk
   exact (hq.qv (hc.2 u hu).1 (hc.2 u hu).2).sz Yd
 · have:(qT c).length<=30:=by unfold qT;rw [List.length_map];exact hc.1
   have:=Nat.mul_le_mul_right 7 this
   omega
end
end I
end
end Go.Proofs.YtaajajngnmaggaaGreat
