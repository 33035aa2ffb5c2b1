import Derived.Test.YtaajajngnmaggaaGreatENA27
import Derived.Test.YtaajajngnmaggaaGreatENA26
set_option maxRecDepth 100000
set_option maxHeartbeats 8000000
set_option linter.unusedVariables false
set_option linter.unusedSimpArgs false
namespace Go.Proofs.YtaajajngnmaggaaGreat
section
section
open Go Go.RowKit Go.Proofs Pl
def EntD (w:World) (G:Int × List Int × Bool) (e:Ending) (w':World):Prop:=∃ (c:Int) (fl:List Int) (ok:Bool) (fv:Value),e=.returned (.tuple #[.int .i64 c,fv,.bool ok])/\Iv w' fv fl/\Yg w w'/\G=(c,fl,ok)
theorem entD {w w':World} {G:Int × List Int × Bool} {e:Ending} (c:Int) (fl:List Int) (ok:Bool) (fv:Value) (h:e=.returned (.tuple #[.int .i64 c,fv,.bool ok])) (h2:Iv w' fv fl) (h3:Below w.heap.size w w') (h4:G=(c,fl,ok)):EntD w G e w':=⟨c,fl,ok,fv,h,h2,h3,h4⟩
theorem rr_empty {w:World} {B g:Nat} {T:TypeId} (h:Bl w T g []) (hB:B<=g):Rr w B T 1 ics (.slice (some ⟨g,0,none⟩) 0 0) []:=⟨rfl,.inr ⟨g,0,#[],rfl,hB,h,Nat.le_refl _,Nat.zero_le _,rfl,rfl⟩⟩
theorem made_bools (n:Nat):(madeCells (Value.bool false).cells (n*1))=(List.replicate n (Value.bool false)).toArray:=by
 apply Array.toList_inj.1
 rw [Nat.mul_one]
 apply List.ext_getElem
 · simp [madeCells]
 · intro i h1 h2
   have e:i % 1=0:=Nat.mod_one i
   simp [madeCells,Value.cells,e]
theorem make_bools (n:Nat) (hc:n<=1000) (W:World):
 (Instr.makeSlice 23 (.int .i64 (n:Int)) (.int .i64 (n:Int))).run Tryz.prog W=.ok (.slice (some ⟨W.heap.size,0,none⟩) n n) (W.alloc (.cells (Array.replicate n (Value.bool false)) 4)):=by
 obtain ⟨i0,hi0,hz0,hz1,hz2⟩:=info_parts bool_info
 have h:=run_make (P:=Tryz.prog) W 23 4 i0 _ Tryz.underlying23 hi0 hz0 .i64 .i64 (n:Int) (n:Int) Yo Yo (by rw [hz2];omega) Yo
 rw [h]
 simp only [Int.toNat_natCast,hz1,made_bools,List.toArray_replicate]
namespace I
theorem Qe.put3 {w:World} {L g:Nat} {T:TypeId} {v:Value} {q:Rat} {vs:List Value} (h:Qe w L v q) (X:Bl w T g vs) (hi:∀ x∈vs,∀ n,x≠.int .i64 n) (x0 x1 x2:Value):Qe (cells3 w g x0 x1 x2) L v q:=by
 obtain ⟨s,d,e,-⟩:=id h
 refine h.same (ok:=fun _=>True) ⟨_,s,d,e,fun _ _=>trivial,fun _ _=>trivial⟩ fun k o z _ hc=>?_
 by_cases e2:k=g
 · exfalso
   subst e2
   have X':w.heap[k]?=_:=X
   simp only [World.cell?,X',Option.bind_eq_bind,Option.bind_some,Obj.cells,List.getElem?_toArray] at hc
   exact hi _ (List.mem_of_getElem? hc) z rfl
 · unfold cells3
   rw [Below.heap_setCell _ _ _ _ (fun e3=>e2 e3),Below.heap_setCell _ _ _ _ (fun e3=>e2 e3),Below.heap_setCell _ _ _ _ (fun e3=>e2 e3)]
theorem enter_d {w:World} {v u y z:Value} {l:LPx} {st:List Int} {ds rs:List Fx} {up sb flip:Bool} {As Bs:Option Addr} {ls cs ms ds_:Nat} {sh:Fx} {L:List (Int × Rat)} (h:LPv w v l) (hs:Iv w u st) (hd:Rx w y ds) (hr:Rx w z rs) (hq:Fv w (.agg #[.bool sb,.slice As ls cs,.slice Bs ms ds_]) sh) (hf:Fit30 l) (hfit:fitsOne l ds.length) (hst:st.length=ds.length) (hsr:st.length=rs.length) (hds:∀ f∈ds,f.xs.length<=6/\f.ds.length<=6) (hrs:∀ f∈rs,f.xs.length<=6/\f.ds.length<=6) (hsh:sh.xs.length<=6/\sh.ds.length<=6) (hin:∀ (i:Nat) s,st[i]?=some s->1<=s/\s<=4) (hL:L.Perm (candX l st ds rs up st.length)) (hso:SortedC L):
 Calls Tryz.prog 37 #[v,u,y,z,.bool up,.bool flip,.agg #[.bool sb,.slice As ls cs,.slice Bs ms ds_]] w fun e w'=>EntD w (goEnter flip (hasN l) (fun c=>absN rs c*wideN l c) L sh.q []) e w':=by
 have hlp:=h
 obtain ⟨aA,an,ac,bA,bn,bc,cA,cn,cc,dA,dn,dc,eA,en,ec,fA,fn,fc,rfl,hP,hla,hlb,hlc,hld,hle,hlf,hma,hmb,hmc,hmd,hme,hmf⟩:=h.open
 obtain ⟨Au,cu,rfl,-,-⟩:=hs.shape
 obtain ⟨Ay,cy,rfl,-,-⟩:=hd.shape
 obtain ⟨Az,cz,rfl,-,-⟩:=hr.shape
 obtain ⟨n,hn⟩:∃ n,st.length=n:=⟨_,rfl⟩
 rw [hn] at hs hst hsr hL ⊢
 rw [<- hst] at hd hfit ⊢
 rw [<- hsr] at hr ⊢
 have HS:=Yh5 hlp hs hd hr (hq.qv (L:=6) hsh.1 hsh.2)
 have HN:=Yh3 hn hst.symm hsr.symm
 have HZ:=Yh3 hds hrs hf
 have HIN:=Lib.hid hin
 have HFT:=Lib.hid hfit
 have HLL:=Yh2 hL hso
 have HN14:Hid (n<=14):=by have h1:=hfit.1;have h2:=hf.1.1;exact (by omega:n<=14)
 have HAN:=Yh4 hla hf.1.1 hP.2.1 hP.2.2.1
 have HLB:=Yh2 hlb hlc
 have HE4:=Yh2 hP.2.2.2.1 hP.2.2.2.2.1
 have HLD:=Yh2 hld hle
 clear hP hlp hs hd hr hq hsh hn hst hsr hds hrs hf hfit hin hL hso hla hlb hlc hld hle hlf hma hmb hmc hmd hme hmf h
 change Calls Tryz.prog 37 #[.agg #[.int .i64 l.n,.slice aA an ac,.slice bA bn bc,.slice cA cn cc,.slice dA dn dc,.slice eA en ec,.slice fA fn fc],.slice Au n cu,.slice Ay n cy,.slice Az n cz,.bool up,.bool flip,.agg #[.bool sb,.slice As ls cs,.slice Bs ms ds_]] w _
 go_enter Tryz.func37,Tryz.ntmps37
 go_upto_region 1 with (fail)
 obtain ⟨hX,hY,hB⟩:=box2 w 26 36 [.int .i64 l.n,.slice aA an ac,.slice bA bn bc,.slice cA cn cc,.slice dA dn dc,.slice eA en ec,.slice fA fn fc] [.bool sb,.slice As ls cs,.slice Bs ms ds_]
 have HX:=Yh3 hX hY hB
 clear hX hY hB
 generalize (w.alloc _).alloc _=W0 at HX ⊢
 have hn14:=HN14.out
 have hb1:Yg W0 ((W0.alloc (.cells (Array.replicate n (Value.bool false)) 4)).alloc (.cells #[] 3)):=Yb (Ya _ _) (Ya _ _)
 have y0:=Bl.ld (HX.p1.keep hb1) 0 rfl
 have y1:=Bl.ld (HX.p1.keep hb1) 1 rfl
 have y2:=Bl.ld (HX.p1.keep hb1) 2 rfl
 have hmk:=fun W=>make_bools n Yo W
 go_wp2_with fail
 refine (of_e (HS.q4.keep (Yb HX.q2 hb1)) Yd Yd).mono ?_;rintro e w1 ⟨v8,rfl,h8,hb⟩
 obtain ⟨p8,A8,l8,c8,B8,k8,d8,rfl⟩:=h8.parts
 clear hmk
 go_upto_region 3 with (fail)
 have hal:=Ya w1 (.cells #[.bool p8,.slice A8 l8 c8,.slice B8 k8 d8] 96)
 have hbb:=Yb hb1 (Yb hb hal)
 have hbd:Bl ((W0.alloc (.cells (Array.replicate n (Value.bool false)) 4)).alloc (.cells #[] 3)) 4 W0.heap.size (List.replicate n (Value.bool false)):=by simpa using (Bl.new W0 4 (List.replicate n (Value.bool false))).alloc (.cells #[] 3)
 have H1:=Yh6 (HX.p0.keep hbb) (hbd.keep (Yb hb hal)) (rr_empty (B:=w.heap.size) ((Bl.new1 W0 _ 3 []).keep (Yb hb hal)) (by have:=HX.q2.size;omega)) (Bl.new w1 96 [.bool p8,.slice A8 l8 c8,.slice B8 k8 d8]) (h8.keep hal) (Yb HX.q2 hbb)
 have hg1:=HX.p1.lt
 have hg2:=((Bl.new1 W0 _ 3 []:Bl ((W0.alloc (.cells (Array.replicate n (Value.bool false)) 4)).alloc (.cells #[] 3)) 3 _ []).keep hb).lt
 obtain ⟨gdn,hgd⟩:∃ g,g=W0.heap.size:=⟨_,rfl⟩
 obtain ⟨gq,hgq⟩:∃ g,g=w1.heap.size:=⟨_,rfl⟩
 rw [<- hgd] at H1 hg1 hg2 ⊢
 rw [<- hgq] at H1 hg2 ⊢
 have HG:Hid (w.heap.size+1<gdn/\gdn+1<gq):=⟨hg1,hg2⟩
 clear hal hbb hbd hb hb1 h8 hgd hgq hg1 hg2 HX y0 y1 y2
 generalize w1.alloc _=V0 at H1 ⊢
 go_wp2_with fail
 go_loopw [20,18] (fun z20 z18 wr=>∃ (t:Nat) (fl:List Int) (s:Rat) (bs:List Bool) (ps:Bool) (Ap:Option Addr) (lp cp:Nat) (Bp:Option Addr) (mp dp:Nat) (fv:Value),z20=.int .i64 (t:Int)/\fv=z18/\t<=n/\Hid ((goEnter flip (hasN l) (fun c=>absN rs c*wideN l c) (L.drop t) s fl=goEnter flip (hasN l) (fun c=>absN rs c*wideN l c) L sh.q [])/\(bs.length=n/\GoneC L n t (fun i=>bs.getD i false))/\(fl.length<=t)/\(Rr wr w.heap.size 3 1 ics fv fl)/\(Bl wr 4 gdn (bs.map Value.bool))/\(Bl wr 26 w.heap.size [.int .i64 l.n,.slice aA an ac,.slice bA bn bc,.slice cA cn cc,.slice dA dn dc,.slice eA en ec,.slice fA fn fc])/\(Bl wr 96 gq [.bool ps,.slice Ap lp cp,.slice Bp mp dp])/\(Qe wr (30+92*t) (.agg #[.bool ps,.slice Ap lp cp,.slice Bp mp dp]) s)/\(Yg w wr))) (fun z _ _=>n - (intOf z).toNat)
 case atStart=>exact ⟨0,[],sh.q,List.replicate n false,p8,A8,l8,c8,B8,k8,d8,_,rfl,rfl,Nat.zero_le _,rfl,⟨List.length_replicate,GoneC.nil fun i hi=>by simp [List.getD_eq_getElem?_getD,List.getElem?_replicate,hi]⟩,Nat.le_refl _,H1.p2,by simpa using H1.p1,H1.p0,H1.p3,H1.p4,H1.q5⟩
 case round=>
  obtain ⟨t,fl,s,bs,ps,Ap,lp,cp,Bp,mp,dp,fv,rfl,rfl,ht,H⟩:=hrel
  have hn14:=HN14.out
  by_cases hlt:t<n
  · skip
    have HI:=Yh3 H.p0 H.p1 H.p2
    go_wp2_with fail
    go_loopw [21,22] (fun z21 z22 wr2=>∃ (b:Int) (i:Nat),z21=.int .i64 b/\z22=.int .i64 (i:Int)/\i<=n/\Hid ((MinC (fun i=>!bs.getD i false && mayN l st rs up i) (ratN ds rs) i b)/\(Rr wr2 w.heap.size 3 1 ics fv fl)/\(Bl wr2 4 gdn (bs.map Value.bool))/\(Bl wr2 26 w.heap.size [.int .i64 l.n,.slice aA an ac,.slice bA bn bc,.slice cA cn cc,.slice dA dn dc,.slice eA en ec,.slice fA fn fc])/\(Bl wr2 96 gq [.bool ps,.slice Ap lp cp,.slice Bp mp dp])/\(Qe wr2 (30+92*t) (.agg #[.bool ps,.slice Ap lp cp,.slice Bp mp dp]) s)/\(Yg w wr2))) (fun _ z _=>n - (intOf z).toNat)
    case atStart=>exact ⟨-1,0,rfl,rfl,Nat.zero_le _,MinC.nil,H.p3,H.p4,H.p5,H.p6,H.p7,H.q8⟩
    case round=>
     obtain ⟨bb,i,rfl,rfl,hi,H2⟩:=hrel
     have hn14:=HN14.out
     have HB:=Lib.hid H2.q6
     by_cases hli:i<n
     · skip
       obtain ⟨s_,h0⟩:∃ x,st[i]?=some x:=⟨_,List.getElem?_eq_getElem (by rw [HN.p0];exact hli)⟩
       obtain ⟨bl,bh,f,g,dx,h1,h2,h3,h4,h5⟩:=el_ex (xs:=ds) (c:=i) (by rw [HN.p1];exact HFT.out) (by rw [HN.p1];exact hli)
       obtain ⟨rx,h6⟩:∃ x,rs[i]?=some x:=⟨_,List.getElem?_eq_getElem (by rw [HN.q2];exact hli)⟩
       obtain ⟨bd,hb0⟩:∃ x,bs[i]?=some x:=⟨_,List.getElem?_eq_getElem (by rw [HI.p1.1];exact hli)⟩
       have hs4:s_=1∨s_=2∨s_=3∨s_=4:=by have:=HIN.out i s_ h0;omega
       have HS4:=Lib.hid hs4
       clear hs4
       obtain ⟨mb,hmb⟩:∃ x,mayN l st rs up i=x:=⟨_,rfl⟩
       have HMQ:Hid (mayQ s_ (sgnQ rx.q) up (fixedQ bl bh f.q g.q)=mb):=(mayN_at h0 h1 h2 h3 h4 h6).symm.trans hmb
       have HCM:Hid ((!bs.getD i false && mayN l st rs up i)=(!bd && mb)):=by rw [hmb,List.getD_eq_getElem?_getD,hb0];rfl
       have HRT:Hid (ratN ds rs i=absQ dx.q / absQ rx.q):=by
        have e1:ds.getD i fx0=dx:=by rw [List.getD_eq_getElem?_getD,h5];rfl
        have e2:rs.getD i fx0=rx:=by rw [List.getD_eq_getElem?_getD,h6];rfl
        show ratN ds rs i=_
        rw [ratN,e1,e2]
       have z3:=HZ.p2.2.2 f (.inl (List.mem_of_getElem? h3))
       have z4:=HZ.p2.2.2 g (.inr (.inl (List.mem_of_getElem? h4)))
       have z5:=HZ.p0 dx (List.mem_of_getElem? h5)
       have z6:=HZ.p1 rx (List.mem_of_getElem? h6)
       have HEL:=Yh4 h1 h2 h3 h4
       have HZE:=Yh2 z3 z4
       obtain ⟨gu,ou,_,e,hgu,cu0⟩:=HS.p1.at_ h0
       rw [HN.p0] at e
       injection e with e1 e2 e3
       subst e1
       clear e2 e3
       obtain ⟨gy,oy,_,xy,e,hgy,hvy,y0,y1,y2⟩:=HS.p2.at_ h5
       rw [HN.p1] at e
       injection e with e1 e2 e3
       subst e1
       clear e2 e3
       obtain ⟨gz,oz,_,xz,e,hgz,hvz,v0,v1,v2⟩:=HS.p3.at_ h6
       rw [HN.q2] at e
       injection e with e1 e2 e3
       subst e1
       clear e2 e3
       have HVY:=Yh2 (Fv.qv (L:=6) hvy z5.1 z5.2) (Fv.qv (L:=6) hvz z6.1 z6.2)
       have HY:Hid (∀ W,Yg w W->W.cell? ⟨gu,ou+i,none⟩=some (.int .i64 s_)/\W.cell? ⟨gy,oy+i*3,none⟩=some (.bool xy.b)/\W.cell? ⟨gy,oy+i*3+1,none⟩=some (.slice xy.A xy.l xy.k)/\W.cell? ⟨gy,oy+i*3+2,none⟩=some (.slice xy.B xy.m xy.d)/\W.cell? ⟨gz,oz+i*3,none⟩=some (.bool xz.b)/\W.cell? ⟨gz,oz+i*3+1,none⟩=some (.slice xz.A xz.l xz.k)/\W.cell? ⟨gz,oz+i*3+2,none⟩=some (.slice xz.B xz.m xz.d)):=fun W b=>⟨(b.cell (p:=⟨gu,_,none⟩) hgu).trans cu0,(b.cell (p:=⟨gy,_,none⟩) hgy).trans y0,(b.cell (p:=⟨gy,_,none⟩) hgy).trans y1,(b.cell (p:=⟨gy,_,none⟩) hgy).trans y2,(b.cell (p:=⟨gz,_,none⟩) hgz).trans v0,(b.cell (p:=⟨gz,_,none⟩) hgz).trans v1,(b.cell (p:=⟨gz,_,none⟩) hgz).trans v2⟩
       have hbm:(bs.map Value.bool)[i]?=some (.bool bd):=by rw [List.getElem?_map,hb0];rfl
       have HBM:=Lib.hid hbm
       have hin:(i:Int)<(n:Int):=Yo
       clear h0 h1 h2 h3 h4 h5 h6 hb0 hmb z3 z4 z5 z6 hgu hgy hgz hvy hvz cu0 y0 y1 y2 v0 v1 v2 hbm
       go_upto_region 10 with (fail)
       cases bd with
       | true=>
        refine flow (fun W=>Yg wr W/\W.cell? ⟨w.heap.size,0,none⟩=some (.int .i64 l.n)/\W.cell? ⟨w.heap.size,1,none⟩=some (.slice aA an ac)/\W.cell? ⟨w.heap.size,2,none⟩=some (.slice bA bn bc)/\W.cell? ⟨w.heap.size,3,none⟩=some (.slice cA cn cc)/\W.cell? ⟨w.heap.size,4,none⟩=some (.slice dA dn dc)/\W.cell? ⟨w.heap.size,5,none⟩=some (.slice eA en ec)/\W.cell? ⟨w.heap.size,6,none⟩=some (.slice fA fn fc)/\W.cell? ⟨gdn,i,none⟩=some (.bool true)/\W.cell? ⟨gu,ou+i,none⟩=some (.int .i64 s_)/\W.cell? ⟨gy,oy+i*3,none⟩=some (.bool xy.b)/\W.cell? ⟨gy,oy+i*3+1,none⟩=some (.slice xy.A xy.l xy.k)/\W.cell? ⟨gy,oy+i*3+2,none⟩=some (.slice xy.B xy.m xy.d)/\W.cell? ⟨gz,oz+i*3,none⟩=some (.bool xz.b)/\W.cell? ⟨gz,oz+i*3+1,none⟩=some (.slice xz.A xz.l xz.k)/\W.cell? ⟨gz,oz+i*3+2,none⟩=some (.slice xz.B xz.m xz.d)) (fun _ _=>True) (fun _ _=>False) 0 [⟨[],[(0,42),(1,43),(2,44),(3,45),(4,46),(5,47),(6,48),(7,49),(8,50),(9,51),(10,52),(11,53),(12,54),(13,55),(14,56),(15,57)],[],[(16,58,fun v W=>v=undef)]⟩,⟨[(16,58)],[(0,42),(1,43),(2,44),(3,45),(4,46),(17,59),(18,60)],[],[]⟩] [] [] ⟨[(16,58)],[(0,42),(1,43),(2,44),(3,45),(4,46),(5,47),(6,48),(7,49),(8,50),(9,51),(10,52),(11,53),(12,54),(13,55),(14,56),(15,57),(17,59),(18,60)],[],[]⟩ ⟨below_nil,Bl.ld (H2.p3.keep below_nil) 0 rfl,Bl.ld (H2.p3.keep below_nil) 1 rfl,Bl.ld (H2.p3.keep below_nil) 2 rfl,Bl.ld (H2.p3.keep below_nil) 3 rfl,Bl.ld (H2.p3.keep below_nil) 4 rfl,Bl.ld (H2.p3.keep below_nil) 5 rfl,Bl.ld (H2.p3.keep below_nil) 6 rfl,Bl.ld (H2.p2.keep below_nil) i HBM.out,HY.out _ (Yb HB.out below_nil)⟩ (trivial) (fun _ _ h b=>⟨(Yb h.1 b),Bl.ld (H2.p3.keep (Yb h.1 b)) 0 rfl,Bl.ld (H2.p3.keep (Yb h.1 b)) 1 rfl,Bl.ld (H2.p3.keep (Yb h.1 b)) 2 rfl,Bl.ld (H2.p3.keep (Yb h.1 b)) 3 rfl,Bl.ld (H2.p3.keep (Yb h.1 b)) 4 rfl,Bl.ld (H2.p3.keep (Yb h.1 b)) 5 rfl,Bl.ld (H2.p3.keep (Yb h.1 b)) 6 rfl,Bl.ld (H2.p2.keep (Yb h.1 b)) i HBM.out,HY.out _ (Yb HB.out (Yb h.1 b))⟩) (fun _ _ _ h _=>h) ⟨fun _ _ _ h _=>h,fun _ _ _ _ h=>h.elim,trivial⟩ ⟨?_,?_,trivial⟩ trivial trivial ?_
        · rintro W hS
          refine gvN ?_;(repeat first|refine flA ?_|refine flB ?_);refine flN (flN ?_)
          refine flK (fun K hK=>?_) flL
          go_simp
          exact hK.out _ _ ⟨rfl,below_nil⟩
        · rintro W hS v16 rfl
          refine gvN ?_;(repeat first|refine flA ?_|refine flB ?_);refine flN (flN ?_)
          exact flL
        rintro W hS - v16 rfl
        have hS:=hS flY
        refine gvN ?_;(repeat first|refine flA ?_|refine flB ?_);refine flN (flN ?_)
        obtain ⟨W9,hWW⟩:∃ X,X=W:=⟨_,rfl⟩
        subst hWW
        have H9:=Yh7 H2.p0 (Rr.keep H2.p1 hS.1) (H2.p2.keep hS.1) (H2.p3.keep hS.1) (H2.p4.keep hS.1) (H2.p5.keep hS.1) ((Yb H2.q6 hS.1))
        clear hS H2 HB
        go_wp2_with fail
        case roundEnd=>exact ⟨⟨bb,i+1,rfl,by go_num,Yo,MinC.skip H9.p0 (by rw [HCM.out];rfl),H9.p1,H9.p2,H9.p3,H9.p4,H9.p5,H9.q6⟩,by simp [intOf];omega⟩
       | false=>
        refine flow (fun W=>Yg wr W/\W.cell? ⟨w.heap.size,0,none⟩=some (.int .i64 l.n)/\W.cell? ⟨w.heap.size,1,none⟩=some (.slice aA an ac)/\W.cell? ⟨w.heap.size,2,none⟩=some (.slice bA bn bc)/\W.cell? ⟨w.heap.size,3,none⟩=some (.slice cA cn cc)/\W.cell? ⟨w.heap.size,4,none⟩=some (.slice dA dn dc)/\W.cell? ⟨w.heap.size,5,none⟩=some (.slice eA en ec)/\W.cell? ⟨w.heap.size,6,none⟩=some (.slice fA fn fc)/\W.cell? ⟨gdn,i,none⟩=some (.bool false)/\W.cell? ⟨gu,ou+i,none⟩=some (.int .i64 s_)/\W.cell? ⟨gy,oy+i*3,none⟩=some (.bool xy.b)/\W.cell? ⟨gy,oy+i*3+1,none⟩=some (.slice xy.A xy.l xy.k)/\W.cell? ⟨gy,oy+i*3+2,none⟩=some (.slice xy.B xy.m xy.d)/\W.cell? ⟨gz,oz+i*3,none⟩=some (.bool xz.b)/\W.cell? ⟨gz,oz+i*3+1,none⟩=some (.slice xz.A xz.l xz.k)/\W.cell? ⟨gz,oz+i*3+2,none⟩=some (.slice xz.B xz.m xz.d)) (fun _ _=>True) (fun _ _=>False) 0 [⟨[],[(0,42),(1,43),(2,44),(3,45),(4,46),(5,47),(6,48),(7,49),(8,50),(9,51),(10,52),(11,53),(12,54),(13,55),(14,56),(15,57)],[],[(16,58,fun v W=>v=.bool mb)]⟩,⟨[(16,58)],[(0,42),(1,43),(2,44),(3,45),(4,46),(17,59),(18,60)],[],[]⟩] [] [] ⟨[(16,58)],[(0,42),(1,43),(2,44),(3,45),(4,46),(5,47),(6,48),(7,49),(8,50),(9,51),(10,52),(11,53),(12,54),(13,55),(14,56),(15,57),(17,59),(18,60)],[],[]⟩ ⟨below_nil,Bl.ld (H2.p3.keep below_nil) 0 rfl,Bl.ld (H2.p3.keep below_nil) 1 rfl,Bl.ld (H2.p3.keep below_nil) 2 rfl,Bl.ld (H2.p3.keep below_nil) 3 rfl,Bl.ld (H2.p3.keep below_nil) 4 rfl,Bl.ld (H2.p3.keep below_nil) 5 rfl,Bl.ld (H2.p3.keep below_nil) 6 rfl,Bl.ld (H2.p2.keep below_nil) i HBM.out,HY.out _ (Yb HB.out below_nil)⟩ (trivial) (fun _ _ h b=>⟨(Yb h.1 b),Bl.ld (H2.p3.keep (Yb h.1 b)) 0 rfl,Bl.ld (H2.p3.keep (Yb h.1 b)) 1 rfl,Bl.ld (H2.p3.keep (Yb h.1 b)) 2 rfl,Bl.ld (H2.p3.keep (Yb h.1 b)) 3 rfl,Bl.ld (H2.p3.keep (Yb h.1 b)) 4 rfl,Bl.ld (H2.p3.keep (Yb h.1 b)) 5 rfl,Bl.ld (H2.p3.keep (Yb h.1 b)) 6 rfl,Bl.ld (H2.p2.keep (Yb h.1 b)) i HBM.out,HY.out _ (Yb HB.out (Yb h.1 b))⟩) (fun _ _ _ h _=>h) ⟨fun _ _ _ h _=>h,fun _ _ _ _ h=>h.elim,trivial⟩ ⟨?_,?_,trivial⟩ trivial trivial ?_
        · rintro W hS
          refine gvN ?_;(repeat first|refine flA ?_|refine flB ?_);refine flN (flN ?_)
          refine flK (fun K hK=>?_) flL
          go_simp
          go_at_call 100;refine (may_d (HS.p0.keep (Yb HB.out hS.1)) HEL.p0 HEL.p1 HEL.p2 HEL.q3 (HVY.q1.keep (Yb HB.out hS.1)) HS4.out HZE.p0.1 HZE.p0.2 HZE.p1 HZE.q2).mono ?_;rintro e W2 ⟨rfl,hb⟩
          rw [HMQ.out]
          go_wp2_with fail
          exact hK.out _ _ ⟨rfl,hb⟩
        · rintro W hS v16 rfl
          refine gvN ?_;(repeat first|refine flA ?_|refine flB ?_);refine flN (flN ?_)
          exact flL
        rintro W hS - v16 rfl
        have hS:=hS flY
        refine gvN ?_;(repeat first|refine flA ?_|refine flB ?_);refine flN (flN ?_)
        obtain ⟨W9,hWW⟩:∃ X,X=W:=⟨_,rfl⟩
        subst hWW
        have H9:=Yh7 H2.p0 (Rr.keep H2.p1 hS.1) (H2.p2.keep hS.1) (H2.p3.keep hS.1) (H2.p4.keep hS.1) (H2.p5.keep hS.1) ((Yb H2.q6 hS.1))
        clear hS H2 HB
        cases mb with
        | false=>
         go_wp2_with fail
         case roundEnd=>exact ⟨⟨bb,i+1,rfl,by go_num,Yo,MinC.skip H9.p0 (by rw [HCM.out];rfl),H9.p1,H9.p2,H9.p3,H9.p4,H9.p5,H9.q6⟩,by simp [intOf];omega⟩
        | true=>
         have HNZ:=Lib.hid (absQ_pos (mayQ_nz HMQ.out))
         have hmc:=H9.p0
         rcases hmc with ⟨rfl,hno⟩ | ⟨j,rfl,hjn,hmj,hmin⟩
         · skip
           clear hno
           go_wp2_with fail
           case roundEnd=>exact ⟨⟨(i:Int),i+1,rfl,by go_num,Yo,MinC.first H9.p0 (by rw [HCM.out];rfl),H9.p1,H9.p2,H9.p3,H9.p4,H9.p5,H9.q6⟩,by simp [intOf];omega⟩
         have hmj2:mayN l st rs up j=true:=by have h7:=hmj;simp only [Bool.and_eq_true] at h7;exact h7.2
         clear hmj hmin
         obtain ⟨dj,e5⟩:∃ x,ds[j]?=some x:=⟨_,List.getElem?_eq_getElem (by rw [HN.p1];omega)⟩
         obtain ⟨rj,e6⟩:∃ x,rs[j]?=some x:=⟨_,List.getElem?_eq_getElem (by rw [HN.q2];omega)⟩
         have t5:ds.getD j fx0=dj:=by rw [List.getD_eq_getElem?_getD,e5];rfl
         have t6:rs.getD j fx0=rj:=by rw [List.getD_eq_getElem?_getD,e6];rfl
         have HRJ:Hid (ratN ds rs j=absQ dj.q / absQ rj.q):=by
          show ratN ds rs j=_
          rw [ratN,t5,t6]
         have HNJ:Hid (0<absQ rj.q):=by
          rw [<- t6]
          exact absQ_pos (mayQ_nz hmj2)
         have z7:=HZ.p0 dj (List.mem_of_getElem? e5)
         have z8:=HZ.p1 rj (List.mem_of_getElem? e6)
         obtain ⟨ga,oa,_,xa,e,hga,hva,p0,p1,p2⟩:=HS.p2.at_ e5
         rw [HN.p1] at e
         injection e with e1 e2 e3
         injection e1 with e1
         injection e1 with e1 e4 _
         subst e1
         subst e4
         clear e2 e3
         obtain ⟨gc,oc,_,xc,e,hgc,hvc,q0,q1,q2⟩:=HS.p3.at_ e6
         rw [HN.q2] at e
         injection e with e1 e2 e3
         injection e1 with e1
         injection e1 with e1 e4 _
         subst e1
         subst e4
         clear e2 e3
         have HVJ:=Yh2 (Fv.qv (L:=6) hva z7.1 z7.2) (Fv.qv (L:=6) hvc z8.1 z8.2)
         have HYJ:Hid (∀ W,Yg w W->W.cell? ⟨gy,oy+j*3,none⟩=some (.bool xa.b)/\W.cell? ⟨gy,oy+j*3+1,none⟩=some (.slice xa.A xa.l xa.k)/\W.cell? ⟨gy,oy+j*3+2,none⟩=some (.slice xa.B xa.m xa.d)/\W.cell? ⟨gz,oz+j*3,none⟩=some (.bool xc.b)/\W.cell? ⟨gz,oz+j*3+1,none⟩=some (.slice xc.A xc.l xc.k)/\W.cell? ⟨gz,oz+j*3+2,none⟩=some (.slice xc.B xc.m xc.d)):=fun W b=>⟨(b.cell (p:=⟨gy,_,none⟩) hga).trans p0,(b.cell (p:=⟨gy,_,none⟩) hga).trans p1,(b.cell (p:=⟨gy,_,none⟩) hga).trans p2,(b.cell (p:=⟨gz,_,none⟩) hgc).trans q0,(b.cell (p:=⟨gz,_,none⟩) hgc).trans q1,(b.cell (p:=⟨gz,_,none⟩) hgc).trans q2⟩
         have hj0:¬(j:Int)<0:=Yo
         have hjn2:(j:Int)<(n:Int):=Yo
         clear e5 e6 t5 t6 hmj2 z7 z8 hga hgc hva hvc p0 p1 p2 q0 q1 q2
         go_upto_region 13 with (fail)
         refine flow (fun W=>Yg W9 W/\(W.cell? ⟨gu,ou+i,none⟩=some (.int .i64 s_)/\W.cell? ⟨gy,oy+i*3,none⟩=some (.bool xy.b)/\W.cell? ⟨gy,oy+i*3+1,none⟩=some (.slice xy.A xy.l xy.k)/\W.cell? ⟨gy,oy+i*3+2,none⟩=some (.slice xy.B xy.m xy.d)/\W.cell? ⟨gz,oz+i*3,none⟩=some (.bool xz.b)/\W.cell? ⟨gz,oz+i*3+1,none⟩=some (.slice xz.A xz.l xz.k)/\W.cell? ⟨gz,oz+i*3+2,none⟩=some (.slice xz.B xz.m xz.d))/\W.cell? ⟨gy,oy+j*3,none⟩=some (.bool xa.b)/\W.cell? ⟨gy,oy+j*3+1,none⟩=some (.slice xa.A xa.l xa.k)/\W.cell? ⟨gy,oy+j*3+2,none⟩=some (.slice xa.B xa.m xa.d)/\W.cell? ⟨gz,oz+j*3,none⟩=some (.bool xc.b)/\W.cell? ⟨gz,oz+j*3+1,none⟩=some (.slice xc.A xc.l xc.k)/\W.cell? ⟨gz,oz+j*3+2,none⟩=some (.slice xc.B xc.m xc.d)) (fun _ _=>True) (fun _ _=>False) 0 [⟨[],[(0,64),(1,65),(2,66),(3,67),(5,69),(6,70),(7,71),(8,72),(11,75),(12,76),(13,77),(14,78),(16,80),(17,81),(18,82),(19,83)],[],[(4,68,fun v W=>∃ p4 A4 l4 c4 B4 k4 d4,v=.agg #[.bool p4,.slice A4 l4 c4,.slice B4 k4 d4]/\Qe W 30 (.agg #[.bool p4,.slice A4 l4 c4,.slice B4 k4 d4]) (absQ dx.q)),(9,73,fun v W=>∃ p9 A9 l9 c9 B9 k9 d9,v=.agg #[.bool p9,.slice A9 l9 c9,.slice B9 k9 d9]/\Qe W 30 (.agg #[.bool p9,.slice A9 l9 c9,.slice B9 k9 d9]) (absQ rj.q)),(15,79,fun v W=>∃ p15 A15 l15 c15 B15 k15 d15,v=.agg #[.bool p15,.slice A15 l15 c15,.slice B15 k15 d15]/\Qe W 30 (.agg #[.bool p15,.slice A15 l15 c15,.slice B15 k15 d15]) (absQ dj.q)),(20,84,fun v W=>∃ p20 A20 l20 c20 B20 k20 d20,v=.agg #[.bool p20,.slice A20 l20 c20,.slice B20 k20 d20]/\Qe W 30 (.agg #[.bool p20,.slice A20 l20 c20,.slice B20 k20 d20]) (absQ rx.q))]⟩,⟨[(22,86)],[(23,87)],[],[]⟩,⟨[(4,68),(9,73)],[],[],[(10,74,fun v W=>∃ p10 A10 l10 c10 B10 k10 d10,v=.agg #[.bool p10,.slice A10 l10 c10,.slice B10 k10 d10]/\Qe W 60 (.agg #[.bool p10,.slice A10 l10 c10,.slice B10 k10 d10]) (absQ dx.q*absQ rj.q))]⟩,⟨[(10,74),(21,85)],[],[],[(22,86,fun v W=>v=.int .i64 (cmpQ (absQ dx.q*absQ rj.q) (absQ dj.q*absQ rx.q)))]⟩,⟨[(15,79),(20,84)],[],[],[(21,85,fun v W=>∃ p21 A21 l21 c21 B21 k21 d21,v=.agg #[.bool p21,.slice A21 l21 c21,.slice B21 k21 d21]/\Qe W 60 (.agg #[.bool p21,.slice A21 l21 c21,.slice B21 k21 d21]) (absQ dj.q*absQ rx.q))]⟩] [] [] ⟨[(4,68),(9,73),(10,74),(15,79),(20,84),(21,85),(22,86)],[(0,64),(1,65),(2,66),(3,67),(5,69),(6,70),(7,71),(8,72),(11,75),(12,76),(13,77),(14,78),(16,80),(17,81),(18,82),(19,83),(23,87)],[],[]⟩ ⟨below_nil,HY.out _ (Yb H9.q6 below_nil),HYJ.out _ (Yb H9.q6 below_nil)⟩ (trivial) (fun _ _ h b=>⟨(Yb h.1 b),HY.out _ (Yb H9.q6 (Yb h.1 b)),HYJ.out _ (Yb H9.q6 (Yb h.1 b))⟩) (fun _ _ _ h _=>h) ⟨fun _ _ _ ⟨p,A,l,c,B,k,d,e,h⟩ b=>⟨p,A,l,c,B,k,d,e,h.keep b⟩,fun _ _ _ _ h=>h.elim,⟨fun _ _ _ ⟨p,A,l,c,B,k,d,e,h⟩ b=>⟨p,A,l,c,B,k,d,e,h.keep b⟩,fun _ _ _ _ h=>h.elim,⟨fun _ _ _ ⟨p,A,l,c,B,k,d,e,h⟩ b=>⟨p,A,l,c,B,k,d,e,h.keep b⟩,fun _ _ _ _ h=>h.elim,⟨fun _ _ _ ⟨p,A,l,c,B,k,d,e,h⟩ b=>⟨p,A,l,c,B,k,d,e,h.keep b⟩,fun _ _ _ _ h=>h.elim,⟨fun _ _ _ ⟨p,A,l,c,B,k,d,e,h⟩ b=>⟨p,A,l,c,B,k,d,e,h.keep b⟩,fun _ _ _ _ h=>h.elim,⟨fun _ _ _ h _=>h,fun _ _ _ _ h=>h.elim,⟨fun _ _ _ ⟨p,A,l,c,B,k,d,e,h⟩ b=>⟨p,A,l,c,B,k,d,e,h.keep b⟩,fun _ _ _ _ h=>h.elim,trivial⟩⟩⟩⟩⟩⟩⟩ ⟨?_,?_,?_,?_,?_,trivial⟩ trivial trivial ?_
         · rintro W hS
           refine gvN ?_;(repeat refine flA ?_);refine flN (flN ?_)
           refine flK (fun K hK=>?_) (flK (fun K hK=>?_) (flK (fun K hK=>?_) (flK (fun K hK=>?_) flL)))
           · go_simp
             go_at_call 101;refine (abs_d (HVY.p0.keep (Yb H9.q6 hS.1))).mono ?_;rintro e W2 ⟨v,rfl,h,hb⟩
             obtain ⟨p,A,l_,c,B,k_,d,rfl⟩:=h.parts
             go_wp2_with fail
             exact hK.out _ _ ⟨⟨_,_,_,_,_,_,_,rfl,h⟩,hb⟩
           · go_simp
             go_at_call 101;refine (abs_d (HVJ.q1.keep (Yb H9.q6 hS.1))).mono ?_;rintro e W2 ⟨v,rfl,h,hb⟩
             obtain ⟨p,A,l_,c,B,k_,d,rfl⟩:=h.parts
             go_wp2_with fail
             exact hK.out _ _ ⟨⟨_,_,_,_,_,_,_,rfl,h⟩,hb⟩
           · go_simp
             go_at_call 101;refine (abs_d (HVJ.p0.keep (Yb H9.q6 hS.1))).mono ?_;rintro e W2 ⟨v,rfl,h,hb⟩
             obtain ⟨p,A,l_,c,B,k_,d,rfl⟩:=h.parts
             go_wp2_with fail
             exact hK.out _ _ ⟨⟨_,_,_,_,_,_,_,rfl,h⟩,hb⟩
           · go_simp
             go_at_call 101;refine (abs_d (HVY.q1.keep (Yb H9.q6 hS.1))).mono ?_;rintro e W2 ⟨v,rfl,h,hb⟩
             obtain ⟨p,A,l_,c,B,k_,d,rfl⟩:=h.parts
             go_wp2_with fail
             exact hK.out _ _ ⟨⟨_,_,_,_,_,_,_,rfl,h⟩,hb⟩
         · rintro W hS v22 rfl
           refine gvN ?_;(repeat refine flA ?_);refine flN (flN ?_)
           exact flL
         · rintro W hS v4 ⟨p4,A4,l4,c4,B4,k4,d4,rfl,h4⟩ v9 ⟨p9,A9,l9,c9,B9,k9,d9,rfl,h9⟩
           refine gvN ?_;refine flN (flN ?_)
           refine flK (fun K hK=>?_) flL
           go_simp
           go_at_call 69;refine (mul_e h4 h9 Yd Yd Yd Yd).mono ?_;rintro e W2 ⟨v,rfl,h,hb⟩
           obtain ⟨p,A,l_,c,B,k_,d,rfl⟩:=h.parts
           go_wp2_with fail
           exact hK.out _ _ ⟨⟨_,_,_,_,_,_,_,rfl,h⟩,hb⟩
         · rintro W hS v10 ⟨p10,A10,l10,c10,B10,k10,d10,rfl,h10⟩ v21 ⟨p21,A21,l21,c21,B21,k21,d21,rfl,h21⟩
           refine gvN ?_;refine flN (flN ?_)
           refine flK (fun K hK=>?_) flL
           go_simp
           go_at_call 40;refine (cmp_e h10 h21 Yd Yd Yd Yd).mono ?_;rintro e W2 ⟨rfl,hb⟩
           go_wp2_with fail
           exact hK.out _ _ ⟨rfl,hb⟩
         · rintro W hS v15 ⟨p15,A15,l15,c15,B15,k15,d15,rfl,h15⟩ v20 ⟨p20,A20,l20,c20,B20,k20,d20,rfl,h20⟩
           refine gvN ?_;refine flN (flN ?_)
           refine flK (fun K hK=>?_) flL
           go_simp
           go_at_call 69;refine (mul_e h15 h20 Yd Yd Yd Yd).mono ?_;rintro e W2 ⟨v,rfl,h,hb⟩
           obtain ⟨p,A,l_,c,B,k_,d,rfl⟩:=h.parts
           go_wp2_with fail
           exact hK.out _ _ ⟨⟨_,_,_,_,_,_,_,rfl,h⟩,hb⟩
         rintro W hS - v4 ⟨p4,A4,l4,c4,B4,k4,d4,rfl,h4⟩ v9 ⟨p9,A9,l9,c9,B9,k9,d9,rfl,h9⟩ v10 ⟨p10,A10,l10,c10,B10,k10,d10,rfl,h10⟩ v15 ⟨p15,A15,l15,c15,B15,k15,d15,rfl,h15⟩ v20 ⟨p20,A20,l20,c20,B20,k20,d20,rfl,h20⟩ v21 ⟨p21,A21,l21,c21,B21,k21,d21,rfl,h21⟩ v22 rfl
         have hS:=hS flY
         refine gvN ?_;(repeat refine flA ?_);refine flN (flN ?_)
         obtain ⟨W10,hWW⟩:∃ X,X=W:=⟨_,rfl⟩
         subst hWW
         have HA:=Yh7 H9.p0 (Rr.keep H9.p1 hS.1) (H9.p2.keep hS.1) (H9.p3.keep hS.1) (H9.p4.keep hS.1) (H9.p5.keep hS.1) ((Yb H9.q6 hS.1))
         clear hS H9
         by_cases hc:cmpQ (absQ dx.q*absQ rj.q) (absQ dj.q*absQ rx.q)<0
         · skip
           have HLT:Hid (ratN ds rs i<ratN ds rs j):=by
            rw [HRT.out,HRJ.out]
            exact (cross_lt HNZ.out HNJ.out).1 hc
           go_wp2_with fail
           case roundEnd=>exact ⟨⟨(i:Int),i+1,rfl,by go_num,Yo,MinC.less HA.p0 (by rw [HCM.out];rfl) HLT.out,HA.p1,HA.p2,HA.p3,HA.p4,HA.p5,HA.q6⟩,by simp [intOf];omega⟩
         have HLT:Hid (¬ ratN ds rs i<ratN ds rs j):=by
          rw [HRT.out,HRJ.out]
          exact fun h=>hc ((cross_lt HNZ.out HNJ.out).2 h)
         go_wp2_with fail
         case roundEnd=>exact ⟨⟨(j:Int),i+1,rfl,by go_num,Yo,MinC.more HA.p0 HLT.out,HA.p1,HA.p2,HA.p3,HA.p4,HA.p5,HA.q6⟩,by simp [intOf];omega⟩
     obtain rfl:n=i:=by omega
     have hmh:=MinC.head HLL.p0 HLL.q1 HI.p1.2 H2.p0
     rcases hmh with ⟨rfl,hdrop⟩ | ⟨j,rfl,hjn,hmj,hLt⟩
     · skip
       have HDR:=Lib.hid hdrop
       have hal:=Ya wr (.cells #[] 3)
       have hii:=(rr_empty (B:=0) (Bl.new wr 3 []) (Nat.zero_le _)).rv
       have HII:=Yh2 hii (Yb HB.out hal)
       clear hii hal hdrop
       go_wp2_with fail
       go_ret3
       exact entD 0 [] false _ rfl HII.p0 HII.q1 (HI.p0.symm.trans (by rw [HDR.out];rfl))
     have HGO:=Lib.hid (HI.p0.symm.trans (go_next (f:=flip) (h:=hasN l) (st:=fun c=>absN rs c*wideN l c) (L:=L) (k:=t) (c:=((j:Int),ratN ds rs j)) (s:=s) (fl:=fl) hLt))
     have HGC:Hid (GoneC L n (t+1) (fun k=>(bs.set j true).getD k false)):=GoneC.step (j:=j) HI.p1.2 hLt rfl (by simp [List.getD_eq_getElem?_getD,List.getElem?_set,HI.p1.1,hjn]) (fun k hk=>by simp [List.getD_eq_getElem?_getD,List.getElem?_set,Ne.symm hk])
     obtain ⟨bl,bh,f,g,dx,h1,h2,h3,h4,-⟩:=el_ex (xs:=ds) (c:=j) (by rw [HN.p1];exact HFT.out) (by rw [HN.p1];exact hjn)
     obtain ⟨rx,h6⟩:∃ x,rs[j]?=some x:=⟨_,List.getElem?_eq_getElem (by rw [HN.q2];exact hjn)⟩
     have HHS:Hid (hasN l (j:Int)=(bl && bh)):=by
      show hasN l (j:Int)=_
      simp only [hasN,Int.toNat_natCast,List.getD_eq_getElem?_getD,h1,h2,Option.getD_some]
     have HWN:Hid (absN rs (j:Int)*wideN l (j:Int)=absQ rx.q*(g.q - f.q)):=by
      show absN rs (j:Int)*wideN l (j:Int)=_
      simp only [absN,wideN,Int.toNat_natCast,List.getD_eq_getElem?_getD,h3,h4,h6,Option.getD_some]
     have z3:=HZ.p2.2.2 f (.inl (List.mem_of_getElem? h3))
     have z4:=HZ.p2.2.2 g (.inr (.inl (List.mem_of_getElem? h4)))
     have z6:=HZ.p1 rx (List.mem_of_getElem? h6)
     obtain ⟨gb,ob,_,e,hgb,zb0⟩:=HAN.p2.at_ h1
     rw [HLB.p0] at e
     injection e with e1 e2 e3
     subst e1
     clear e2 e3
     obtain ⟨gc,oc,_,e,hgc,zc0⟩:=HAN.q3.at_ h2
     rw [HLB.q1] at e
     injection e with e1 e2 e3
     subst e1
     clear e2 e3
     obtain ⟨gd,od,_,xd,e,hgd,hvd,zd0,zd1,zd2⟩:=HE4.p0.at_ h3
     rw [HLD.p0] at e
     injection e with e1 e2 e3
     subst e1
     clear e2 e3
     obtain ⟨ge,oe,_,xe,e,hge,hve,ze0,ze1,ze2⟩:=HE4.q1.at_ h4
     rw [HLD.q1] at e
     injection e with e1 e2 e3
     subst e1
     clear e2 e3
     obtain ⟨gz,oz,_,xz,e,hgz,hvz,v0,v1,v2⟩:=HS.p3.at_ h6
     rw [HN.q2] at e
     injection e with e1 e2 e3
     subst e1
     clear e2 e3
     have HV:=Yh3 (Fv.qv (L:=6) hvd z3.1 z3.2) (Fv.qv (L:=6) hve z4.1 z4.2) (Fv.qv (L:=6) hvz z6.1 z6.2)
     have HY:Hid (∀ W,Yg w W->(W.cell? ⟨gb,ob+j,none⟩=some (.bool bl)/\W.cell? ⟨gc,oc+j,none⟩=some (.bool bh))/\W.cell? ⟨gd,od+j*3,none⟩=some (.bool xd.b)/\W.cell? ⟨gd,od+j*3+1,none⟩=some (.slice xd.A xd.l xd.k)/\W.cell? ⟨gd,od+j*3+2,none⟩=some (.slice xd.B xd.m xd.d)/\W.cell? ⟨ge,oe+j*3,none⟩=some (.bool xe.b)/\W.cell? ⟨ge,oe+j*3+1,none⟩=some (.slice xe.A xe.l xe.k)/\W.cell? ⟨ge,oe+j*3+2,none⟩=some (.slice xe.B xe.m xe.d)/\W.cell? ⟨gz,oz+j*3,none⟩=some (.bool xz.b)/\W.cell? ⟨gz,oz+j*3+1,none⟩=some (.slice xz.A xz.l xz.k)/\W.cell? ⟨gz,oz+j*3+2,none⟩=some (.slice xz.B xz.m xz.d)):=fun W b=>⟨⟨(b.cell (p:=⟨gb,_,none⟩) hgb).trans zb0,(b.cell (p:=⟨gc,_,none⟩) hgc).trans zc0⟩,(b.cell (p:=⟨gd,_,none⟩) hgd).trans zd0,(b.cell (p:=⟨gd,_,none⟩) hgd).trans zd1,(b.cell (p:=⟨gd,_,none⟩) hgd).trans zd2,(b.cell (p:=⟨ge,_,none⟩) hge).trans ze0,(b.cell (p:=⟨ge,_,none⟩) hge).trans ze1,(b.cell (p:=⟨ge,_,none⟩) hge).trans ze2,(b.cell (p:=⟨gz,_,none⟩) hgz).trans v0,(b.cell (p:=⟨gz,_,none⟩) hgz).trans v1,(b.cell (p:=⟨gz,_,none⟩) hgz).trans v2⟩
     have hjN:(j:Int)<(n:Int):=Yo
     have hj0:¬(j:Int)<0:=Yo
     have ixb:(j:Int)<(bn:Int):=by have:=HFT.p3;have:=HLB.p0;omega
     have ixc:(j:Int)<(cn:Int):=by have:=HFT.q4;have:=HLB.q1;omega
     have ixd:(j:Int)<(dn:Int):=by have:=HFT.p1;have:=HLD.p0;omega
     have ixe:(j:Int)<(en:Int):=by have:=HFT.p2;have:=HLD.q1;omega
     clear h1 h2 h3 h4 h6 z3 z4 z6 hvd hve hvz zb0 zc0 zd0 zd1 zd2 ze0 ze1 ze2 v0 v1 v2 hgb hgc hgd hge hgz hLt hmj
     have f0:=Bl.fr H2.p2 j
     obtain ⟨bx0,hbx⟩:∃ x,(bs.map Value.bool)[j]?=some x:=⟨_,List.getElem?_eq_getElem (by rw [List.length_map,HI.p1.1];exact hjn)⟩
     have r0:=Bl.ld H2.p2 j hbx
     go_upto_region 18 with (fail)
     clear f0 r0 hbx
     have X4:=H2.p2
     have hbl:Yg w (wr.setCell ⟨gdn,j,none⟩ (.bool true)):=HB.out.setCell (show w.heap.size<=gdn by have:=HG.out;omega) _
     have H3:=Yh6 (Rr.keepT H2.p1 (X4.keepT1 Yd j (.bool true))) (by have h7:=X4.set j (.bool true);rwa [<- List.map_set] at h7:Bl (wr.setCell ⟨gdn,j,none⟩ (.bool true)) 4 gdn ((bs.set j true).map Value.bool)) (Bl.other H2.p3 (p:=⟨gdn,j,none⟩) (show gdn≠w.heap.size by have:=HG.out;omega) (.bool true)) (Bl.other H2.p4 (p:=⟨gdn,j,none⟩) (show gdn≠gq by have:=HG.out;omega) (.bool true)) (Qe.put1 H2.p5 X4 j (.bool true)) hbl
     clear H2 HB X4 hbl
     generalize wr.setCell _ _=V3 at H3 ⊢
     obtain ⟨⟨zb0,zc0⟩,-⟩:=HY.out _ H3.q5
     have l0:=Bl.ld H3.p2 0 rfl
     have l1:=Bl.ld H3.p2 1 rfl
     have l2:=Bl.ld H3.p2 2 rfl
     have l3:=Bl.ld H3.p2 3 rfl
     have l4:=Bl.ld H3.p2 4 rfl
     have l5:=Bl.ld H3.p2 5 rfl
     have l6:=Bl.ld H3.p2 6 rfl
     cases flip with
     | false=>
      go_wp2_with fail
      go_ret3
      exact entD (j:Int) fl true _ rfl (Rr.rv H3.p0) H3.q5 (HGO.out.trans (by rw [HHS.out];simp))
     | true=>
      cases bl with
      | false=>
       go_wp2_with fail
       go_ret3
       exact entD (j:Int) fl true _ rfl (Rr.rv H3.p0) H3.q5 (HGO.out.trans (by rw [HHS.out];simp))
      | true=>
       cases bh with
       | false=>
        go_wp2_with fail
        go_ret3
        exact entD (j:Int) fl true _ rfl (Rr.rv H3.p0) H3.q5 (HGO.out.trans (by rw [HHS.out];simp))
       | true=>
        go_upto_region 20 with (fail)
        clear zb0 zc0 l0 l1 l2 l3 l4 l5 l6
        refine flow (fun W=>Yg V3 W/\W.cell? ⟨w.heap.size,4,none⟩=some (.slice (some ⟨gd,od,none⟩) dn dc)/\W.cell? ⟨w.heap.size,5,none⟩=some (.slice (some ⟨ge,oe,none⟩) en ec)/\W.cell? ⟨gd,od+j*3,none⟩=some (.bool xd.b)/\W.cell? ⟨gd,od+j*3+1,none⟩=some (.slice xd.A xd.l xd.k)/\W.cell? ⟨gd,od+j*3+2,none⟩=some (.slice xd.B xd.m xd.d)/\W.cell? ⟨ge,oe+j*3,none⟩=some (.bool xe.b)/\W.cell? ⟨ge,oe+j*3+1,none⟩=some (.slice xe.A xe.l xe.k)/\W.cell? ⟨ge,oe+j*3+2,none⟩=some (.slice xe.B xe.m xe.d)) (fun vs W=>match vs with|[]=>True|[a]=>∃ gg,a=.pointer (some ⟨gg,0,none⟩)/\V3.heap.size<=gg/\Bl W 96 gg [.bool false,.slice none 0 0,.slice none 0 0]|[a,_]=>∃ gg p A l_ c B k_ d,a=.pointer (some ⟨gg,0,none⟩)/\V3.heap.size<=gg/\Bl W 96 gg [.bool p,.slice A l_ c,.slice B k_ d]/\Qe W 61 (.agg #[.bool p,.slice A l_ c,.slice B k_ d]) (g.q-f.q)/\Yg V3 W|_=>True) (fun w w'=>Yg w w') 1 [⟨[],[(0,115),(1,116),(2,117),(3,118),(4,119),(6,121),(7,122),(8,123),(9,124),(10,125)],[],[(5,120,fun v W=>∃ p5 A5 l5 c5 B5 k5 d5,v=.agg #[.bool p5,.slice A5 l5 c5,.slice B5 k5 d5]/\Qe W 30 (.agg #[.bool p5,.slice A5 l5 c5,.slice B5 k5 d5]) g.q),(11,126,fun v W=>∃ p11 A11 l11 c11 B11 k11 d11,v=.agg #[.bool p11,.slice A11 l11 c11,.slice B11 k11 d11]/\Qe W 30 (.agg #[.bool p11,.slice A11 l11 c11,.slice B11 k11 d11]) f.q)]⟩,⟨[(5,120),(11,126)],[],[],[(12,127,fun v W=>∃ p12 A12 l12 c12 B12 k12 d12,v=.agg #[.bool p12,.slice A12 l12 c12,.slice B12 k12 d12]/\Qe W 61 (.agg #[.bool p12,.slice A12 l12 c12,.slice B12 k12 d12]) (g.q-f.q))]⟩] [] [⟨13,some 23,[],[],[]⟩,⟨14,none,[(12,127)],[],[]⟩] ⟨[(5,120),(11,126),(12,127)],[(0,115),(1,116),(2,117),(3,118),(4,119),(6,121),(7,122),(8,123),(9,124),(10,125)],[],[]⟩ ⟨below_nil,Bl.ld (H3.p2.keep below_nil) 4 rfl,Bl.ld (H3.p2.keep below_nil) 5 rfl,(HY.out _ (Yb H3.q5 below_nil)).2.1,(HY.out _ (Yb H3.q5 below_nil)).2.2.1,(HY.out _ (Yb H3.q5 below_nil)).2.2.2.1,(HY.out _ (Yb H3.q5 below_nil)).2.2.2.2.1,(HY.out _ (Yb H3.q5 below_nil)).2.2.2.2.2.1,(HY.out _ (Yb H3.q5 below_nil)).2.2.2.2.2.2.1⟩ (trivial) (fun _ _ h b=>⟨(Yb h.1 b),Bl.ld (H3.p2.keep (Yb h.1 b)) 4 rfl,Bl.ld (H3.p2.keep (Yb h.1 b)) 5 rfl,(HY.out _ (Yb H3.q5 (Yb h.1 b))).2.1,(HY.out _ (Yb H3.q5 (Yb h.1 b))).2.2.1,(HY.out _ (Yb H3.q5 (Yb h.1 b))).2.2.2.1,(HY.out _ (Yb H3.q5 (Yb h.1 b))).2.2.2.2.1,(HY.out _ (Yb H3.q5 (Yb h.1 b))).2.2.2.2.2.1,(HY.out _ (Yb H3.q5 (Yb h.1 b))).2.2.2.2.2.2.1⟩) (fun vs _ _ h b=>match vs,h with|[],_=>trivial|[_],⟨g,e,h1,h2⟩=>⟨g,e,h1,h2.keep b⟩|[_,_],⟨g,p,A,l,c,B,k,d,e,h1,h2,h3,h4⟩=>⟨g,p,A,l,c,B,k,d,e,h1,h2.keep b,h3.keep b,Yb h4 b⟩|_::_::_::_,_=>trivial) ⟨fun _ _ _ ⟨p,A,l,c,B,k,d,e,h⟩ b=>⟨p,A,l,c,B,k,d,e,h.keep b⟩,fun _ _ _ ⟨p,A,l,c,B,k,d,e,h⟩ b=>⟨p,A,l,c,B,k,d,e,h.keep b⟩,⟨fun _ _ _ ⟨p,A,l,c,B,k,d,e,h⟩ b=>⟨p,A,l,c,B,k,d,e,h.keep b⟩,fun _ _ _ ⟨p,A,l,c,B,k,d,e,h⟩ b=>⟨p,A,l,c,B,k,d,e,h.keep b⟩,⟨fun _ _ _ ⟨p,A,l,c,B,k,d,e,h⟩ b=>⟨p,A,l,c,B,k,d,e,h.keep b⟩,fun _ _ _ ⟨p,A,l,c,B,k,d,e,h⟩ b=>⟨p,A,l,c,B,k,d,e,h.keep b⟩,trivial⟩⟩⟩ ⟨?_,?_,trivial⟩ trivial ⟨?_,?_,trivial⟩ ?_
        · rintro W hS
          refine gvN ?_;(repeat refine flA ?_);refine flN (flN ?_)
          refine flK (fun K hK=>?_) (flK (fun K hK=>?_) flL)
          · go_simp
            go_at_call 41;refine (of_e (HV.p1.keep (Yb H3.q5 hS.1)) Yd Yd).mono ?_;rintro e W2 ⟨v,rfl,h,hb⟩
            obtain ⟨p,A,l_,c,B,k_,d,rfl⟩:=h.parts
            go_wp2_with fail
            exact hK.out _ _ ⟨⟨_,_,_,_,_,_,_,rfl,h⟩,hb⟩
          · go_simp
            go_at_call 41;refine (of_e (HV.p0.keep (Yb H3.q5 hS.1)) Yd Yd).mono ?_;rintro e W2 ⟨v,rfl,h,hb⟩
            obtain ⟨p,A,l_,c,B,k_,d,rfl⟩:=h.parts
            go_wp2_with fail
            exact hK.out _ _ ⟨⟨_,_,_,_,_,_,_,rfl,h⟩,hb⟩
        · rintro W hS v5 ⟨p5,A5,l5,c5,B5,k5,d5,rfl,h5⟩ v11 ⟨p11,A11,l11,c11,B11,k11,d11,rfl,h11⟩
          refine gvN ?_;refine flN (flN ?_)
          refine flK (fun K hK=>?_) flL
          go_simp
          go_at_call 102;refine (sub_e h5 h11 Yd Yd Yd Yd).mono ?_;rintro e W2 ⟨v,rfl,h,hb⟩
          obtain ⟨p,A,l_,c,B,k_,d,rfl⟩:=h.parts
          go_wp2_with fail
          exact hK.out _ _ ⟨⟨_,_,_,_,_,_,_,rfl,h⟩,hb⟩
        · rintro W hS -
          have hS:=hS flY
          refine gvN ?_;refine flN (flN ?_)
          refine flC fun K hK=>?_
          have hal:=Ya W (.cells #[.bool false,.slice none 0 0,.slice none 0 0] 96)
          go_simp
          have hb2:=Yb hS.1 hal
          exact hK.out _ _ ⟨⟨_,rfl,hS.1.size,Bl.new W 96 [.bool false,.slice none 0 0,.slice none 0 0]⟩,fun _=>⟨⟨hb2,Bl.ld (H3.p2.keep hb2) 4 rfl,Bl.ld (H3.p2.keep hb2) 5 rfl,(HY.out _ (Yb H3.q5 hb2)).2.1,(HY.out _ (Yb H3.q5 hb2)).2.2.1,(HY.out _ (Yb H3.q5 hb2)).2.2.2.1,(HY.out _ (Yb H3.q5 hb2)).2.2.2.2.1,(HY.out _ (Yb H3.q5 hb2)).2.2.2.2.2.1,(HY.out _ (Yb H3.q5 hb2)).2.2.2.2.2.2.1⟩,hal⟩⟩
        · rintro W hS c13 ⟨gz2,rfl,pz,Xz⟩ v12 ⟨p12,A12,l12,c12,B12,k12,d12,rfl,h12⟩
          have hS:=hS flY
          refine gvN ?_;refine flN (flN ?_)
          refine flC fun K hK=>?_
          have f0:=Bl.fr Xz 0
          have f1:=Bl.fr Xz 1
          have f2:=Bl.fr Xz 2
          have r0:=Bl.ld Xz 0 rfl
          have r1:=Bl.ld Xz 1 rfl
          have r2:=Bl.ld Xz 2 rfl
          go_simp
          clear f0 f1 f2 r0 r1 r2
          have b3:=below3 hS.1 pz (.bool p12) (.slice A12 l12 c12) (.slice B12 k12 d12)
          exact hK.out undef _ ⟨⟨_,_,_,_,_,_,_,_,rfl,pz,Xz.set3 rfl (.bool p12) (.slice A12 l12 c12) (.slice B12 k12 d12),Qe.put3 h12 Xz (by simp) (.bool p12) (.slice A12 l12 c12) (.slice B12 k12 d12),b3⟩,fun h=>flX h⟩
        rintro W hS c13 c14 ⟨gw,pw,Aw,lw,cw_,Bw,kw,dw_,rfl,pq,Xq,hq,hbq⟩ v5 - v11 - v12 -
        clear hS
        refine gvN ?_;(repeat refine flA ?_);refine flN (flN ?_)
        obtain ⟨W4,hWW⟩:∃ X,X=W:=⟨_,rfl⟩
        subst hWW
        have H4:=Yh8 (Rr.keep H3.p0 hbq) (H3.p1.keep hbq) (H3.p2.keep hbq) (H3.p3.keep hbq) (H3.p4.keep hbq) Xq hq (Yb H3.q5 hbq)
        clear H3 hbq Xq hq pq
        have HFO:Hid (∀ g,fv.ownBlock=some g->g<W4.heap.size):=fun g e=>(World.ownsRow.lt H4.p0 g e).2
        have HT14:Hid (t<14/\fl.length<=t):=⟨Yo,HI.q2⟩
        go_upto_region 21 with (fail)
        refine flow (fun W=>Yg W4 W/\W.cell? ⟨gq,0,none⟩=some (.bool ps)/\W.cell? ⟨gq,1,none⟩=some (.slice Ap lp cp)/\W.cell? ⟨gq,2,none⟩=some (.slice Bp mp dp)/\W.cell? ⟨gw,0,none⟩=some (.bool pw)/\W.cell? ⟨gw,1,none⟩=some (.slice Aw lw cw_)/\W.cell? ⟨gw,2,none⟩=some (.slice Bw kw dw_)/\W.cell? ⟨gz,oz+j*3,none⟩=some (.bool xz.b)/\W.cell? ⟨gz,oz+j*3+1,none⟩=some (.slice xz.A xz.l xz.k)/\W.cell? ⟨gz,oz+j*3+2,none⟩=some (.slice xz.B xz.m xz.d)) (fun vs W=>match vs with|[]=>True|_=>∃ p A l_ c B k_ d,Bl W 96 gq [.bool p,.slice A l_ c,.slice B k_ d]/\Qe W (30+92*t+91+1) (.agg #[.bool p,.slice A l_ c,.slice B k_ d]) (s-absQ rx.q*(g.q-f.q))/\Fr W4.heap.size (.agg #[.bool p,.slice A l_ c,.slice B k_ d])/\Rr W w.heap.size 3 1 ics fv fl/\Bl W 4 gdn ((bs.set j true).map Value.bool)/\Bl W 26 w.heap.size [.int .i64 l.n,.slice aA an ac,.slice (some ⟨gb,ob,none⟩) bn bc,.slice (some ⟨gc,oc,none⟩) cn cc,.slice (some ⟨gd,od,none⟩) dn dc,.slice (some ⟨ge,oe,none⟩) en ec,.slice fA fn fc]/\Yg w W) (fun w w'=>Yg w w') 0 [⟨[],[(0,128),(1,129),(2,130),(3,131),(4,132),(6,134)],[],[(5,133,fun v W=>∃ p5 A5 l5 c5 B5 k5 d5,v=.agg #[.bool p5,.slice A5 l5 c5,.slice B5 k5 d5]/\Qe W 30 (.agg #[.bool p5,.slice A5 l5 c5,.slice B5 k5 d5]) (absQ rx.q))]⟩,⟨[(5,133)],[(6,134)],[],[(7,135,fun v W=>∃ p7 A7 l7 c7 B7 k7 d7,v=.agg #[.bool p7,.slice A7 l7 c7,.slice B7 k7 d7]/\Qe W 91 (.agg #[.bool p7,.slice A7 l7 c7,.slice B7 k7 d7]) (absQ rx.q*(g.q-f.q)))]⟩,⟨[(7,135)],[(0,128)],[],[(8,136,fun v W=>∃ p A l_ c B k_ d,v=.agg #[.bool p,.slice A l_ c,.slice B k_ d]/\Qe W (30+92*t+91+1) (.agg #[.bool p,.slice A l_ c,.slice B k_ d]) (s-absQ rx.q*(g.q-f.q))/\Fr W4.heap.size (.agg #[.bool p,.slice A l_ c,.slice B k_ d]))]⟩] [] [⟨9,none,[(8,136)],[],[]⟩] ⟨[(5,133),(7,135),(8,136)],[(0,128),(1,129),(2,130),(3,131),(4,132),(6,134)],[],[]⟩ ⟨below_nil,Bl.ld (H4.p3.keep below_nil) 0 rfl,Bl.ld (H4.p3.keep below_nil) 1 rfl,Bl.ld (H4.p3.keep below_nil) 2 rfl,Bl.ld (H4.p5.keep below_nil) 0 rfl,Bl.ld (H4.p5.keep below_nil) 1 rfl,Bl.ld (H4.p5.keep below_nil) 2 rfl,(HY.out _ (Yb H4.q7 below_nil)).2.2.2.2.2.2.2⟩ (trivial) (fun _ _ h b=>⟨(Yb h.1 b),Bl.ld (H4.p3.keep (Yb h.1 b)) 0 rfl,Bl.ld (H4.p3.keep (Yb h.1 b)) 1 rfl,Bl.ld (H4.p3.keep (Yb h.1 b)) 2 rfl,Bl.ld (H4.p5.keep (Yb h.1 b)) 0 rfl,Bl.ld (H4.p5.keep (Yb h.1 b)) 1 rfl,Bl.ld (H4.p5.keep (Yb h.1 b)) 2 rfl,(HY.out _ (Yb H4.q7 (Yb h.1 b))).2.2.2.2.2.2.2⟩) (fun vs _ _ h b=>match vs,h with|[],_=>trivial|_::_,⟨p,A,l,c,B,k,d,h1,h2,h3,h4,h5,h6,h7⟩=>⟨p,A,l,c,B,k,d,h1.keep b,h2.keep b,h3,h4.keep b,h5.keep b,h6.keep b,Yb h7 b⟩) ⟨fun _ _ _ ⟨p,A,l,c,B,k,d,e,h⟩ b=>⟨p,A,l,c,B,k,d,e,h.keep b⟩,fun _ _ _ ⟨p,A,l,c,B,k,d,e,h⟩ b=>⟨p,A,l,c,B,k,d,e,h.keep b⟩,⟨fun _ _ _ ⟨p,A,l,c,B,k,d,e,h⟩ b=>⟨p,A,l,c,B,k,d,e,h.keep b⟩,fun _ _ _ ⟨p,A,l,c,B,k,d,e,h⟩ b=>⟨p,A,l,c,B,k,d,e,h.keep b⟩,⟨fun _ _ _ ⟨p,A,l,c,B,k,d,e,h,h2⟩ b=>⟨p,A,l,c,B,k,d,e,h.keep b,h2⟩,fun _ _ _ ⟨p,A,l,c,B,k,d,e,h,h2⟩ b=>⟨p,A,l,c,B,k,d,e,h.keep b,h2⟩,trivial⟩⟩⟩ ⟨?_,?_,?_,trivial⟩ trivial ⟨?_,trivial⟩ ?_
        · rintro W hS
          refine gvN ?_;(repeat refine flA ?_);refine flN (flN ?_)
          refine flK (fun K hK=>?_) flL
          go_simp
          go_at_call 101;refine (abs_d (HV.q2.keep (Yb H4.q7 hS.1))).mono ?_;rintro e W2 ⟨v,rfl,h,hb⟩
          obtain ⟨p,A,l_,c,B,k_,d,rfl⟩:=h.parts
          go_wp2_with fail
          exact hK.out _ _ ⟨⟨_,_,_,_,_,_,_,rfl,h⟩,hb⟩
        · rintro W hS v5 ⟨p5,A5,l5,c5,B5,k5,d5,rfl,h5⟩
          refine gvN ?_;(repeat refine flA ?_);refine flN (flN ?_)
          refine flK (fun K hK=>?_) flL
          go_simp
          go_at_call 69;refine (mul_e h5 (H4.p6.keep hS.1) Yd Yd Yd Yd).mono ?_;rintro e W2 ⟨v,rfl,h,hb⟩
          obtain ⟨p,A,l_,c,B,k_,d,rfl⟩:=h.parts
          go_wp2_with fail
          exact hK.out _ _ ⟨⟨_,_,_,_,_,_,_,rfl,h⟩,hb⟩
        · rintro W hS v7 ⟨p7,A7,l7,c7,B7,k7,d7,rfl,h7⟩
          refine gvN ?_;(repeat refine flA ?_);refine flN (flN ?_)
          refine flK (fun K hK=>?_) flL
          go_simp
          go_at_call 102;refine (sub_o (H4.p4.keep hS.1) h7 Yo Yd (by have:=HT14.p0;omega) Yd).mono ?_;rintro e W2 ⟨v,rfl,h,hb,hfr⟩
          have hfr:=Fr.mono hfr hS.1.size
          obtain ⟨p,A,l_,c,B,k_,d,rfl⟩:=h.parts
          go_wp2_with fail
          exact hK.out _ _ ⟨⟨_,_,_,_,_,_,_,rfl,h,hfr⟩,hb⟩
        · rintro W hS - v8 ⟨p8,A8,l8,c8,B8,k8,d8,rfl,h8,fr8⟩
          have hS:=hS flY
          refine gvN ?_;refine flN (flN ?_)
          refine flC fun K hK=>?_
          have X5:=H4.p3.keep hS.1
          have f0:=Bl.fr X5 0
          have f1:=Bl.fr X5 1
          have f2:=Bl.fr X5 2
          have r0:=Bl.ld X5 0 rfl
          have r1:=Bl.ld X5 1 rfl
          have r2:=Bl.ld X5 2 rfl
          go_simp
          clear f0 f1 f2 r0 r1 r2
          have b3:=below3 (Yb H4.q7 hS.1) (by have:=HG.out;omega:w.heap.size<=gq) (.bool p8) (.slice A8 l8 c8) (.slice B8 k8 d8)
          exact hK.out undef _ ⟨⟨_,_,_,_,_,_,_,X5.set3 rfl (.bool p8) (.slice A8 l8 c8) (.slice B8 k8 d8),Qe.put3 h8 X5 (by simp) (.bool p8) (.slice A8 l8 c8) (.slice B8 k8 d8),fr8,Rr.keepT (Rr.keep H4.p0 hS.1) (X5.keep3 Yd (.bool p8) (.slice A8 l8 c8) (.slice B8 k8 d8)),(H4.p1.keep hS.1).other3 (by have:=HG.out;omega) (.bool p8) (.slice A8 l8 c8) (.slice B8 k8 d8),(H4.p2.keep hS.1).other3 (by have:=HG.out;omega) (.bool p8) (.slice A8 l8 c8) (.slice B8 k8 d8),b3⟩,fun h=>flX h⟩
        rintro W hS c9 ⟨pn,An,ln,cn_,Bn,kn,dn_,Xn,hqn,hfn,hrn,hdn_,hln,hbn⟩ v5 - v7 - v8 -
        clear hS
        refine gvN ?_;(repeat refine flA ?_);refine flN (flN ?_)
        obtain ⟨W5,hWW⟩:∃ X,X=W:=⟨_,rfl⟩
        subst hWW
        have H5:=Yh7 Xn hqn hfn hrn hdn_ hln hbn
        clear Xn hqn hfn hrn hdn_ hln hbn H4 HV HY
        have z0:=Bl.ld H5.p0 0 rfl
        have z1:=Bl.ld H5.p0 1 rfl
        have z2:=Bl.ld H5.p0 2 rfl
        go_wp2_with fail
        refine (sign_e H5.p1).mono ?_;rintro e w10 ⟨rfl,hb⟩
        have HA:=Yh7 (H5.p0.keep hb) (H5.p1.keep hb) H5.p2 (Rr.keep H5.p3 hb) (H5.p4.keep hb) (H5.p5.keep hb) (Yb H5.q6 hb)
        clear hb H5 z0 z1 z2
        by_cases hsg:sgnQ (s-absQ rx.q*(g.q-f.q))<=0
        · skip
          have HSG:=Lib.hid hsg
          go_wp2_with fail
          go_ret3
          exact entD (j:Int) fl true _ rfl (Rr.rv HA.p3) HA.q6 (HGO.out.trans (by rw [HHS.out,HWN.out,if_neg (by decide),if_pos HSG.out]))
        have HSG:=Lib.hid hsg
        have HFL:Hid (fl.length<=14):=(by have:=HT14.out;show _<=_;omega)
        have hal:=Ya w10 (.cells #[.int .i64 (j:Int)] 3)
        go_wp2_with (at_builtin;refine app_els (w0:=w) (f:=ics) (x:=(j:Int)) Tryz.underlying73 int_info ⟨Yd,rfl,Yd⟩ ics_len ics_one rfl (.tmp 142) (.tmp 144) rfl rfl rfl (Rr.keep HA.p3 hal) (Bl.new w10 _ _) (by have:=HFL.out;omega) (Yb HA.q6 hal) ?_;intro u2 w11 k1 k2_ k3 k4)
        have HGE:Hid (goEnter true (hasN l) (fun c=>absN rs c*wideN l c) (L.drop (t+1)) (s-absQ rx.q*(g.q-f.q)) (fl++[(j:Int)])=goEnter true (hasN l) (fun c=>absN rs c*wideN l c) L sh.q []):=by
         have e1:=HGO.out
         rw [HHS.out,HWN.out,if_neg (by decide),if_neg (Int.not_le.2 HSG.out)] at e1
         exact e1.symm
        have hbz:∀ T,3≠T->KeepT T w10 w11:=fun T hT=>(KeepT.below hal).trans (k3 T hT)
        have HQN:Hid (Qe w11 (30+92*(t+1)) (.agg #[.bool pn,.slice An ln cn_,.slice Bn kn dn_]) (s-absQ rx.q*(g.q-f.q))):=((HA.p1.keep hal).grown HA.p2 fun g hg hlt=>k4 g hlt fun e=>absurd (HFO.out g e) Yo).mono Yo
        have HF2:Hid (Rr w11 w.heap.size 3 1 ics u2 (fl++[(j:Int)])/\Bl w11 4 gdn ((bs.set j true).map Value.bool)/\Bl w11 26 w.heap.size [.int .i64 l.n,.slice aA an ac,.slice (some ⟨gb,ob,none⟩) bn bc,.slice (some ⟨gc,oc,none⟩) cn cc,.slice (some ⟨gd,od,none⟩) dn dc,.slice (some ⟨ge,oe,none⟩) en ec,.slice fA fn fc]/\Bl w11 96 gq [.bool pn,.slice An ln cn_,.slice Bn kn dn_]/\Yg w w11):=⟨k1,(hbz _ Yd).bl HA.p4,(hbz _ Yd).bl HA.p5,(hbz _ Yd).bl HA.p0,k2_⟩
        clear HA k1 k2_ k3 k4 hal hbz
        go_wp2_with fail
        case roundEnd=>exact ⟨⟨t+1,fl++[(j:Int)],_,bs.set j true,pn,An,ln,cn_,Bn,kn,dn_,_,by go_num,rfl,Yo,HGE.out,⟨by rw [List.length_set];exact HI.p1.1,HGC.out⟩,by have:=HT14.q1;rw [List.length_append];simp only [List.length_cons,List.length_nil];omega,HF2.p0,HF2.p1,HF2.p2,HF2.p3,HQN.out,HF2.q4⟩,by simp [intOf];omega⟩
  obtain rfl:n=t:=by omega
  have HGN:Hid (goEnter flip (hasN l) (fun c=>absN rs c*wideN l c) L sh.q []=(0,[],false)):=by
   have e1:=H.p0
   rw [List.drop_eq_nil_of_le (by have e2:=HLL.p0.length_eq;have e3:(candX l st ds rs up n).length<=n:=candK_len n;omega)] at e1
   exact e1.symm
  have HB:=Lib.hid H.q8
  have hal:=Ya wr (.cells #[] 3)
  have hii:=(rr_empty (B:=0) (Bl.new wr 3 []) (Nat.zero_le _)).rv
  have HII:=Yh2 hii (Yb HB.out hal)
  clear hii hal
  go_wp2_with fail
  go_ret3
  exact entD 0 [] false _ rfl HII.p0 HII.q1 HGN.out
end I
end
end
end Go.Proofs.YtaajajngnmaggaaGreat
