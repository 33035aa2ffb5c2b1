import Derived.Test.YtaajajngnmaggaaGreatENA24
import Derived.Test.YtaajajngnmaggaaGreatENA25
import Derived.Calls
import Derived.StepT
import Derived.Test.YtaajajngnmaggaaGreatSort
set_option maxRecDepth 100000
set_option maxHeartbeats 8000000
set_option linter.unusedVariables false
set_option linter.unusedSimpArgs false
namespace Go.Proofs.YtaajajngnmaggaaGreat
section
section
open Go Go.RowKit Go.Proofs Pl
def StandsQ (l:LPx) (bs st:List Int):Prop:=RightX l/\StandsP l bs st/\bs.length<=20/\st.length<=20/\Fit30 l
namespace I
theorem stands13 {w:World} {v u y:Value} {l:LPx} {bs st:List Int} (h:LPv w v l) (hb:Iv w u bs) (hs:Iv w y st) (hf:Sane l):
 Calls Tryz.prog 32 #[v,.agg #[u,y]] w fun e w'=>Saysb (fun r=>r=true->StandsQ l bs st) e/\Yg w w':=by
 have hlp:=h
 obtain ⟨aA,an,ac,bA,bn,bc,cA,cn,cc,dA,dn,dc,eA,en,ec,fA,fn,fc,rfl,hP,hla,hlb,hlc,hld,hle,hlf,hma,hmb,hmc,hmd,hme,hmf⟩:=h.open
 obtain ⟨Au,cu,rfl,-,-⟩:=hb.shape
 obtain ⟨Av,cv,rfl,-,-⟩:=hs.shape
 obtain ⟨n,hn⟩:∃ n,bs.length=n:=⟨_,rfl⟩
 obtain ⟨m,hm⟩:∃ m,st.length=m:=⟨_,rfl⟩
 rw [hn] at hb ⊢
 rw [hm] at hs ⊢
 have HS:=Yh3 hlp hb hs
 have HN:=Yh2 hn hm
 have HF:=Lib.hid hf
 clear hP hlp hb hs hn hm hf hla hlb hlc hld hle hlf hma hmb hmc hmd hme hmf h
 change Calls Tryz.prog 32 #[.agg #[.int .i64 l.n,.slice aA an ac,.slice bA bn bc,.slice cA cn cc,.slice dA dn dc,.slice eA en ec,.slice fA fn fc],.agg #[.slice Au n cu,.slice Av m cv]] w _
 go_enter Tryz.func32,Tryz.ntmps32
 go_upto_region 1 with (fail)
 obtain ⟨hX,hT,hB⟩:=box2 w 26 75 [.int .i64 l.n,.slice aA an ac,.slice bA bn bc,.slice cA cn cc,.slice dA dn dc,.slice eA en ec,.slice fA fn fc] [.slice Au n cu,.slice Av m cv]
 have HX:=Yh3 hX hT hB
 clear hX hT hB
 generalize (w.alloc _).alloc _=W0 at HX ⊢
 have l0:=Bl.ld HX.p0 0 rfl
 have l1:=Bl.ld HX.p0 1 rfl
 have l2:=Bl.ld HX.p0 2 rfl
 have l3:=Bl.ld HX.p0 3 rfl
 have l4:=Bl.ld HX.p0 4 rfl
 have l5:=Bl.ld HX.p0 5 rfl
 have l6:=Bl.ld HX.p0 6 rfl
 go_wp2_with fail
 refine (great_l (HS.p0.keep HX.q2) HF.out).mono ?_;rintro e w1 ⟨⟨r,rfl,hr⟩,hb⟩
 have H1:=Yh3 (HX.p0.keep hb) (HX.p1.keep hb) (Yb HX.q2 hb)
 have HR:=Lib.hid hr
 clear hb hr HX l0 l1 l2 l3 l4 l5 l6
 cases r with
 | true=>
  go_wp2_with fail
  go_ret
  exact ⟨⟨false,rfl,fun h=>by cases h⟩,H1.q2⟩
 | false=>
  have HFT:=Lib.hid (HR.out rfl)
  clear HR
  by_cases hn20:(n:Int)<=20
  · skip
    by_cases hm20:(m:Int)<=20
    · skip
      have q0:=Bl.ld H1.p1 0 rfl
      have q1:=Bl.ld H1.p1 1 rfl
      have l0:=Bl.ld H1.p0 0 rfl
      have l1:=Bl.ld H1.p0 1 rfl
      have l2:=Bl.ld H1.p0 2 rfl
      have l3:=Bl.ld H1.p0 3 rfl
      have l4:=Bl.ld H1.p0 4 rfl
      have l5:=Bl.ld H1.p0 5 rfl
      have l6:=Bl.ld H1.p0 6 rfl
      go_wp2_with fail
      refine (right_d (HS.p0.keep H1.q2) HFT.p0).mono ?_;rintro e w2 ⟨⟨r,rfl,hr⟩,hb⟩
      have H2:=Yh3 (H1.p0.keep hb) (H1.p1.keep hb) (Yb H1.q2 hb)
      have HR:=Lib.hid hr
      clear hb hr H1 q0 q1 l0 l1 l2 l3 l4 l5 l6
      cases r with
      | false=>
       go_wp2_with fail
       go_ret
       exact ⟨⟨false,rfl,fun h=>by cases h⟩,H2.q2⟩
      | true=>
       have HRX:=Lib.hid (HR.out.1 rfl)
       clear HR
       have q0:=Bl.ld H2.p1 0 rfl
       have q1:=Bl.ld H2.p1 1 rfl
       have l0:=Bl.ld H2.p0 0 rfl
       have l1:=Bl.ld H2.p0 1 rfl
       have l2:=Bl.ld H2.p0 2 rfl
       have l3:=Bl.ld H2.p0 3 rfl
       have l4:=Bl.ld H2.p0 4 rfl
       have l5:=Bl.ld H2.p0 5 rfl
       have l6:=Bl.ld H2.p0 6 rfl
       go_wp2_with fail
       refine (stands_d (HS.p0.keep H2.q2) (HS.p1.keep H2.q2) (HS.q2.keep H2.q2) (by rw [HN.p0];omega) (by rw [HN.q1];omega) HRX.p0.2.2.2.2.1 HRX.p0.2.2.2.2.2.1 HRX.p0.1 HFT.p0.1 HRX.p0.2.1).mono ?_;rintro e w3 ⟨⟨r,rfl,hr⟩,hb⟩
       have H3:=Yh2 (Yb H2.q2 hb) hr
       clear hb hr H2 q0 q1 l0 l1 l2 l3 l4 l5 l6
       go_wp2_with fail
       go_ret
       exact ⟨⟨r,rfl,fun e=>⟨HRX.out,H3.q1 e,by rw [HN.p0];omega,by rw [HN.q1];omega,HFT.out⟩⟩,H3.p0⟩
    have q0:=Bl.ld H1.p1 0 rfl
    have q1:=Bl.ld H1.p1 1 rfl
    go_wp2_with fail
    go_ret
    exact ⟨⟨false,rfl,fun h=>by cases h⟩,H1.q2⟩
  have q0:=Bl.ld H1.p1 0 rfl
  have q1:=Bl.ld H1.p1 1 rfl
  go_wp2_with fail
  go_ret
  exact ⟨⟨false,rfl,fun h=>by cases h⟩,H1.q2⟩
end I
end
end
section
section
open Go
def rW {α:Type}:Result α->World
 | .ok _ w=>w
 | .halt _ w=>w
theorem ask_dn {α:Type} (a:Ask α):∀ w:World,w.drawn<=(w.ask a).2.drawn:=by
 induction a with
 | done a=>intro w;exact Nat.le_refl _
 | ask what range k ih=>
  intro w
  rw [World.ask]
  split
  · exact ih _ _
  · exact Nat.le_trans (Nat.le_succ _) (ih _ { w with drawn:=w.drawn+1 })
theorem sys_dn (w:World) (c:Sys):w.drawn<=(w.sys c).2.drawn:=by
 unfold World.sys
 have h:=ask_dn (Kernel.perform c w.os) w
 split
 · exact Nat.le_refl _
 · rename_i e;rw [e] at h;exact h
theorem view_dn {p:Program} {w w':World} {at_:Addr} {u:TypeId} {k:Addr} {v:Value} {b:Bool} {t:List Addr} (h:w.viewStore p at_ u k v b=.ok (w',t)):w'.drawn=w.drawn:=by
 unfold World.viewStore at h
 simp only [bind,Except.bind,pure,Except.pure,throw,throwThe,MonadExceptOf.throw] at h
 repeat' split at h
 all_goals first | (cases h;done) | (cases h;rfl) | skip
theorem far_dn {p:Program} {w w':World} {a:Addr} {v:Value} {b:Bool} {t:List Addr} (h:w.farStore p a v b=.ok (w',t)):w'.drawn=w.drawn:=by
 unfold World.farStore at h
 repeat' split at h
 · rename_i e;injection h with h;subst h;exact view_dn e
 all_goals cases h
theorem run_dn {α:Type} (p:Program) (s:Sem α):∀ w:World,w.drawn<=(rW (s.run p w)).drawn:=by
 induction s with
 | pure a=>intro w;exact Nat.le_refl _
 | load m a k ih=>
  intro w;simp only [Sem.run]
  split
  · exact ih _ _
  · split
    · exact ih _ _
    · exact Nat.le_refl _
 | store m a v k ih=>
  intro w
  cases v<;>simp only [Sem.run]<;>first
   | exact Nat.le_refl _
   | focus
    split
    · split
      · exact Nat.le_refl _
      · exact ih (w.setCell a _)
    · split
      · rename_i e;rw [<- far_dn e];exact ih _
      · exact Nat.le_refl _
 | new o k ih=>intro w;simp only [Sem.run];exact ih _ { w with heap:=w.heap.push o }
 | shape r k ih=>intro w;simp only [Sem.run];exact ih _ _
 | freeze a n k ih=>intro w;simp only [Sem.run];have:=ih (w.freeze a n);exact (show (w.freeze a n).drawn=w.drawn by unfold World.freeze;first | rfl | (split<;>rfl)) ▸ this
 | frozen a k ih=>intro w;simp only [Sem.run];exact ih _ _
 | getObj r k ih=>
  intro w;simp only [Sem.run]
  split
  · exact Nat.le_refl _
  · exact ih _ _
  · exact Nat.le_refl _
 | setObj r o k ih=>
  intro w;simp only [Sem.run]
  split
  · exact Nat.le_refl _
  · exact ih { w with heap:=w.heap.setIfInBounds r o }
  · exact Nat.le_refl _
 | choose q k ih=>
  intro w;simp only [Sem.run]
  split
  · exact ih _ _
  · exact Nat.le_trans (Nat.le_succ _) (ih _ { w with drawn:=w.drawn+1 })
 | sys c k ih=>intro w;simp only [Sem.run];exact Nat.le_trans (sys_dn w c) (ih _ _)
 | program k ih=>intro w;simp only [Sem.run];exact ih _ _
 | mark m k ih=>intro w;simp only [Sem.run];exact ih _
 | halt h=>intro w;exact Nat.le_refl _
theorem ok_dn {α:Type} {p:Program} {s:Sem α} {w w':World} {a:α} (h:s.run p w=.ok a w'):w.drawn<=w'.drawn:=by
 have:=run_dn p s w;rw [h] at this;exact this
theorem halt_dn {α:Type} {p:Program} {s:Sem α} {w w':World} {a:Halt} (h:s.run p w=.halt a w'):w.drawn<=w'.drawn:=by
 have:=run_dn p s w;rw [h] at this;exact this
def gW:GStep->World
 | .go _ w _=>w
 | .comm _ _ _ _ w _=>w
 | .spawn _ _ w _=>w
 | .count _ w _=>w
 | .timer _ _ w _=>w
 | .alone _ _ w _=>w
 | .newcoro _ _ _ w _=>w
 | .coroswitch _ _ _ w _=>w
 | .collect _ w _=>w
 | .watch _ w _=>w
 | .ended _ w _=>w
theorem after_w (es:Array Event) (s:GStep):gW (s.after es)=gW s:=by cases s<;>rfl
def GD (w:World) (s:GStep):Prop:=w.drawn<=(gW s).drawn
theorem GD.after {w:World} {s:GStep} {es:Array Event} (h:GD w s):GD w (s.after es):=by unfold GD;rw [after_w];exact h
theorem sys_dn' {w w':World} {c:Sys} {r:SysRet} (h:w.sys c=(r,w')):w.drawn<=w'.drawn:=by
 have:=sys_dn w c;rw [h] at this;exact this
theorem endWith_dn (w:World) (c:Nat) (b:ByteArray) (o:Outcome):GD w (endWith w c b o):=by
 simp only [endWith]
 repeat' split
 all_goals exact sys_dn' (by assumption)
theorem endFatal_dn (p:Program) (fr:Frame) (cs:List Frame) (d:Option Dying) (m:String) (w:World):GD w (endFatal p fr cs d m w):=by
 unfold endFatal
 dsimp only
 generalize hs:Sem.run p _ w=r
 split
 all_goals first | exact ok_dn (by assumption) | exact halt_dn (by assumption)
theorem endPrinting_dn (p:Program) (fr:Frame) (v:Value) (w:World):GD w (endPrinting p fr v w):=by
 simp only [endPrinting]
 split
 all_goals exact Nat.le_refl _
theorem notYet_dn {w:World} (fr:Frame) (cs:List Frame) (d:Option Dying) (g:Nat) (o:Outcome) (w':World) (h:w.drawn<=w'.drawn):GD w (match w'.heap[g]? with
 | some (Obj.pending c elem)=>GStep.go { frame:=fr,callers:=cs,status:=.running,dying:=d } { w' with heap:=w'.heap.setIfInBounds g (.cells c elem) }
 | _=>GStep.ended o w'):=by
 split
 · exact h
 · exact h
theorem ite_dn {w:World} {c:Prop} [Decidable c] {a b:GStep} (ha:GD w a) (hb:GD w b):GD w (if c then a else b):=by
 split
 · exact ha
 · exact hb
theorem early_dn (p:Program) (fr:Frame) (cs:List Frame) (d:Option Dying) (g:Nat) (w:World):GD w (early p fr cs d g w):=by
 simp only [early]
 repeat' first
  | exact Nat.le_refl _
  | exact notYet_dn _ _ _ _ _ _ (Nat.le_refl _)
  | exact notYet_dn _ _ _ _ _ _ (ok_dn (by assumption))
  | exact ok_dn (by assumption)
  | exact halt_dn (by assumption)
  | refine ite_dn ?_ ?_
  | split
theorem ret_dn (p:Program) (main:Bool) (fr:Frame) (cs:List Frame) (d:Option Dying) (v:Value) (w:World):GD w (doReturn p main fr cs d v w):=by
 unfold doReturn
 repeat' split
 all_goals exact Nat.le_refl _
theorem callDef_dn (p:Program) (fr:Frame) (cs:List Frame) (d:Option Dying) (x:Deferred) (w:World):GD w (callDeferred p fr cs d x w):=by
 unfold callDeferred
 simp only [Sem.runT_eq]
 refine ite_dn (Nat.le_refl _) (GD.after ?_)
 · repeat' split
   all_goals first | exact ok_dn (by assumption) | exact halt_dn (by assumption) | exact Nat.le_trans (halt_dn (by assumption)) (endFatal_dn ..) | skip
theorem apply_dn (p:Program) (b:Bool) (fr:Frame) (cs:List Frame) (d:Option Dying) (s:Sem Next) (w:World):GD w (stepG.apply p b fr cs d s w):=by
 have hr:(if b=true then s.runT p w #[] else (s.run p w,#[])).1=s.run p w:=by
  split
  · rw [Sem.runT_eq]
  · rfl
 unfold stepG.apply
 dsimp only
 generalize (if b=true then s.runT p w #[] else (s.run p w,#[]))=re at hr ⊢
 obtain ⟨r,es⟩:=re
 dsimp only at hr ⊢
 subst hr
 refine GD.after ?_
 repeat' split
 all_goals first | exact ok_dn (by assumption) | exact halt_dn (by assumption) | exact Nat.le_trans (halt_dn (by assumption)) (endFatal_dn ..) | exact Nat.le_trans (halt_dn (by assumption)) (early_dn ..) | skip
theorem oper_dn (p:Program) (b:Bool) (fr:Frame) (cs:List Frame) (d:Option Dying) (w:World):GD w (stepG.oper p b fr cs d w):=by
 unfold stepG.oper
 split
 · exact Nat.le_refl _
 · split<;>exact apply_dn ..
theorem elim_dn {α:Type} {w:World} (o:Option α) (a:GStep) (f:α->GStep) (ha:GD w a) (hf:∀ x,GD w (f x)):GD w (o.elim a f):=by
 cases o
 · exact ha
 · exact hf _
theorem GD.go0 {w:World} {g:Goroutine} {es:Array Event}:GD w (.go g w es):=Nat.le_refl _
theorem GD.en0 {w:World} {g:Outcome} {es:Array Event}:GD w (.ended g w es):=Nat.le_refl _
theorem GD.go1 {α:Type} {p:Program} {s:Sem α} {w w':World} {a:α} {g:Goroutine} {es:Array Event} (h:s.run p w=.ok a w'):GD w (.go g w' es):=ok_dn h
theorem GD.en1 {α:Type} {p:Program} {s:Sem α} {w w':World} {a:α} {g:Outcome} {es:Array Event} (h:s.run p w=.ok a w'):GD w (.ended g w' es):=ok_dn h
theorem GD.go2 {α:Type} {p:Program} {s:Sem α} {w w':World} {a:Halt} {g:Goroutine} {es:Array Event} (h:s.run p w=.halt a w'):GD w (.go g w' es):=halt_dn h
theorem GD.en2 {α:Type} {p:Program} {s:Sem α} {w w':World} {a:Halt} {g:Outcome} {es:Array Event} (h:s.run p w=.halt a w'):GD w (.ended g w' es):=halt_dn h
theorem GD.tr {w w':World} {s:GStep} (h:w.drawn<=w'.drawn) (h2:GD w' s):GD w s:=Nat.le_trans h h2
theorem exec_dn (p:Program) (main b:Bool) (fr:Frame) (cs:List Frame) (d:Option Dying) (w:World):GD w (stepG.exec p main b fr cs d w):=by
 have lv:∀ j l,GD w (GStep.after (seen p fr.fn ((Instr.endRound l j).events p w #[])) (match (Instr.endRound l j).run p w with
  | .ok v w=>doReturn p main fr cs d v w
  | .halt _ w => .ended (.stuck "range over a function: no such loop" (fr.pos p)) w)) := fun j l => by
  refine GD.after ?_
  split
  · exact Nat.le_trans (ok_dn (by assumption)) (ret_dn ..)
  · exact halt_dn (by assumption)
 unfold stepG.exec
 simp only [Sem.runT_eq]
 repeat first
  | with_reducible exact GD.go0
  | with_reducible exact GD.en0
  | with_reducible exact GD.go1 (by assumption)
  | with_reducible exact GD.en1 (by assumption)
  | with_reducible exact GD.go2 (by assumption)
  | with_reducible exact GD.en2 (by assumption)
  | with_reducible exact apply_dn ..
  | with_reducible exact oper_dn ..
  | with_reducible exact lv _ _
  | with_reducible exact GD.tr (ok_dn (by assumption)) (apply_dn ..)
  | with_reducible exact GD.tr (ok_dn (by assumption)) (ret_dn ..)
  | with_reducible refine elim_dn _ _ _ ?_ fun _=>?_
  | with_reducible refine GD.after ?_
  | split
theorem writeOn_dn (p:Program) (fr:Frame) (d:Dying) (f:Fatal) (w:World):GD w (writeOn p fr d f w):=by
 unfold writeOn
 dsimp only
 simp only [Sem.runT_eq]
 split
 · exact GD.en0
 · generalize hs:Sem.run p _ w=r
   generalize Sem.events p _ w #[]=es
   cases r with
   | ok a w'=>exact GD.go1 hs
   | halt h w'=>cases h<;>first | exact GD.go2 hs | exact GD.en2 hs
theorem die_dn (p:Program) (fr:Frame) (d:Dying) (w:World):GD w (die p fr d w):=by
 unfold die
 simp only [Sem.runT_eq]
 repeat first
  | with_reducible exact GD.go0
  | with_reducible exact GD.en0
  | with_reducible exact GD.go1 (by assumption)
  | with_reducible exact GD.en1 (by assumption)
  | with_reducible exact GD.go2 (by assumption)
  | with_reducible exact GD.en2 (by assumption)
  | with_reducible exact writeOn_dn ..
  | with_reducible exact endWith_dn ..
  | with_reducible exact GD.tr (halt_dn (by assumption)) (endPrinting_dn ..)
  | with_reducible refine GD.after ?_
  | split
theorem unwind_dn (p:Program) (main:Bool) (fr:Frame) (cs:List Frame) (d:Option Dying) (w:World):GD w (unwind p main fr cs d w):=by
 unfold unwind
 simp only [Sem.runT_eq]
 repeat first
  | with_reducible exact GD.go0
  | with_reducible exact GD.en0
  | with_reducible exact GD.go1 (by assumption)
  | with_reducible exact GD.en1 (by assumption)
  | with_reducible exact GD.go2 (by assumption)
  | with_reducible exact GD.en2 (by assumption)
  | with_reducible exact callDef_dn ..
  | with_reducible exact ret_dn ..
  | with_reducible exact endPrinting_dn ..
  | with_reducible exact GD.tr (ok_dn (by assumption)) (ret_dn ..)
  | with_reducible refine GD.after ?_
  | split
theorem stepG_dn (p:Program) (main:Bool) (g:Goroutine) (w:World) (b:Bool):GD w (stepG p main g w b):=by
 obtain ⟨fr,callers,status,dying,offers⟩:=g
 simp only [stepG]
 split
 · exact die_dn ..
 · exact exec_dn ..
 · exact unwind_dn ..
def SD (w:World):Stepped->Prop
 | .next m=>w.drawn<=m.world.drawn
 | .ended _ _=>True
theorem site_dn {w:World} {c:Prop} [Decidable c] {a b:Stepped} (ha:SD w a) (hb:SD w b):SD w (if c then a else b):=by
 split
 · exact ha
 · exact hb
theorem SD.tr {w w':World} {s:Stepped} (h:w.drawn<=w'.drawn) (h2:SD w' s):SD w s:=by
 cases s with
 | next m=>exact Nat.le_trans h h2
 | ended o w=>trivial
theorem comm_dn (p:Program) (rest:Rest) (gs:Array Goroutine) (i:Nat) (g:Goroutine) (cases:Array CommCase) (bl:Bool) (sh:CommShape) (w:World):SD w (communicate p rest gs i g cases bl sh w).1:=by
 have wa:∀ w',waitingAt rest cases w=some w'->w.drawn<=w'.drawn:=fun w' h=>by
  unfold waitingAt at h
  repeat' split at h
  all_goals first | (injection h with h;subst h;exact Nat.le_refl _) | cases h
 unfold communicate
 dsimp only
 generalize List.filter _ _=ready
 split
 · trivial
 · split
   · split
     · split
       · exact wa _ (by assumption)
       · trivial
     · exact Nat.le_refl _
   · generalize hs:Sem.run p _ w=r
     cases r with
     | halt h w'=>trivial
     | ok a w'=>
      obtain ⟨k,c,way⟩:=a
      refine SD.tr (ok_dn hs) ?_
      clear hs wa
      dsimp only
      repeat' split
      all_goals first | trivial | (dsimp only [SD];exact Nat.le_refl _) | (dsimp only [SD];exact ok_dn (by assumption)) | (dsimp only [SD];exact halt_dn (by assumption)) | skip
theorem look_dn (p:Program) (gs:Array Goroutine) (rest:Rest) (w:World):SD w (look p gs rest w):=by
 unfold look
 split
 · dsimp only
   refine site_dn trivial ?_
   split
   · trivial
   · generalize hs:Sem.run p _ w=r
     cases r with
     | ok a w'=>obtain ⟨x,y⟩:=a;have h2:=ok_dn hs;clear hs;dsimp only [SD];exact h2
     | halt h w'=>cases h<;>trivial
 · trivial
theorem drain_dn (w:World) (c:Nat):(drain w c).2.drawn=w.drawn:=by
 unfold drain
 split<;>rfl
theorem retime_dn (m:Machine) (k:Nat) (t:Timer) (a b:Nat):(retime m k t a b).2.world.drawn=m.world.drawn:=by
 unfold retime
 cases t.chan with
 | none=>rfl
 | some c=>exact drain_dn m.world c
theorem opened_dn {m m':Machine} {a:Addr} (h:timerOp.opened m a=some m'):m'.world.drawn=m.world.drawn:=by
 unfold timerOp.opened at h
 repeat' split at h
 all_goals first | (injection h with h;subst h;rfl) | cases h
theorem named_dn {m m':Machine} {a:Addr} {f:Nat->Timer->Value × Machine} {v:Value} {x:World} (hf:∀ k t,(f k t).2.world.drawn=x.drawn) (h:timerOp.named m a f=.ok (v,m')):m'.world.drawn=x.drawn:=by
 unfold timerOp.named at h
 split at h
 · injection h with h;rw [<- hf _ _,h]
 · cases h
theorem timer_dn {m m':Machine} {op:TimerOp} {v:Value} (h:timerOp m op=.ok (v,m')):m.world.drawn<=m'.world.drawn:=by
 unfold timerOp at h
 repeat' split at h
 all_goals first
  | (cases h;done)
  | (injection h with h;injection h with h1 h2;subst h2;exact Nat.le_refl _)
  | (rw [named_dn (x:=m.world) (fun k t=>retime_dn _ _ _ _ _) h];exact Nat.le_refl _)
  | (rename_i e;rw [named_dn (x:=m.world) (fun k t=>(retime_dn _ _ _ _ _).trans (opened_dn e)) h];exact Nat.le_refl _)
  | skip
theorem runT_dn (p:Program) (m:Machine) (i:Nat) (b:Bool):SD m.world (Go.runT p m i b).1:=by
 simp only [Go.runT]
 generalize m.gs.swapAt! _ _=gg
 have h:=stepG_dn p (i==0) gg.1 m.world b
 generalize stepG p (i==0) gg.1 m.world b=s at h ⊢
 cases s with
 | ended o w es=>trivial
 | comm g cases bl sh w es=>exact SD.tr h (comm_dn ..)
 | go g w es=>exact h
 | spawn g c w es=>exact h
 | count g w es=>dsimp only;split<;>first | trivial | exact h
 | alone g on w es=>exact h
 | collect g w es=>exact SD.tr h (look_dn ..)
 | watch g w es=>exact h
 | newcoro g c d w es=>exact h
 | coroswitch g c e w es=>
  dsimp only
  repeat' split
  all_goals first | trivial | exact h | (rename_i e;injection e with e1 e2;subst e2;exact h) | skip
 | timer g op w es=>
  dsimp only
  repeat' split
  all_goals first | trivial | exact h | (exact Nat.le_trans h (timer_dn (by assumption))) | (rename_i e;injection e with e1 e2;subst e2;exact h) | skip
theorem serve_dn (p:Program) (m:Machine) (k:Nat):SD m.world (serve p m k):=by
 unfold serve
 split
 · trivial
 · exact Nat.le_refl _
 · dsimp only
   split
   · trivial
   · exact Nat.le_refl _
def MD (w:World):Move->Prop
 | .goroutine m _=>w.drawn<=m.world.drawn
 | .machine s _=>SD w s
theorem MD.tr {w w':World} {s:Move} (h:w.drawn<=w'.drawn) (h2:MD w' s):MD w s:=by
 cases s with
 | goroutine m i=>exact Nat.le_trans h h2
 | machine s o=>exact SD.tr h h2
theorem mite_dn {w:World} {c:Prop} [Decidable c] {a b:Move} (ha:MD w a) (hb:MD w b):MD w (if c then a else b):=by
 split
 · exact ha
 · exact hb
theorem askOn_dn (p:Program) (m:Machine):MD m.world (askOn p m):=by
 have pick:∀ m':Machine,m.world.drawn<=m'.world.drawn->MD m.world (
  match (choose (.sched (runnable m.gs m.world.os.mono).length)).run p m'.world with
  | .halt _ w => .machine (.ended (.stuck "sched" "") w)
  | .ok k world=>
   if (runnable m.gs m.world.os.mono).length<=1 then .goroutine { m' with world } ((runnable m.gs m.world.os.mono).getD k 0) else
   match (choose (.extern "sched.slice" 65536)).run p world with
   | .halt _ w => .machine (.ended (.stuck "sched.slice" "") w)
   | .ok n world=>.goroutine { m' with world,rest:={ m'.rest with slice:=if n=0 then none else some ((runnable m.gs m.world.os.mono).getD k 0,n) } } ((runnable m.gs m.world.os.mono).getD k 0)):=fun m' h=>by
  refine MD.tr h ?_
  split
  · trivial
  · rename_i e
    refine MD.tr (ok_dn e) (mite_dn (Nat.le_refl _) ?_)
    split
    · trivial
    · exact ok_dn (by assumption)
 unfold askOn
 dsimp only
 split
 · trivial
 · rename_i k w' e
   have he:=ok_dn e
   refine mite_dn (MD.tr he (serve_dn p { m with world:=w' } _)) ?_
   clear e
   split
   · split
     · exact he
     · refine mite_dn he ?_
       split<;>trivial
   · split
     · exact pick { m with world:=w' } he
     · split
       · trivial
       · exact pick { m with world:=_ } (Nat.le_trans he (ok_dn (by assumption)))
       · rename_i w2 e;exact Nat.le_trans he (show w'.drawn<=w2.drawn from ok_dn e)
       · rename_i w2 e;exact pick (({ m with world:=w2 }:Machine).advanceTo _) (Nat.le_trans he (show w'.drawn<=w2.drawn from ok_dn e))
theorem ask_m (p:Program) (m:Machine):MD m.world (ask p m):=by
 unfold ask
 split
 · split
   · trivial
   · rename_i w' e
     have h:=look_dn p m.gs m.rest w'
     split
     · rename_i m' e2;rw [e2] at h;exact MD.tr (ok_dn e) (MD.tr h (askOn_dn p m'))
     · exact SD.tr (ok_dn e) h
   · rename_i a w' _ e
     exact MD.tr (ok_dn e) (askOn_dn p { m with world:=w' })
 · exact askOn_dn p m
theorem move_dn (p:Program) (m:Machine):MD m.world (move p m):=by
 unfold move
 split
 · exact mite_dn (Nat.le_refl _) trivial
 · split
   · exact mite_dn (Nat.le_refl _) (ask_m p { m with rest:=_ })
   · exact ask_m p m
theorem step_dn {p:Program} {m m':Machine} (h:step p m=.next m'):m.world.drawn<=m'.world.drawn:=by
 have h0:=move_dn p m
 unfold step stepT at h
 cases hm:move p m with
 | goroutine m2 i=>
  rw [hm] at h h0
  have h1:=runT_dn p m2 i true
  have h:(Go.runT p m2 i true).1=.next m':=h
  rw [h] at h1
  exact Nat.le_trans h0 h1
 | machine s ops=>
  rw [hm] at h h0
  have h:s=.next m':=h
  rw [h] at h0;exact h0
theorem runN_dn {p:Program} {m':Machine}:∀ (n:Nat) (m:Machine),runN p n m=.next m'->m.world.drawn<=m'.world.drawn
 | 0,m,h=>by injection h with h;subst h;exact Nat.le_refl _
 | n+1,m,h=>by
  unfold runN at h
  cases hs:step p m with
  | next m2=>rw [hs] at h;exact Nat.le_trans (step_dn hs) (runN_dn n m2 h)
  | ended o w=>rw [hs] at h;cases h
theorem calls_dn {P:Program} {f:FuncId} {args:Array Value} {w:World} {R:Ending->World->Prop} (h:Calls P f args w R) (ho:∀ w',¬R .outgrown w'):Calls P f args w fun e w'=>R e w'/\w.drawn<=w'.drawn:=fun cs=>by
 obtain ⟨e,w',fr,hr,hc,hf,hl⟩:=h cs
 refine ⟨e,w',fr,⟨hr,?_⟩,hc,hf,hl⟩
 cases e with
 | returned v=>obtain ⟨n,hn⟩:=hc;exact runN_dn n _ hn
 | panicked c=>obtain ⟨n,hn⟩:=hc;exact runN_dn n _ hn
 | outgrown=>exact absurd hr (ho w')
end
end
section
section
open Go Go.RowKit Go.Proofs Pl
def cfC (a b:Int × Rat):Int:=orI (cmpQ a.2 b.2) (cmpZ a.1 b.1)
theorem clos_v {w:World} {c c2:Int} {b b2:Bool} {A B A2 B2:Option Addr} {l k m d l2 k2 m2 d2:Nat} {q r:Rat} (hx:Qv w 13 (.agg #[.bool b,.slice A l k,.slice B m d]) q) (hy:Qv w 13 (.agg #[.bool b2,.slice A2 l2 k2,.slice B2 m2 d2]) r):
 Calls Tryz.prog 95 #[.agg #[.int .i64 c,.bool b,.slice A l k,.slice B m d],.agg #[.int .i64 c2,.bool b2,.slice A2 l2 k2,.slice B2 m2 d2]] w fun e w'=>e=.returned (.int .i64 (orI (cmpQ q r) (cmpZ c c2)))/\Yg w w':=by
 have HZ:=Yh2 hx hy
 clear hx hy
 go_enter Tryz.func95,Tryz.ntmps95
 go_upto_region 1 with (fail)
 obtain ⟨hX,hY,hB⟩:=box2 w 156 156 [.int .i64 c,.bool b,.slice A l k,.slice B m d] [.int .i64 c2,.bool b2,.slice A2 l2 k2,.slice B2 m2 d2]
 have HX:=Yh3 hX hY hB
 clear hX hY hB
 generalize (w.alloc _).alloc _=W0 at HX ⊢
 go_upto_region 1 with (fail)
 have HC:Hid (∀ W,Yg W0 W->W.cell? ⟨w.heap.size,0,none⟩=some (.int .i64 c)/\W.cell? ⟨w.heap.size,1,none⟩=some (.bool b)/\W.cell? ⟨w.heap.size,2,none⟩=some (.slice A l k)/\W.cell? ⟨w.heap.size,3,none⟩=some (.slice B m d)/\W.cell? ⟨(w.heap.size+1),0,none⟩=some (.int .i64 c2)/\W.cell? ⟨(w.heap.size+1),1,none⟩=some (.bool b2)/\W.cell? ⟨(w.heap.size+1),2,none⟩=some (.slice A2 l2 k2)/\W.cell? ⟨(w.heap.size+1),3,none⟩=some (.slice B2 m2 d2)):=fun W hb=>⟨Bl.ld (HX.p0.keep hb) 0 rfl,Bl.ld (HX.p0.keep hb) 1 rfl,Bl.ld (HX.p0.keep hb) 2 rfl,Bl.ld (HX.p0.keep hb) 3 rfl,Bl.ld (HX.p1.keep hb) 0 rfl,Bl.ld (HX.p1.keep hb) 1 rfl,Bl.ld (HX.p1.keep hb) 2 rfl,Bl.ld (HX.p1.keep hb) 3 rfl⟩
 refine flow (fun W=>Yg W0 W/\W.cell? ⟨w.heap.size,0,none⟩=some (.int .i64 c)/\W.cell? ⟨w.heap.size,1,none⟩=some (.bool b)/\W.cell? ⟨w.heap.size,2,none⟩=some (.slice A l k)/\W.cell? ⟨w.heap.size,3,none⟩=some (.slice B m d)/\W.cell? ⟨(w.heap.size+1),0,none⟩=some (.int .i64 c2)/\W.cell? ⟨(w.heap.size+1),1,none⟩=some (.bool b2)/\W.cell? ⟨(w.heap.size+1),2,none⟩=some (.slice A2 l2 k2)/\W.cell? ⟨(w.heap.size+1),3,none⟩=some (.slice B2 m2 d2)) (fun _ _=>True) (fun _ _=>False) 0 [⟨[],[(0,5),(1,6),(2,7),(3,8),(5,10),(6,11),(7,12),(8,13)],[],[(4,9,fun v W=>v=.int .i64 (cmpQ q r)),(9,14,fun v W=>v=.int .i64 (cmpZ c c2))]⟩,⟨[(10,15)],[],[],[(11,16,fun v W=>v=.int .i64 (orI (cmpQ q r) (cmpZ c c2)))]⟩,⟨[(11,16)],[(12,4)],[],[]⟩,⟨[(4,9),(9,14)],[],[],[(10,15,fun v W=>∃ g,v=.slice (some ⟨g,0,none⟩) 2 2/\Bl W 3 g [.int .i64 (cmpQ q r),.int .i64 (cmpZ c c2)])]⟩] [] [] ⟨[(4,9),(9,14),(10,15),(11,16)],[(0,5),(1,6),(2,7),(3,8),(5,10),(6,11),(7,12),(8,13),(12,4)],[],[]⟩ ⟨below_nil,HC.out _ below_nil⟩ (trivial) (fun _ _ h b=>⟨Yb h.1 b,HC.out _ (Yb h.1 b)⟩) (fun _ _ _ h _=>h) ⟨fun _ _ _ h _=>h,fun _ _ _ _ h=>h.elim,⟨fun _ _ _ h _=>h,fun _ _ _ _ h=>h.elim,⟨fun _ _ _ h _=>h,fun _ _ _ _ h=>h.elim,⟨fun _ _ _ ⟨g,e,h⟩ b=>⟨g,e,h.keep b⟩,fun _ _ _ _ h=>h.elim,trivial⟩⟩⟩⟩ ⟨?_,?_,?_,?_,trivial⟩ trivial trivial ?_
 · rintro W hS
   refine gvN ?_;(repeat refine flA ?_);refine flN (flN ?_)
   refine flK (fun K hK=>?_) (flK (fun K hK=>?_) flL)
   · go_simp
     go_at_call 89;refine (cmp_v (HZ.p0.keep (Yb HX.q2 hS.1)) (HZ.q1.keep (Yb HX.q2 hS.1)) Yd Yd Yd Yd).mono ?_;rintro e W2 ⟨rfl,hb⟩
     go_wp2_with fail
     exact hK.out _ _ ⟨rfl,hb⟩
   · go_simp
     go_at_call 97;refine (compare_i c c2 _).mono ?_;rintro e W2 ⟨rfl,hb⟩
     go_wp2_with fail
     exact hK.out _ _ ⟨rfl,hb⟩
 · rintro W hS v10 ⟨g10,rfl,X10⟩
   refine gvN ?_;refine flN (flN ?_)
   refine flK (fun K hK=>?_) flL
   go_simp
   go_at_call 96;refine (or2_i X10).mono ?_;rintro e W2 ⟨rfl,hb⟩
   go_wp2_with fail
   exact hK.out _ _ ⟨rfl,hb⟩
 · rintro W hS v11 rfl
   refine gvN ?_;(repeat refine flA ?_);refine flN (flN ?_)
   exact flL
 · rintro W hS v4 rfl v9 rfl
   refine gvN ?_;refine flN (flN ?_)
   refine flK (fun K hK=>?_) flL
   have hal:=Ya W (.cells #[.int .i64 (cmpQ q r),.int .i64 (cmpZ c c2)] 3)
   go_simp
   exact hK.out _ _ ⟨⟨_,rfl,Bl.new W 3 [.int .i64 (cmpQ q r),.int .i64 (cmpZ c c2)]⟩,hal⟩
 rintro W hS - v4 rfl v9 rfl v10 ⟨g10,rfl,X10⟩ v11 rfl
 have hS:=hS flY
 refine gvN ?_;(repeat refine flA ?_);refine flN (flN ?_)
 go_wp2_with fail
 go_ret
 exact ⟨rfl,Yb HX.q2 hS.1⟩
theorem grown_of {W w':World} (h:Below W.heap.size W w') (hd:W.drawn<=w'.drawn):∃ q os',w'=Go.Sort.grow (W.drewN q) os':=by
 refine ⟨w'.drawn - W.drawn,w'.heap.extract W.heap.size w'.heap.size,?_⟩
 have e:w'.heap=W.heap++w'.heap.extract W.heap.size w'.heap.size:=by
  apply Array.ext_getElem?;intro k
  rw [Array.getElem?_append]
  by_cases hk:k<W.heap.size
  · rw [if_pos hk];exact h.block k hk
  · rw [if_neg hk,Array.getElem?_extract,Nat.min_self]
    by_cases h2:k<w'.heap.size
    · rw [if_pos (by omega),show W.heap.size+(k - W.heap.size)=k from by omega]
    · rw [if_neg (by omega),Array.getElem?_eq_none (by omega)]
 have h1:=h.os;have h2:=h.tape;have h3:=h.output
 obtain ⟨hp,tp,dr,oo,ou⟩:=w'
 obtain ⟨hp0,tp0,dr0,oo0,ou0⟩:=W
 simp only at h1 h2 h3 e hd
 subst h1 h2 h3
 show World.mk _ _ _ _ _=World.mk (hp0++_) _ (dr0+(dr - dr0)) _ _
 rw [show dr0+(dr - dr0)=dr from by omega]
 congr 1
theorem rat_trans {a b c:Rat} (h:a<b) (h2:b<c):a<c:=Rat.not_le.1 fun h3=>by
 have h4:=Rat.le_antisymm (Rat.le_trans h3 (Rat.le_of_lt h)) (Rat.le_of_lt h2)
 exact Rat.lt_irrefl (h4 ▸ h2)
theorem cfC_lt (a b:Int × Rat):cfC a b<0↔a.2<b.2∨(a.2=b.2/\a.1<b.1):=by
 unfold cfC orI cmpQ cmpZ
 by_cases h:a.2<b.2
 · simp [h]
 · by_cases h2:a.2=b.2
   · have h3:¬ b.2<b.2:=Rat.lt_irrefl
     by_cases h4:a.1<b.1
     · simp [h2,h3,h4]
     · by_cases h5:a.1=b.1<;>simp [h2,h3,h4,h5]
   · simp [h,h2]
theorem cfC_irrefl (a:Int × Rat):¬ cfC a a<0:=fun h=>by
 rcases (cfC_lt a a).1 h with h | h
 · exact Rat.lt_irrefl h
 · omega
theorem cfC_trans {a b c:Int × Rat} (h:cfC a b<0) (h2:cfC b c<0):cfC a c<0:=by
 rw [cfC_lt] at*
 rcases h with h | ⟨h,h'⟩<;>rcases h2 with h2 | ⟨h2,h2'⟩
 · exact .inl (rat_trans h h2)
 · exact .inl (h2 ▸ h)
 · exact .inl (h ▸ h2)
 · exact .inr ⟨h.trans h2,Yo⟩
theorem cfC_total {a b:Int × Rat} (h:¬ cfC a b<0):cfC b a<0∨a=b:=by
 rw [cfC_lt] at*
 by_cases h1:a.2<b.2
 · exact absurd (.inl h1) h
 · by_cases h2:b.2<a.2
   · exact .inl (.inl h2)
   · have h3:a.2=b.2:=Rat.le_antisymm (Rat.not_lt.1 h2) (Rat.not_lt.1 h1)
     have h4:¬ a.1<b.1:=fun h5=>h (.inr ⟨h3,h5⟩)
     by_cases h5:a.1=b.1
     · exact .inr (Prod.ext h5 h3)
     · exact .inl (.inr ⟨h3.symm,Yo⟩)
theorem cfC_swo {α:Type} (f:α->Int × Rat):Go.Sort.SWO (ltOf fun x y:α=>cfC (f x) (f y)) where
 irrefl x:=decide_eq_false (cfC_irrefl _)
 trans x y z h1 h2:=decide_eq_true (cfC_trans (of_decide_eq_true h1) (of_decide_eq_true h2))
 ntrans x y z h1 h2:=decide_eq_false fun h=>by
  have h:cfC (f x) (f z)<0:=h
  have h1:¬ cfC (f x) (f y)<0:=of_decide_eq_false h1
  have h2:¬ cfC (f y) (f z)<0:=of_decide_eq_false h2
  rcases cfC_total h1 with h3 | h3
  · rcases cfC_total h2 with h4 | h4
    · exact cfC_irrefl _ (cfC_trans h (cfC_trans h4 h3))
    · rw [h4] at h3;exact cfC_irrefl _ (cfC_trans h h3)
  · rw [h3] at h;exact h2 h
section
variable {α:Type} [Inhabited α] {enc:α->List Value} {k g m:Nat} {w:World} {dk:Array α} {os:Array Obj} {cur:Array Value} {T:TypeId} {fr:Nat × Nat}
theorem sortW_other {j:Nat} (hj:j<w.heap.size) (hne:g≠j):(sortWorldK enc k w g 0 m dk os).heap[j]?=w.heap[j]?:=by
 unfold sortWorldK
 rw [Go.Sort.heap_grow_old _ _ (by simpa [Go.Sort.putRowK,Go.Sort.putRow,Go.Sort.mapBlock,Sort.ahead] using hj)]
 simp [Go.Sort.putRowK,Go.Sort.putRow,Go.Sort.mapBlock,Sort.ahead,Array.getElem?_modify,hne]
theorem sortW_at (hb:w.heap[g]?=some (.cells cur T fr)):(sortWorldK enc k w g 0 m dk os).heap[g]?=some (.cells (Go.Sort.putCells id 0 (Go.Sort.flatK enc k dk) cur) T fr):=by
 have hg:g<w.heap.size:=(Array.getElem?_eq_some_iff.1 hb).1
 unfold sortWorldK
 rw [Go.Sort.heap_grow_old _ _ (by simpa [Go.Sort.putRowK,Go.Sort.putRow,Go.Sort.mapBlock,Sort.ahead] using hg)]
 simp [Go.Sort.putRowK,Go.Sort.putRow,Go.Sort.mapBlock,Sort.ahead,Array.getElem?_modify,hb,Go.Sort.onCells]
theorem sortW_below {B:Nat} (hB:B<=g) (hw:B<=w.heap.size):Below B w (sortWorldK enc k w g 0 m dk os):=
 ⟨rfl,rfl,rfl,size_sortWorldK_c enc k w g 0 m dk os,fun j hj=>sortW_other Yo Yo⟩
theorem sortW_keepT (hb:w.heap[g]?=some (.cells cur T fr)) {U:TypeId} (hU:T≠U):KeepT U w (sortWorldK enc k w g 0 m dk os):=fun j cs mm hj=>sortW_other (heap_lt hj) (fun e=>by
 subst e
 rw [hb] at hj
 cases hj
 exact hU rfl)
theorem flatK_list (hk:∀ x,(enc x).length=k) (ds:List α):(Go.Sort.flatK enc k ds.toArray).toList=flat enc ds:=by
 apply List.ext_getElem?
 intro t
 by_cases ht:t<ds.length*k
 · have k0:0<k:=(Nat.eq_zero_or_pos k).elim (fun h=>by subst h;omega) id
   have h1:t / k<ds.length:=Nat.div_lt_of_lt_mul (by rw [Nat.mul_comm];exact ht)
   have h2:t % k<(enc ds[t / k]).length:=by rw [hk];exact Nat.mod_lt _ k0
   have e:=flat_at (f:=enc) (s:=k) hk (List.getElem?_eq_getElem h1) (List.getElem?_eq_getElem h2)
   rw [Nat.div_add_mod'] at e
   rw [e,Array.getElem?_toList,Go.Sort.flatK]
   simp [ht,h1,h2]
 · rw [List.getElem?_eq_none (by simp;omega),List.getElem?_eq_none (by rw [flat_len hk];omega)]
theorem take_put (cur F:Array Value) (h:F.size<=cur.size):(Go.Sort.putCells id 0 F cur).toList.take F.size=F.toList:=by
 apply List.ext_getElem?
 intro j
 by_cases hj:j<F.size
 · rw [List.getElem?_take_of_lt hj,Array.getElem?_toList]
   simp [Go.Sort.putCells,hj,show j<cur.size by omega]
 · rw [List.getElem?_take_eq_none (by omega),List.getElem?_eq_none (by simp;omega)]
end
theorem sub_list {α:Type} {P:α->Prop}:∀ xs:List α,(∀ x∈xs,P x)->∃ ds:List {x // P x},ds.map (·.1)=xs
 | [],_=>⟨[],rfl⟩
 | x::xs,h=>by
  obtain ⟨ds,e⟩:=sub_list xs fun y hy=>h y (List.mem_cons_of_mem _ hy)
  exact ⟨⟨x,h x (List.mem_cons_self ..)⟩::ds,by rw [List.map_cons,e]⟩
theorem flat_map {α β:Type} (f:β->List Value) (g:α->β) (xs:List α):flat (fun x=>f (g x)) xs=flat f (xs.map g):=by
 unfold flat;rw [List.flatMap_map]
theorem sort_c {w0 w:World} {V:Value} {xs:List Tm} (h:CandR w0 w V xs) (hz:∀ x∈xs,Sz 13 x.q) (hn:xs.length<4611686018427387904):
 Calls Tryz.prog 94 #[V,.func (.func 95) #[] #[]] w fun e w'=>e=.returned (.tuple #[])/\SortsC w0 V xs w'/\∀ T,156≠T->KeepT T w w':=by
 have one:∀ {A:Option Addr} {c:Nat},V=.slice A xs.length c->xs.length<=1->Calls Tryz.prog 94 #[V,.func (.func 95) #[] #[]] w fun e w'=>e=.returned (.tuple #[])/\SortsC w0 V xs w'/\∀ T,156≠T->KeepT T w w':=fun {A c} hV h1=>by
  subst hV
  refine (sort01 h1).mono ?_
  rintro e w' ⟨he,rfl⟩
  exact ⟨he,⟨xs,h,List.Perm.refl _,by
   unfold SortedC
   rcases xs with - | ⟨x,- | ⟨y,xs⟩⟩
   · exact List.Pairwise.nil
   · exact List.pairwise_singleton _ _
   · simp at h1⟩,fun T _=>KeepT.below (Below.refl _ _)⟩
 obtain ⟨hl,⟨rfl,h0⟩ | ⟨g,cap,cur,rfl,hg,hb,hnc,hc,hs,ht⟩⟩:=h.1
 · exact one (A:=none) (c:=0) (by rw [h0]) Yo
 · rcases hx:xs with - | ⟨x0,xs'⟩
   · rw [<- hx];exact one rfl (by rw [hx];decide)
   · rw [<- hx]
     have hP:∀ x∈xs,Qr w0 w x.num x.q/\Sz 13 x.q:=fun x hm=>⟨h.2.1 x hm,hz x hm⟩
     have:Inhabited {x:Tm // Qr w0 w x.num x.q/\Sz 13 x.q}:=⟨⟨x0,hP x0 (by rw [hx];exact List.mem_cons_self ..)⟩⟩
     obtain ⟨ds,hd⟩:=sub_list xs hP
     have hdl:ds.length=xs.length:=by rw [<- hd,List.length_map]
     have hgw:g<w.heap.size:=heap_lt hb
     have hk:∀ x:{x:Tm // Qr w0 w x.num x.q/\Sz 13 x.q},(Tm.cs x.1).length=4:=fun _=>rfl
     have hF:(Go.Sort.flatK (fun x:{x:Tm // Qr w0 w x.num x.q/\Sz 13 x.q}=>Tm.cs x.1) 4 ds.toArray).toList=flat Tm.cs xs:=by rw [flatK_list hk,flat_map,hd]
     have hH:Go.Sort.HoldsK (fun x:{x:Tm // Qr w0 w x.num x.q/\Sz 13 x.q}=>Tm.cs x.1) 4 w g 0 ds.toArray:=fun j hj=>by
      have hj2:j<xs.length*4:=by rw [Go.Sort.size_flatK] at hj;simpa [hdl] using hj
      have e:cur[j]?=some ((Go.Sort.flatK (fun x:{x:Tm // Qr w0 w x.num x.q/\Sz 13 x.q}=>Tm.cs x.1) 4 ds.toArray)[j]!):=by
       rw [<- Array.getElem?_toList,<- List.getElem?_take_of_lt hj2,ht,<- hF,Array.getElem?_toList,getElem!_pos _ j hj,Array.getElem?_eq_getElem hj]
      constructor
      · simp [World.cell?,hb,e]
      · simp [World.frozen?,hb]
     have eg:∀ args w,(callFunc 95 args).run Tryz.prog w=.ok (.enter 95 args) w:=enters_of Tryz.func95 (by kernel_rfl) rfl
     have hcmp:CmpLays Tryz.prog 95 #[] (fun x:{x:Tm // Qr w0 w x.num x.q/\Sz 13 x.q}=>Tm.cs x.1) 4 (fun x y=>cfC x.1.t y.1.t) g 0 ds.toArray.size w:=fun mm os dk hsz x y=>by
      have hk1:=sortW_keepT (enc:=fun x:{x:Tm // Qr w0 w x.num x.q/\Sz 13 x.q}=>Tm.cs x.1) (k:=4) (m:=mm) (dk:=dk) (os:=os) hb (U:=125) Yd
      have hb1:Yg w0 (sortWorldK (fun x:{x:Tm // Qr w0 w x.num x.q/\Sz 13 x.q}=>Tm.cs x.1) 4 w g 0 mm dk os):=h.2.2.trans (sortW_below hg (Nat.le_trans h.2.2.size (Nat.le_refl _)))
      refine (calls_dn (clos_v ((x.2.1.keepT hk1 hb1).qv x.2.2) ((y.2.1.keepT hk1 hb1).qv y.2.2)) (fun _ hh=>by cases hh.1)).mono ?_
      rintro e w' ⟨⟨rfl,hbe⟩,hdr⟩
      exact ⟨rfl,grown_of hbe hdr⟩
     have hcon:=AnyQ.slices_SortFunc Tryz.laysSort 4 Tryz.isAgg156 Tryz.sizeOf156 (fun x:{x:Tm // Qr w0 w x.num x.q/\Sz 13 x.q}=>Tm.cs x.1) hk (fun x v hv=>Tm.one x.1 v hv) (fun x y=>cfC x.1.t y.1.t) (cfC_swo fun x:{x:Tm // Qr w0 w x.num x.q/\Sz 13 x.q}=>x.1.t) 95 #[] g 0 cap ds.toArray w eg hcmp hH hgw (by simpa [hdl] using hn)
     rw [show ds.toArray.size=xs.length from by simpa using hdl] at hcon
     refine Calls.mono hcon ?_
     rintro e w' ⟨rfl,d',mm,os,hp,hso,rfl⟩
     have hds:d'.size=xs.length:=hp.1.trans (by simpa using hdl)
     have hF2:(Go.Sort.flatK (fun x:{x:Tm // Qr w0 w x.num x.q/\Sz 13 x.q}=>Tm.cs x.1) 4 d').toList=flat Tm.cs (d'.toList.map (·.1)):=by rw [<- flat_map,<- flatK_list hk]
     have hyl:(d'.toList.map (·.1)).length=xs.length:=by simp [hds]
     have hk1:=fun (U:TypeId) (hU:156≠U)=>sortW_keepT (enc:=fun x:{x:Tm // Qr w0 w x.num x.q/\Sz 13 x.q}=>Tm.cs x.1) (k:=4) (m:=mm) (dk:=d') (os:=os) hb (U:=U) hU
     have hb1:Yg w0 (sortWorldK (fun x:{x:Tm // Qr w0 w x.num x.q/\Sz 13 x.q}=>Tm.cs x.1) 4 w g 0 mm d' os):=h.2.2.trans (sortW_below hg (Nat.le_trans h.2.2.size (Nat.le_refl _)))
     refine ⟨rfl,⟨d'.toList.map (·.1),⟨⟨?_,.inr ⟨g,cap,_,by rw [hyl],hg,sortW_at hb,by rw [hyl];exact hnc,hc,by simp [Go.Sort.putCells,hs],?_⟩⟩,?_,hb1⟩,?_,?_⟩,fun T hT=>hk1 T hT⟩
     · rw [flat_len (s:=4) Tm.len]
     · have e:=take_put cur (Go.Sort.flatK (fun x:{x:Tm // Qr w0 w x.num x.q/\Sz 13 x.q}=>Tm.cs x.1) 4 d') (by rw [Go.Sort.size_flatK,hds,hs];exact Nat.mul_le_mul_right 4 hnc)
       rw [Go.Sort.size_flatK,hF2,hds] at e
       rw [hyl];exact e
     · intro x hx2
       obtain ⟨y,hy,rfl⟩:=List.mem_map.1 hx2
       exact y.2.1.keepT (hk1 _ Yd) hb1
     · have e:=hp.2.2
       rw [show d'.extract 0 xs.length=d' from by rw [<- hds];exact Array.extract_size,show ds.toArray.extract 0 xs.length=ds.toArray from by rw [<- hdl];exact Array.extract_size] at e
       have e2:=(e.map (·.1)).map Tm.t
       rw [show ds.toArray.toList.map (·.1)=xs from by simpa using hd] at e2
       exact e2
     · unfold SortedC
       rw [List.pairwise_map,List.pairwise_map,List.pairwise_iff_getElem]
       intro i j hi hj hij
       have hi2:i<d'.size:=by simpa using hi
       have hj2:j<d'.size:=by simpa using hj
       have e:=hso i j (Nat.zero_le _) hij Yo
       rw [getElem!_pos d' i hi2,getElem!_pos d' j hj2] at e
       exact e
end
end
section
section
open Go Go.RowKit Go.Proofs Pl
theorem sz_div {L M:Nat} {q r:Rat} (h:Sz L q) (h2:Sz M r) (hL:0<L):Sz (L+M) (q / r):=by
 by_cases hr:r.num=0
 · have:r=0:=Rat.num_eq_zero.1 hr
   subst this
   rw [Rat.div_def,Rat.inv_zero,Rat.mul_zero]
   exact sz_zero.mono Yo
 · have e:=div_mk (z:=q.num) (z2:=r.num) q.den_nz r.den_nz hr
   rw [Rat.mkRat_self,Rat.mkRat_self] at e
   rw [<- e]
   refine sz_mk ?_ ?_ (by rw [Int.natAbs_mul];exact Nat.mul_ne_zero Yo (by rw [Int.natAbs_natCast];exact q.den_nz))
   · have:(upz (q.num*(r.den:Int)) (r.num*(q.den:Int))).natAbs=q.num.natAbs*r.den:=by
      unfold upz;split<;>simp [Int.natAbs_mul]
     rw [this,Nat.pow_add];exact Nat.mul_lt_mul'' h.1 h2.2
   · rw [Int.natAbs_mul,Int.natAbs_natCast,Nat.mul_comm,Nat.pow_add];exact Nat.mul_lt_mul'' h.2 h2.1
theorem candK_in {may:Nat->Bool} {q:Nat->Rat} {t:Int × Rat}:∀ {k:Nat},t∈candK may q k->∃ j,j<k/\t=((j:Int),q j)/\may j=true
 | 0,h=>by cases h
 | k+1,h=>by
  unfold candK at h
  split at h
  · rename_i hm
    rcases List.mem_append.1 h with h | h
    · obtain ⟨j,h1,h2⟩:=candK_in h;exact ⟨j,Yo,h2⟩
    · rw [List.mem_singleton] at h;exact ⟨k,Yo,h,hm⟩
  · obtain ⟨j,h1,h2⟩:=candK_in h;exact ⟨j,Yo,h2⟩
theorem getD_sz {fs:List Fx} (h:∀ f∈fs,Sz 6 f.q) (j:Nat):Sz 6 (fs.getD j fx0).q:=by
 rw [List.getD_eq_getElem?_getD]
 rcases e:fs[j]? with - | f
 · show Sz 6 fx0.q;rw [show fx0.q=0 from by decide+kernel];exact sz_zero.mono Yo
 · exact h f (List.mem_of_getElem? e)
theorem cand_sz {l:LPx} {st:List Int} {ds rs:List Fx} {up:Bool} {k:Nat} (hd:∀ f∈ds,Sz 6 f.q) (hr:∀ f∈rs,Sz 6 f.q):∀ t∈candX l st ds rs up k,Sz 13 t.2:=fun t ht=>by
 obtain ⟨j,-,e,-⟩:=candK_in ht
 rw [e]
 exact (sz_div (absQ_sz (getD_sz hd j)) (absQ_sz (getD_sz hr j)) Yd).mono Yd
theorem rx_sz {w:World} {u:Value} {fs:List Fx} (hr:Rx w u fs) (hl:∀ f∈fs,f.xs.length<=6/\f.ds.length<=6):∀ f∈fs,Sz 6 f.q:=fun f hm=>by
 obtain ⟨i,hi⟩:=List.getElem?_of_mem hm
 obtain ⟨g,o,cap,x,-,-,hv,-⟩:=hr.at_ hi
 exact (hv.qv (hl f hm).1 (hl f hm).2).sz Yd
theorem hsort_c {w:World} {l:LPx} {st:List Int} {ds rs:List Fx} {up:Bool} (hd:∀ f∈ds,Sz 6 f.q) (hr:∀ f∈rs,Sz 6 f.q) (W:World) (V:Value) (xs:List Tm) (h:CandR w W V xs) (e:xs.map Tm.t=candX l st ds rs up st.length) (hn:st.length<=14):
 Calls Tryz.prog 94 #[V,.func (.func 95) #[] #[]] W fun e W'=>e=.returned (.tuple #[])/\SortsC w V xs W'/\∀ T,156≠T->KeepT T W W':=by
 refine sort_c h (fun x hx=>cand_sz hd hr x.t (e ▸ List.mem_map_of_mem hx)) ?_
 have h1:(xs.map Tm.t).length<=st.length:=by rw [e];exact candK_len _
 rw [List.length_map] at h1
 omega
theorem enter_a {w:World} {v u y z:Value} {l:LPx} {st:List Int} {ds rs:List Fx} {up sb flip:Bool} {As Bs:Option Addr} {ls cs ms ds_:Nat} {sh:Fx} (h:LPv w v l) (hs:Iv w u st) (hd:Rx w y ds) (hr:Rx w z rs) (hq:Fv w (.agg #[.bool sb,.slice As ls cs,.slice Bs ms ds_]) sh) (hf:Fit30 l) (hds:∀ f∈ds,f.xs.length<=6/\f.ds.length<=6) (hrs:∀ f∈rs,f.xs.length<=6/\f.ds.length<=6) (hsh:sh.xs.length<=6/\sh.ds.length<=6):
 Calls Tryz.prog 35 #[v,u,y,z,.agg #[.bool up,.bool sb,.slice As ls cs,.slice Bs ms ds_,.bool flip]] w fun e w'=>∃ (c:Int) (fl:List Int) (ok:Bool) (fv:Value),e=.returned (.tuple #[.int .i64 c,fv,.bool ok])/\Rr w' w.heap.size 3 1 ics fv fl/\Yg w w'/\
  (fitsX l [(st.length:Int),(ds.length:Int),(rs.length:Int)]=true->∃ L:List (Int × Rat),L.Perm (candX l st ds rs up st.length)/\SortedC L/\goEnter flip (hasN l) (fun c=>absN rs c*wideN l c) L sh.q []=(c,fl,ok)):=
 enter_v h hs hd hr hq hf hds hrs ⟨hq.qv hsh.1 hsh.2,(hq.qv (L:=6) hsh.1 hsh.2).sz Yd⟩ (fun W V xs h1 h2 h3=>hsort_c (rx_sz hd hds) (rx_sz hr hrs) W V xs h1 h2 h3)
end
end
section
section
open Go Go.RowKit Go.Proofs Pl
theorem cross_lt {a b r s:Rat} (hr:0<r) (hs:0<s):cmpQ (a*s) (b*r)<0↔a / r<b / s:=by
 have e:cmpQ (a*s) (b*r)<0↔a*s<b*r:=by
  unfold cmpQ
  by_cases h:a*s<b*r
  · simp [h]
  · by_cases h2:a*s=b*r<;>simp [h,h2]
 rw [e,Rat.lt_div_iff hs,show a / r*s=a*s / r from by rw [Rat.div_def,Rat.div_def,Rat.mul_assoc,Rat.mul_comm r⁻¹ s,<- Rat.mul_assoc],Rat.div_lt_iff hr]
theorem absQ_pos {q:Rat} (h:sgnQ q≠0):0<absQ q:=by
 have hq:q≠0:=fun e=>h (by rw [e];decide+kernel)
 unfold absQ
 split
 · rename_i h2
   have:=Rat.neg_lt_neg h2
   simpa using this
 · rename_i h2
   exact Rat.lt_iff_le_and_ne.2 ⟨Rat.not_lt.1 h2,fun e=>hq e.symm⟩
theorem candK_has {may:Nat->Bool} {q:Nat->Rat} {j:Nat} (h:may j=true):∀ {k:Nat},j<k->((j:Int),q j)∈candK may q k
 | 0,hk=>by omega
 | k+1,hk=>by
  unfold candK
  by_cases e:j=k
  · subst e;rw [if_pos h];exact List.mem_append_right _ (List.mem_singleton.2 rfl)
  · have h1:=candK_has (q:=q) h (k:=k) Yo
    split
    · exact List.mem_append_left _ h1
    · exact h1
theorem candK_up {may:Nat->Bool} {q:Nat->Rat}:∀ k,(candK may q k).Pairwise fun a b=>a.1≠b.1
 | 0=>List.Pairwise.nil
 | k+1=>by
  unfold candK
  have h1:=candK_up (may:=may) (q:=q) k
  split
  · refine List.pairwise_append.2 ⟨h1,List.pairwise_singleton _ _,fun a ha b hb=>?_⟩
    rw [List.mem_singleton] at hb
    subst hb
    obtain ⟨j,hj,e⟩:=candK_mem ha
    rw [e]
    intro h
    have:(j:Int)=(k:Int):=h
    omega
  · exact h1
def MinC (may:Nat->Bool) (q:Nat->Rat) (k:Nat) (b:Int):Prop:=(b=-1/\∀ i,i<k->may i=false)∨∃ j:Nat,b=(j:Int)/\j<k/\may j=true/\∀ i,i<k->may i=true->i≠j->cfC ((j:Int),q j) ((i:Int),q i)<0
theorem MinC.nil {may:Nat->Bool} {q:Nat->Rat}:MinC may q 0 (-1):=.inl ⟨rfl,fun i h=>by omega⟩
theorem MinC.skip {may:Nat->Bool} {q:Nat->Rat} {k:Nat} {b:Int} (h:MinC may q k b) (hk:may k=false):MinC may q (k+1) b:=by
 rcases h with ⟨h1,h2⟩ | ⟨j,h1,h2,h3,h4⟩
 · refine .inl ⟨h1,fun i hi=>?_⟩
   by_cases e:i=k
   · rw [e];exact hk
   · exact h2 i Yo
 · refine .inr ⟨j,h1,Yo,h3,fun i hi hm hne=>?_⟩
   by_cases e:i=k
   · rw [e,hk] at hm;cases hm
   · exact h4 i Yo hm hne
theorem MinC.first {may:Nat->Bool} {q:Nat->Rat} {k:Nat} (h:MinC may q k (-1)) (hk:may k=true):MinC may q (k+1) (k:Int):=by
 rcases h with ⟨-,h2⟩ | ⟨j,h1,-⟩
 · refine .inr ⟨k,rfl,Yo,hk,fun i hi hm hne=>?_⟩
   have:=h2 i Yo
   rw [this] at hm;cases hm
 · omega
theorem MinC.less {may:Nat->Bool} {q:Nat->Rat} {k j:Nat} (h:MinC may q k (j:Int)) (hk:may k=true) (hl:q k<q j):MinC may q (k+1) (k:Int):=by
 rcases h with ⟨h1,-⟩ | ⟨j',h1,h2,h3,h4⟩
 · omega
 · obtain rfl:j=j':=by omega
   refine .inr ⟨k,rfl,Yo,hk,fun i hi hm hne=>?_⟩
   have hkj:cfC ((k:Int),q k) ((j:Int),q j)<0:=(cfC_lt _ _).2 (.inl hl)
   by_cases e:i=j
   · rw [e];exact hkj
   · exact cfC_trans hkj (h4 i Yo hm e)
theorem MinC.more {may:Nat->Bool} {q:Nat->Rat} {k j:Nat} (h:MinC may q k (j:Int)) (hl:¬ q k<q j):MinC may q (k+1) (j:Int):=by
 rcases h with ⟨h1,-⟩ | ⟨j',h1,h2,h3,h4⟩
 · omega
 · obtain rfl:j=j':=by omega
   refine .inr ⟨j,rfl,Yo,h3,fun i hi hm hne=>?_⟩
   by_cases e:i=k
   · subst e
     refine (cfC_lt _ _).2 ?_
     by_cases e2:q j=q i
     · exact .inr ⟨e2,show (j:Int)<(i:Int) by omega⟩
     · exact .inl (Rat.lt_iff_le_and_ne.2 ⟨Rat.not_lt.1 hl,e2⟩)
   · exact h4 i Yo hm hne
def GoneC (L:List (Int × Rat)) (n t:Nat) (dn:Nat->Bool):Prop:=∀ i,i<n->(dn i=true↔∃ c∈L.take t,c.1=(i:Int))
theorem GoneC.nil {L:List (Int × Rat)} {n:Nat} {dn:Nat->Bool} (h:∀ i,i<n->dn i=false):GoneC L n 0 dn:=fun i hi=>by
 rw [h i hi];simp
theorem GoneC.step {L:List (Int × Rat)} {n t:Nat} {dn dn':Nat->Bool} {c:Int × Rat} {j:Nat} (h:GoneC L n t dn) (hc:L[t]?=some c) (hj:c.1=(j:Int)) (h1:dn' j=true) (h2:∀ i,i≠j->dn' i=dn i):GoneC L n (t+1) dn':=fun i hi=>by
 obtain ⟨hl,e⟩:=List.getElem?_eq_some_iff.1 hc
 rw [List.take_add_one,hc]
 by_cases e:i=j
 · subst e
   exact ⟨fun _=>⟨c,List.mem_append_right _ (by simp),hj⟩,fun _=>h1⟩
 · rw [h2 i e,h i hi]
   constructor
   · rintro ⟨x,hx,hx2⟩;exact ⟨x,List.mem_append_left _ hx,hx2⟩
   · rintro ⟨x,hx,hx2⟩
     rcases List.mem_append.1 hx with hx | hx
     · exact ⟨x,hx,hx2⟩
     · have:x=c:=by simpa using hx
       rw [this,hj] at hx2
       exact absurd (Int.ofNat.inj hx2.symm:i=j) e
theorem MinC.head {L:List (Int × Rat)} {may dn:Nat->Bool} {q:Nat->Rat} {n t:Nat} {b:Int} (hL:L.Perm (candK may q n)) (hs:SortedC L) (hd:GoneC L n t dn) (h:MinC (fun i=>!dn i && may i) q n b):(b=-1/\L.drop t=[])∨∃ j:Nat,b=(j:Int)/\j<n/\may j=true/\L[t]?=some ((j:Int),q j):=by
 have hnd:L.Pairwise fun a b=>a.1≠b.1:=(hL.pairwise_iff (fun h e=>h e.symm)).2 (candK_up n)
 have hin:∀ c∈L.drop t,∃ i,i<n/\c=((i:Int),q i)/\may i=true/\dn i=false:=fun c hc=>by
  obtain ⟨i,hi,e,hm⟩:=candK_in (hL.mem_iff.1 (List.mem_of_mem_drop hc))
  refine ⟨i,hi,e,hm,?_⟩
  by_cases hdn:dn i=true
  · obtain ⟨x,hx,hx2⟩:=(hd i hi).1 hdn
    rw [<- List.take_append_drop t L,List.pairwise_append] at hnd
    exact absurd (hx2.trans (by rw [e])) (hnd.2.2 x hx c hc)
  · simpa using hdn
 have hout:∀ j,j<n->may j=true->dn j=false->((j:Int),q j)∈L.drop t:=fun j hj hm hdn=>by
  have h1:=hL.mem_iff.2 (candK_has (q:=q) hm hj)
  rw [<- List.take_append_drop t L] at h1
  rcases List.mem_append.1 h1 with h1 | h1
  · have:=(hd j hj).2 ⟨_,h1,rfl⟩
    rw [hdn] at this;cases this
  · exact h1
 rcases h with ⟨h1,h2⟩ | ⟨j,h1,h2,h3,h4⟩
 · refine .inl ⟨h1,?_⟩
   rcases hR:L.drop t with - | ⟨c,R⟩
   · rfl
   · obtain ⟨i,hi,e,hm,hdn⟩:=hin c (by rw [hR];exact List.mem_cons_self ..)
     have:=h2 i hi
     simp [hm,hdn] at this
 · have h3':dn j=false/\may j=true:=by simpa using h3
   have hj:=hout j h2 h3'.2 h3'.1
   refine .inr ⟨j,h1,h2,h3'.2,?_⟩
   rcases hR:L.drop t with - | ⟨c,R⟩
   · rw [hR] at hj;cases hj
   · have ht:L[t]?=some c:=by
      have:=List.getElem?_drop (xs:=L) (i:=t) (j:=0)
      rw [hR] at this;simpa using this.symm
     obtain ⟨i,hi,e,hm,hdn⟩:=hin c (by rw [hR];exact List.mem_cons_self ..)
     by_cases e2:i=j
     · rw [ht,e,e2]
     · exfalso
       have h5:=h4 i hi (by simp [hm,hdn]) e2
       rw [hR] at hj
       rcases List.mem_cons.1 hj with hj | hj
       · rw [e] at hj
         have:j=i:=Int.ofNat.inj (congrArg Prod.fst hj)
         exact e2 this.symm
       · have hso:(L.drop t).Pairwise fun a b=>ltC b a=false:=List.Pairwise.sublist (List.drop_sublist t L) hs
         rw [hR,List.pairwise_cons] at hso
         have h6:¬ cfC ((j:Int),q j) c<0:=of_decide_eq_false (hso.1 _ hj)
         rw [e] at h6
         exact h6 h5
end
end
end Go.Proofs.YtaajajngnmaggaaGreat
