import Derived.Test.YtaajajngnmaggaaGreatLNA22
set_option maxRecDepth 100000
set_option maxHeartbeats 8000000
set_option linter.unusedVariables false
set_option linter.unusedSimpArgs false
namespace Go.Proofs.YtaajajngnmaggaaGreat
section
section
open Go Go.RowKit Go.Proofs Pl
def CandR (w0 w:World) (v:Value) (xs:List Tm):Prop:=Rr w w0.heap.size 156 4 Tm.cs v xs/\(∀ x∈xs,Qr w0 w x.num x.q)/\Yg w0 w
theorem CandR.keep {w0 w w':World} {v:Value} {xs:List Tm} (h:CandR w0 w v xs) (hb:Below w.heap.size w w'):CandR w0 w' v xs:=⟨Rr.keep h.1 hb,fun x hx=>(h.2.1 x hx).keep hb,Yb h.2.2 hb⟩
theorem CandR.nil {w0 w:World} (hb:Below w0.heap.size w0 w):CandR w0 w (.slice none 0 0) []:=⟨Rr.nil _ _ _ _ _,fun _ h=>(by cases h),hb⟩
theorem cand_info:(Tryz.prog.info? 156).map (fun i=>(i.zero,i.size,i.bytes))=some (some (.agg #[.int .i64 0,.bool false,.slice none 0 0,.slice none 0 0]),4,64):=by kernel_rfl
def candK (may:Nat->Bool) (q:Nat->Rat):Nat->List (Int × Rat)
 | 0=>[]
 | k+1=>if may k=true then candK may q k++[((k:Int),q k)] else candK may q k
theorem candK_len {may:Nat->Bool} {q:Nat->Rat}:∀ k,(candK may q k).length<=k
 | 0=>Nat.le_refl _
 | k+1=>by
  unfold candK
  have:=@candK_len may q k
  split
  · rw [List.length_append];simp only [List.length_cons,List.length_nil];omega
  · omega
theorem candK_yes {may:Nat->Bool} {q:Nat->Rat} {k:Nat} (h:may k=true):candK may q (k+1)=candK may q k++[((k:Int),q k)]:=if_pos h
theorem candK_no {may:Nat->Bool} {q:Nat->Rat} {k:Nat} (h:may k=false):candK may q (k+1)=candK may q k:=if_neg (by rw [h];decide)
def fixN (l:LPx) (k:Nat):Bool:=fixedQ (l.hasLo.getD k false) (l.hasHi.getD k false) (l.lo.getD k fx0).q (l.hi.getD k fx0).q
def mayN (l:LPx) (st:List Int) (rs:List Fx) (up:Bool) (k:Nat):Bool:=mayQ (st.getD k 0) (sgnQ (rs.getD k fx0).q) up (fixN l k)
def ratN (ds rs:List Fx) (k:Nat):Rat:=absQ (ds.getD k fx0).q / absQ (rs.getD k fx0).q
def candX (l:LPx) (st:List Int) (ds rs:List Fx) (up:Bool) (k:Nat):List (Int × Rat):=candK (mayN l st rs up) (ratN ds rs) k
def ltC (a b:Int × Rat):Bool:=decide (orI (cmpQ a.2 b.2) (cmpZ a.1 b.1)<0)
def SortedC (L:List (Int × Rat)):Prop:=L.Pairwise fun a b=>ltC b a=false
def SortsC (w0:World) (v:Value) (xs:List Tm) (w':World):Prop:=∃ ys,CandR w0 w' v ys/\(ys.map Tm.t).Perm (xs.map Tm.t)/\SortedC (ys.map Tm.t)
def hasN (l:LPx) (c:Int):Bool:=l.hasLo.getD c.toNat false && l.hasHi.getD c.toNat false
def wideN (l:LPx) (c:Int):Rat:=(l.hi.getD c.toNat fx0).q - (l.lo.getD c.toNat fx0).q
def absN (rs:List Fx) (c:Int):Rat:=absQ (rs.getD c.toNat fx0).q
def goEnter (flip:Bool) (has:Int->Bool) (step:Int->Rat):List (Int × Rat)->Rat->List Int->Int × List Int × Bool
 | [],_,_=>(0,[],false)
 | c::L,rest,fl=>if (!flip || !has c.1)=true then (c.1,fl,true) else if sgnQ (rest - step c.1)<=0 then (c.1,fl,true) else goEnter flip has step L (rest - step c.1) (fl++[c.1])
theorem mayQ_nz {s g:Int} {up fx:Bool} (h:mayQ s g up fx=true):g≠0:=fun e=>by
 subst e
 unfold mayQ at h
 cases up<;>cases fx<;>simp at h
theorem fits3 {l:LPx} {a b c:Nat} (h:fitsX l [(a:Int),(b:Int),(c:Int)]=true):fitsOne l a/\a=b/\a=c:=by
 simp only [fitsX,allIs,List.cons_append,List.nil_append,List.all_cons,List.all_nil,Bool.and_true,Bool.and_eq_true,beq_iff_eq] at h
 unfold fitsOne;omega
theorem bitsLen_any {n:Nat} {w:World} (h:n<=1):Calls Tryz.prog 151 #[.int .u64 (n:Int)] w fun e w'=>(∃ z:Int,e=.returned (.int .i64 z))/\w'=w:=
 (Tryz.bits_Len (n:Int) w Yo Yo).mono fun _ _ ⟨he,hw⟩=>⟨⟨_,he⟩,hw⟩
theorem ins01 {w:World} {A:Option Addr} {n c:Nat} {fv:Value} (h:n<=1):
 Calls Tryz.prog 180 #[.slice A n c,.int .i64 0,.int .i64 (n:Int),fv] w fun e w'=>e=.returned (.tuple #[])/\w'=w:=by
 go_enter Tryz.func180,Tryz.ntmps180
 go_wp2_with fail
 go_loopw [8] (fun z wr=>z=.int .i64 1/\Hid (w=wr)) (fun _ _=>0)
 case atStart=>exact ⟨rfl,rfl⟩
 case round=>
  obtain ⟨rfl,H⟩:=hrel
  obtain rfl:=H.out
  have hn:¬((1:Int)<(n:Int)):=Yo
  go_wp2_with fail
  go_end0
  exact ⟨rfl,rfl⟩
theorem pdq01 {w:World} {A:Option Addr} {n c:Nat} {fv:Value} {z:Int} (h:n<=1):
 Calls Tryz.prog 150 #[.slice A n c,.int .i64 0,.int .i64 (n:Int),.int .i64 z,fv] w fun e w'=>e=.returned (.tuple #[])/\w'=w:=by
 go_enter Tryz.func150,Tryz.ntmps150
 go_wp2_with fail
 go_loopw [1,2,3] (fun a b d wr=>a=.int .i64 0/\b=.int .i64 (n:Int)/\(∃ z:Int,d=.int .i64 z)/\Hid (w=wr)) (fun _ _ _ _=>0)
 case atStart=>exact ⟨rfl,rfl,⟨_,rfl⟩,rfl⟩
 case round=>
  obtain ⟨rfl,rfl,⟨z,rfl⟩,H⟩:=hrel
  obtain rfl:=H.out
  have hn:(n:Int)<=12:=Yo
  have hn2:(n:Int) - 0=(n:Int):=Yo
  go_wp2_with fail
  refine (ins01 h).mono ?_;rintro e w2 ⟨rfl,rfl⟩
  go_wp2_with fail
  (try simp only [Exit.inBlock,Exit.then]);refine bodyPost_ret (results_none rfl _ _ _) rfl ?_
  exact ⟨rfl,rfl⟩
theorem sort01 {w:World} {A:Option Addr} {n c:Nat} {fv:Value} (h:n<=1):
 Calls Tryz.prog 94 #[.slice A n c,fv] w fun e w'=>e=.returned (.tuple #[])/\w'=w:=by
 have hu:IntKind.u64.wrap (n:Int)=(n:Int):=by rw [IntKind.wrap_u64];omega
 go_enter Tryz.func94,Tryz.ntmps94
 go_wp2_with fail
 refine (bitsLen_any h).mono ?_;rintro e w2 ⟨⟨z,rfl⟩,rfl⟩
 go_wp2_with fail
 refine (pdq01 h).mono ?_;rintro e w2 ⟨rfl,rfl⟩
 go_wp2_with fail
 go_end0
 exact ⟨rfl,rfl⟩
end
end
end Go.Proofs.YtaajajngnmaggaaGreat
