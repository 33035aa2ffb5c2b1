import Derived.Test.YtlblnmmfphiobaaGreatPNA16
set_option maxRecDepth 100000
set_option maxHeartbeats 8000000
set_option linter.unusedVariables false
set_option linter.unusedSimpArgs false
namespace Go.Proofs.YtlblnmmfphiobaaGreat
section
namespace I
section
open Go Go.RowKit Go.Proofs Pl
theorem JG {w0 wr:World} {B:Nat} {ops:Array Oper} {rest:List Oper} {o:Oper} {a:Act} {Q:Exit->Act->World->Prop} {u1:Value} {out:List Int} {c:Int} (hgd:o.guard=none) (s x:Operand)
 (ho:o.op=.call { callee:=.builtin .append,args:=#[s,x],argTypes:=#[79,79] }) (hs:a.eval s=u1) (hx:a.eval x=.slice (some ⟨wr.heap.size,0,none⟩) 1 1)
 (hP:Pi wr B u1 out) (hb:Below B w0 wr) (hB:B<=wr.heap.size) (hl:out.length<=1048576)
 (h:∀ u2 w2,Pi w2 B u2 (out++[c])->Below B w0 w2->wpList Tryz.prog ops Q rest (a.put o.dst u2) w2):wpList Tryz.prog ops Q (o::rest) a (wr.alloc (.cells #[.int .i64 c] 3)):=by
 obtain ⟨i0,hi,hz0,hz1,hz2⟩:=info_parts P1;have hown:Pi (wr.alloc (.cells #[.int .i64 c] 3)) B u1 out:=hP.keep (Ya _ _);have hbw:Below B w0 (wr.alloc (.cells #[.int .i64 c] 3)):=hb.alloc hB _;refine wpList_append_own _ hgd s x 79 ho B 3 i0 (.int .i64 0) 1 8 Tryz.underlying79 hi hz0 hz1 hz2 rfl Yd u1 out.length (ic out) hs hown ⟨wr.heap.size,0,none⟩ 1 1 (ic [c]) hx rfl ?_ Sf (by unfold maxLen;omega) Yo (by rw [World.size_alloc];omega) ?_
 · intro j u hj
   cases j with
   | zero=>
    obtain rfl:Value.int .i64 c=u:=by simpa [ic] using hj
    have e:(⟨wr.heap.size,0,none⟩:Addr).add 0=⟨wr.heap.size,0,none⟩:=by unfold Addr.add;split<;>simp_all
    rw [e,cell_of_row _ wr.heap.size 0 #[.int .i64 c] 3 _ (heap_alloc_new _ _)];rfl
   | succ j=>simp [ic] at hj
 · intro u2 w2 hown2 hg _;refine h u2 w2 ?_ (hbw.grown hg (by rw [World.size_alloc];omega) (fun k hk=>(hown.lt k hk).1));unfold Pi;rw [SI,TM];exact hown2
theorem Tj {w:World} {B0:Nat} {v:Value} {cs:List Int} {x:Int} (h:Pi w B0 v cs) (hB:B0<=w.heap.size) (hr:E9 cs) (hl:cs.length<=1000000):
 Calls Tryz.prog 232 #[v,.int .i64 x] w fun e w'=>∃ u,e=.returned u/\Pi w' B0 u (CH x cs)/\Yg w w':=by
 obtain ⟨A,cap,rfl⟩:=h.shape;obtain ⟨n,hn⟩:∃ n,cs.length=n:=⟨_,rfl⟩;rw [hn] at h hl ⊢;have HS:=Yh3 h hr hn;clear h hr hn;go_enter Tryz.func232,Tryz.ntmps232;go_upto_region 2 with (fail)
 have R0:Hid (Pi (w.alloc (.cells #[] 3)) w.heap.size (.slice (some ⟨w.heap.size,0,none⟩) 0 0) []/\Yg w (w.alloc (.cells #[] 3))):=⟨World.ownsRow_made (base:=w.heap.size) (e:=3) (size:=1) w #[] 0 (TL _) Yd rfl,Ya _ _⟩;generalize w.alloc _=W0 at R0 ⊢;go_wp2_with fail;go_loopw [5,6,7] (fun z1 z2 z3 wr=>∃ (i:Nat) (d:Bool) (out:List Int) (u1:Value),u1=z1/\z2=.bool d/\z3=.int .i64 (i:Int)/\i<=n/\Hid (Pi wr w.heap.size u1 out/\Yg w wr/\No cs x i d out/\out.length<=i+1)) (fun _ _ z3 _=>n - (intOf z3).toNat)
 case atStart=>exact ⟨0,false,[],_,rfl,rfl,rfl,Un _,R0.p0,R0.q1,.inl ⟨rfl,by simp,by simp⟩,by simp⟩
 case round=>
  clear R0;obtain ⟨i,d,out,u1,rfl,rfl,rfl,hi,H⟩:=hrel;by_cases hlt:i<n
  · have hic:i<cs.length:=by rw [HS.q2];exact hlt
    obtain ⟨c,hc⟩:∃ c,cs[i]?=some c:=⟨_,List.getElem?_eq_getElem hic⟩;obtain ⟨g,cap',e,-,-,hcell⟩:=(HS.p0.keep H.p1).at_ hc;injection e with e1 e2 e3
    subst e1;have d0:(i:Int)<(n:Int):=Yo;have HC:=Lib.hid hc;clear hc hic e2 e3;by_cases hcx:c=x
    · have e1:(c==x)=true:=by rw [hcx];exact beq_self_eq_true _
      have hm:CH x cs=cs:=NG HS.p1 (by rw [<- hcx];exact TO HC.out);have HM:=Lib.hid hm;clear hcx hm;go_wp2_with fail;go_ret;rw [HM.out];exact ⟨_,rfl,HS.p0.keep H.p1,H.p1⟩
    · have e1:(c==x)=false:=beq_eq_false_iff_ne.2 hcx;obtain ⟨st1,st2⟩:=My H.p2 HC.out hcx;clear hcx;have hol:out.length<=1000001:=by have:=H.q3;omega
      cases d with
      | true=>
       have hst:=Lib.hid (st2 (by simp));clear st1 st2;go_wp2_with (at_builtin;refine JG rfl (.tmp 36) (.tmp 41) rfl rfl rfl H.p0 H.p1 H.p1.size Yo ?_;intro u2 w2 k1 k2);have K:=Yh4 k1 k2 hst.out (show (out++[c]).length<=i+1+1 by rw [TM];have:=H.q3;simp;omega);clear k1 k2;go_wp2_with fail
       case roundEnd=>exact ⟨⟨i+1,true,_,u2,rfl,rfl,by go_num,Yo,K.out⟩,by simp [intOf];omega⟩
      | false=>
       by_cases hx:x<c
       · have hst:=Lib.hid (st1 ⟨rfl,hx⟩);have d1:x<c:=hx;clear st1 st2 hx
         have hof:Hid (out.length<=i):=by
          rcases H.p2 with ⟨-,h,-⟩ | ⟨h,-⟩
          · show out.length<=i;rw [h,TU];omega
          · cases h
         go_upto_region 10 with (at_builtin;refine JG rfl (.tmp 32) (.tmp 34) rfl rfl rfl H.p0 H.p1 H.p1.size Yo ?_;intro u2 w2 k1 k2)
         have K:=Yh2 k1 k2
         have hcell2:w2.cell? ⟨g,i,none⟩=some (.int .i64 c):=by
          obtain ⟨g2,cap2,e,-,-,h⟩:=(HS.p0.keep K.q1).at_ HC.out;injection e with e1 e2 e3
          injection e1 with e1
          injection e1 with e1
          rw [e1];exact h
         clear k1 k2 hcell;go_wp2_with (at_builtin;refine JG rfl (.tmp 36) (.tmp 41) rfl rfl rfl K.p0 K.q1 K.q1.size (by rw [TM];simp;omega) ?_;intro u3 w3 k3 k4);have K2:=Yh4 k3 k4 hst.out (show (out++[x]++[c]).length<=i+1+1 by rw [TM,TM];have:=hof.out;simp;omega);clear k3 k4;go_wp2_with fail
         case roundEnd=>exact ⟨⟨i+1,true,_,u3,rfl,rfl,by go_num,Yo,K2.out⟩,by simp [intOf];omega⟩
       · have hst:=Lib.hid (st2 (fun h=>hx h.2));have d1:¬ x<c:=hx;clear st1 st2 hx;go_wp2_with (at_builtin;refine JG rfl (.tmp 36) (.tmp 41) rfl rfl rfl H.p0 H.p1 H.p1.size Yo ?_;intro u2 w2 k1 k2);have K:=Yh4 k1 k2 hst.out (show (out++[c]).length<=i+1+1 by rw [TM];have:=H.q3;simp;omega);clear k1 k2;go_wp2_with fail
         case roundEnd=>exact ⟨⟨i+1,false,_,u2,rfl,rfl,by go_num,Yo,K.out⟩,by simp [intOf];omega⟩
  · have d0:¬ (i:Int)<(n:Int):=by omega
    have hin:i=cs.length:=by have:=HS.q2;omega
    have hend:=Pw (hin ▸ H.p2);have hol:out.length<=1000001:=by have:=H.q3;omega
    clear hin
    cases d with
    | true=>
     have HE:=Lib.hid (hend.2 rfl);clear hend;go_wp2_with fail;go_ret;refine ⟨_,rfl,?_,H.p1⟩;rw [<- HE.out];exact CN H.p0 hB
    | false=>
     have HE:=Lib.hid (hend.1 rfl);clear hend;go_wp2_with (at_builtin;refine JG rfl (.tmp 45) (.tmp 47) rfl rfl rfl H.p0 H.p1 H.p1.size Yo ?_;intro u2 w2 k1 k2);have K:=Yh2 k1 k2;clear k1 k2;go_wp2_with fail;go_ret;refine ⟨_,rfl,?_,K.q1⟩;rw [<- HE.out];exact CN K.p0 hB
end
end I
end
section
namespace I
section
open Go Go.RowKit Go.Proofs Pl
def AK (l:Tms):List Int:=l.foldl (fun acc t=>if 0<=t.1 then CH t.1 acc else acc) []
theorem Db (l:Tms) (t:Int × Rat):AK (l++[t])=if 0<=t.1 then CH t.1 (AK l) else AK l:=by
 unfold AK;rw [List.foldl_append];rfl
theorem JN {l:Tms} {k:Nat} {t:Int × Rat} (h:l[k]?=some t):AK (l.take (k+1))=if 0<=t.1 then CH t.1 (AK (l.take k)) else AK (l.take k):=by
 obtain ⟨hk,rfl⟩:=List.getElem?_eq_some_iff.1 h;rw [Uc hk,Db]
theorem ED {P:Tms->Prop} (h0:P []) (h1:∀ l t,P l->P (l++[t])):∀ l,P l:=by
 intro l
 have:∀ n (l:Tms),l.length=n->P l:=by
  intro n
  induction n with
  | zero=>intro l hl;rw [TN hl];exact h0
  | succ n ih=>
   intro l hl
   rcases List.eq_nil_or_concat l with h | ⟨m,t,h⟩
   · rw [h] at hl;simp at hl
   · have e:l=m++[t]:=by simpa using h
     rw [e];refine h1 m t (ih m ?_);rw [e] at hl;simp at hl;exact hl
 exact this l.length l rfl
theorem F0 (l:Tms):E9 (AK l):=by
 refine ED (P:=fun l=>E9 (AK l)) List.Pairwise.nil (fun l t h=>?_) l;show E9 (AK (l++[t]));rw [Db]
 split
 · exact M8 h
 · exact h
theorem GF (l:Tms):(AK l).length<=l.length:=by
 refine ED (P:=fun l=>(AK l).length<=l.length) (TL _) (fun l t h=>?_) l;show (AK (l++[t])).length<=_;rw [Db,TM];have:=OV t.1 (AK l)
 split<;>simp<;>omega
theorem GJ (l:Tms):∀ c,c∈AK l↔0<=c/\∃ t∈l,t.1=c:=by
 refine ED (P:=fun l=>∀ c,c∈AK l↔0<=c/\∃ t∈l,t.1=c) (by simp [AK]) (fun l t h=>?_) l;intro c;show c∈AK (l++[t])↔_;rw [Db];by_cases ht:0<=t.1
 · rw [if_pos ht,J1,h c];constructor
   · rintro (h | ⟨h1,u,h2,h3⟩)
     · exact ⟨Yo,t,by simp,h.symm⟩
     · exact ⟨h1,u,by simp [h2],h3⟩
   · rintro ⟨h1,u,h2,h3⟩
     rcases Uw.1 h2 with h2 | h2
     · exact .inr ⟨h1,u,h2,h3⟩
     · rw [Uj.1 h2] at h3;exact .inl h3.symm
 · rw [if_neg ht,h c];constructor
   · rintro ⟨h1,u,h2,h3⟩;exact ⟨h1,u,by simp [h2],h3⟩
   · rintro ⟨h1,u,h2,h3⟩
     rcases Uw.1 h2 with h2 | h2
     · exact ⟨h1,u,h2,h3⟩
     · rw [Uj.1 h2] at h3;omega
theorem Py {w:World} {L:Nat} {v:Value} {l:Tms} (hv:Vt w L v l) (hn:l.length<=4096):
 Calls Tryz.prog 199 #[v] w fun e w'=>∃ u,e=.returned u/\Pi w' w.heap.size u (AK l)/\Yg w w':=by
 obtain ⟨xs,⟨A,cap,rfl,h1,h2,h3,h4,h5⟩,rfl⟩:=hv;obtain ⟨n,hnn⟩:∃ n,xs.length=n:=⟨_,rfl⟩;have hl:n<=4096:=by rw [<- hnn];simpa using hn
 have HL:=Yh2 h4 hnn;rw [hnn];clear h5 h4 h1 h2 h3 hn hnn;go_enter Tryz.func199,Tryz.ntmps199;go_upto_region 2 with (fail)
 have R0:Hid (Pi (w.alloc (.cells #[] 3)) w.heap.size (.slice (some ⟨w.heap.size,0,none⟩) 0 0) []/\Yg w (w.alloc (.cells #[] 3))):=⟨World.ownsRow_made (base:=w.heap.size) (e:=3) (size:=1) w #[] 0 (TL _) Yd rfl,Ya _ _⟩;generalize w.alloc _=W0 at R0 ⊢;go_wp2_with fail;go_loopw [3,4] (fun z1 z2 wr=>∃ (k:Nat) (u1:Value),u1=z1/\z2=.int .i64 (k:Int)/\k<=n/\Hid (Pi wr w.heap.size u1 (AK ((xs.map Tm.t).take k))/\Yg w wr)) (fun _ z2 _=>n - (intOf z2).toNat)
 case atStart=>exact ⟨0,_,rfl,rfl,Un _,R0.out⟩
 case round=>
  clear R0;obtain ⟨k,u1,rfl,rfl,hk,H⟩:=hrel;by_cases hlt:k<n
  · have hkx:k<xs.length:=by rw [HL.q1];exact hlt
    obtain ⟨x,hx⟩:∃ x,xs[k]?=some x:=⟨_,List.getElem?_eq_getElem hkx⟩;obtain ⟨g,off,rfl,hgl,c0,c1,c2,c3⟩:=(HL.p0.keep H.q1).at_ hx;have hs:AK ((xs.map Tm.t).take (k+1))=if 0<=x.c then CH x.c (AK ((xs.map Tm.t).take k)) else AK ((xs.map Tm.t).take k):=JN (l:=xs.map Tm.t) (k:=k) (t:=x.t) (by rw [List.getElem?_map,hx];rfl)
    have d0:(k:Int)<(n:Int):=Yo;clear hx hgl hkx;by_cases h0:0<=x.c
    · rw [if_pos h0] at hs;have HS:=Lib.hid hs;have e1:decide ((0:Int)<=x.c)=true:=decide_eq_true h0;clear hs;go_wp2_with fail;refine (Tj H.p0 H.q1.size (F0 _) (by have:=GF ((xs.map Tm.t).take k);rw [TU] at this;omega)).mono ?_;rintro e w2 ⟨u2,rfl,g1,g2⟩;have K:Hid (Pi w2 w.heap.size u2 (AK ((xs.map Tm.t).take (k+1)))/\Yg w w2):=⟨by rw [HS.out];exact g1,Yb H.q1 g2⟩;clear g1 g2;go_wp2_with fail
      case roundEnd=>exact ⟨⟨k+1,u2,rfl,by go_num,Yo,K.out⟩,by simp [intOf];omega⟩
    · rw [if_neg h0] at hs;have HS:Hid (Pi wr w.heap.size u1 (AK ((xs.map Tm.t).take (k+1)))/\Yg w wr):=⟨by rw [hs];exact H.p0,H.q1⟩;have e1:decide ((0:Int)<=x.c)=false:=decide_eq_false h0;clear hs;go_wp2_with fail
      case roundEnd=>exact ⟨⟨k+1,u1,rfl,by go_num,Yo,HS.out⟩,by simp [intOf];omega⟩
  · have d0:¬ (k:Int)<(n:Int):=by omega
    have hf:Hid (Pi wr w.heap.size u1 (AK (xs.map Tm.t))/\Yg w wr):=by
     have h:=H.out;rw [Ud (by rw [Uz,HL.q1];omega)] at h;exact h
    go_wp2_with fail;go_ret;exact ⟨_,rfl,hf.out⟩
def mkR (l:Tms):Tms:=((AK l).filter fun c=>decide (Bh l c≠0)).map fun c=>(c,Bh l c)
theorem Nt (f:Int->Rat):∀ (cs:List Int) (c:Int),E9 cs->AF (cs.map fun a=>(a,f a)) c=if c∈cs then f c else 0:=by
 intro cs c hr
 induction cs with
 | nil=>simp [AF]
 | cons a cs ih=>
  have ha:∀ b∈cs,a<b:=fun b hb=>UZ hr hb;show (if a=c then f a else 0)+AF (cs.map fun a=>(a,f a)) c=_;rw [ih (List.Pairwise.tail hr)];by_cases h:a=c
  · subst h;have:a ∉ cs:=fun h=>by have:=ha a h;omega
    rw [if_pos rfl,if_neg this,VN,if_pos (by simp)]
  · rw [if_neg h,Vn];by_cases h2:c∈cs
    · rw [if_pos h2,if_pos (by simp [h2])]
    · rw [if_neg h2,if_neg (by simp [h2,Ne.symm h])]
theorem SF (l:Tms):mkR l=mkV l:=by
 have hr:E9 ((AK l).filter fun c=>decide (Bh l c≠0)):=List.Pairwise.filter _ (F0 l);refine PB ⟨?_,?_,?_⟩ fun c hc=>?_
 · unfold mkR;rw [List.pairwise_map];exact hr
 · intro t ht;obtain ⟨c,hc,rfl⟩:=UP.1 ht;exact ((GJ l c).1 (VS.1 hc).1).1
 · intro t ht;obtain ⟨c,hc,rfl⟩:=UP.1 ht;exact of_decide_eq_true (VS.1 hc).2
 · unfold mkR;rw [Nt (fun c=>Bh l c) _ _ hr];have hg:Bh l c=AF l c:=if_pos hc;by_cases h:c∈(AK l).filter fun c=>decide (Bh l c≠0)
   · rw [if_pos h,hg]
   · rw [if_neg h];by_cases h2:c∈AK l
     · have h3:Bh l c=0:=by
        by_cases h3:Bh l c=0
        · exact h3
        · exact absurd (VS.2 ⟨h2,decide_eq_true h3⟩) h
       rw [<- hg,h3]
     · refine (DD fun t ht e=>h2 ((GJ l c).2 ⟨hc,t,ht,e⟩)).symm
end
end I
end
section
open Go Go.RowKit Go.Proofs Pl
def Ca {α:Type} (f:α->List Value) (xs:List α):List Value:=xs.flatMap f
section
variable {α β:Type} {f:α->List Value} {xs ys:List α} {x:α} {s i j n:Nat} {w w':World} {B:Nat} {T:TypeId} {v u:Value}
theorem GH:Ca f (xs++ys)=Ca f xs++Ca f ys:=List.flatMap_append
theorem Ig:Ca f [x]=f x:=by simp [Ca]
theorem Dx (hf:∀ x,(f x).length=s) (xs:List α):(Ca f xs).length=xs.length*s:=by
 induction xs with
 | nil=>simp [Ca]
 | cons x xs ih=>
  show (f x++Ca f xs).length=_;rw [TM,hf,ih,U7,Vz];omega
theorem I4 (hf:∀ x,(f x).length=s) (h:xs[i]?=some x) (hj:(f x)[j]?=some u):(Ca f xs)[i*s+j]?=some u:=by
 induction xs generalizing i with
 | nil=>simp at h
 | cons y xs ih=>
  show (f y++Ca f xs)[i*s+j]?=_
  cases i with
  | zero=>
   obtain rfl:y=x:=by simpa using h
   have hl:=(List.getElem?_eq_some_iff.1 hj).1;rw [Wk,Vw,List.getElem?_append_left hl];exact hj
  | succ i=>
   rw [Vz,List.getElem?_append_right (by rw [hf];omega),hf,show i*s+s+j - s=i*s+j by omega];exact ih (by simpa using h)
theorem If (h1:∀ x,∀ u∈f x,u.oneCell'=true):∀ u∈Ca f xs,u.oneCell'=true:=fun u hu=>by
 obtain ⟨x,hx,hu⟩:=List.mem_flatMap.1 hu;exact h1 x u hu
def Rr (w:World) (B:Nat) (T:TypeId) (s:Nat) (f:α->List Value) (v:Value) (xs:List α):Prop:=w.ownsRow B T s v xs.length (Ca f xs)
def Rv (w:World) (f:α->List Value) (v:Value) (xs:List α):Prop:=∃ A cap,v=.slice A xs.length cap/\xs.length<=cap/\cap<=maxLen/\(A=none->cap=0)/\TRd w A (Ca f xs)
theorem Rr.keep (h:Rr w B T s f v xs) (hb:Below w.heap.size w w'):Rr w' B T s f v xs:=AQ h (Ak.below hb)
theorem Rr.keepT (h:Rr w B T s f v xs) (k:Ak T w w'):Rr w' B T s f v xs:=AQ h k
theorem Rr.mono {B1:Nat} (h:Rr w B T s f v xs) (hB:B1<=B):Rr w B1 T s f v xs:=CN h hB
theorem Rr.nil (w:World) (B:Nat) (T:TypeId) (s:Nat) (f:α->List Value):Rr w B T s f (.slice none 0 0) []:=World.ownsRow_nil _ _ _ _
theorem Rr.shape (h:Rr w B T s f v xs):∃ A cap,v=.slice A xs.length cap/\xs.length<=maxLen:=Fh h
theorem Rr.rv (h:Rr w B T s f v xs):Rv w f v xs:=by
 rcases TQ xs.length with h0 | h0
 · obtain rfl:=TN h0
   rcases h.2 with ⟨hv,-⟩ | ⟨g,cap,cur,hv,hb,hh,h1,h2,h3,h4⟩
   · exact ⟨none,0,hv,TL _,Un _,fun _=>rfl,.inl rfl⟩
   · exact ⟨_,cap,hv,Yo,h2,by simp,.inl rfl⟩
 · obtain ⟨g,cap,e,h1,h2,h3,h4,h5,h6⟩:=CG h h0;exact ⟨_,cap,e,h2,h3,by simp,.inr ⟨g,0,rfl,h4,fun i u hi=>by rw [Vw];exact h5 i u hi⟩⟩
theorem Rv.keep (h:Rv w f v xs) (hb:Below w.heap.size w w'):Rv w' f v xs:=by
 obtain ⟨A,cap,e,h1,h2,h3,h4⟩:=h;exact ⟨A,cap,e,h1,h2,h3,h4.keep hb⟩
theorem Rv.at_ (hs:0<s) (hf:∀ x,(f x).length=s) (h:Rv w f v xs) (hi:xs[i]?=some x):∃ g o cap,v=.slice (some ⟨g,o,none⟩) xs.length cap/\xs.length<=cap/\g<w.heap.size/\∀ j u,(f x)[j]?=some u->w.cell? ⟨g,o+(i*s+j),none⟩=some u:=by
 obtain ⟨A,cap,e,h1,h2,h3,h4⟩:=h
 rcases h4 with h4 | ⟨g,o,rfl,hg,hc⟩
 · exfalso;have hl:=(List.getElem?_eq_some_iff.1 hi).1;have e:=Dx hf xs;rw [h4] at e;have:=UN (show 1<=xs.length by omega) (show 1<=s from hs);simp at e;omega
 · exact ⟨g,o,cap,e,h1,hg,fun j u hj=>hc _ _ (I4 hf hi hj)⟩
def Bl (w:World) (T:TypeId) (g:Nat) (us:List Value):Prop:=w.heap[g]?=some (.cells us.toArray T (0,0))
theorem Bl.cell {g:Nat} {us:List Value} (h:Bl w T g us) (hj:us[j]?=some u):w.cell? ((⟨g,0,none⟩:Addr).add j)=some u:=by
 have e:(⟨g,0,none⟩:Addr).add j=⟨g,j,none⟩:=by unfold Addr.add;split<;>simp_all
 have h':w.heap[g]?=_:=h;rw [e];simp [World.cell?,h',hj]
theorem FC {S:TypeId} {bytes:Nat} {z:Value} (hS:Tryz.prog.underlying S=some (.slice T)) (hI:(Tryz.prog.info? T).map (fun i=>(i.zero,i.size,i.bytes))=some (some z,s,bytes))
 (hby:0<s/\z.cells.size=s/\bytes<=128) (hf:∀ x,(f x).length=s) (hf1:∀ x,∀ u∈f x,u.oneCell'=true) {o:Oper} {a:Act} {K:Act->World->Prop} {Q:Exit->Act->World->Prop} (sO xO:Operand)
 (ho:o.op=.call { callee:=.builtin .append,args:=#[sO,xO],argTypes:=#[S,S] }) {w0:World} {gn:Nat} (hs:a.eval sO=v) (hx:a.eval xO=.slice (some ⟨gn,0,none⟩) 1 1)
 (hown:Rr w w0.heap.size T s f v xs) (hn:Bl w T gn (f x)) (hl:xs.length<=1048576) (hb:Yg w0 w)
 (h:∀ v' w',Rr w' w0.heap.size T s f v' (xs++[x])->Yg w0 w'->(∀ T',T≠T'->Ak T' w w')->(∀ g,g<w.heap.size->v.ownBlock≠some g->w'.heap[g]?=w.heap[g]?)->K (a.put o.dst v') w'):o.wp Tryz.prog a w K Q:=by
 obtain ⟨i0,hi0,hz0,hz1,hz2⟩:=info_parts hI;refine wp_append_own _ sO xO S ho w0.heap.size T i0 z s bytes hS hi0 hz0 hz1 hz2 hby.2.1 hby.1 v xs.length (Ca f xs) hs hown ⟨gn,0,none⟩ 1 1 (f x) hx (by rw [hf];omega) (fun j u hj=>hn.cell hj) (hf1 x) (by unfold maxLen;omega) ?_ hb.size ?_
 · have:=UN (show xs.length+1<=1048577 by omega) hby.2.2;omega
 · intro v' w' h1 h2 _;refine h v' w' ?_ (hb.grown h2 hb.size (fun k hk=>(hown.lt k hk).1)) (fun T' hT=>BX hown h2 hT) (fun g hg hne=>h2.block g hg (fun e=>hne e.symm));unfold Rr;rw [GH,Ig,TM];exact h1
theorem IA {S:TypeId} {bytes:Nat} {z:Value} (hS:Tryz.prog.underlying S=some (.slice T)) (hI:(Tryz.prog.info? T).map (fun i=>(i.zero,i.size,i.bytes))=some (some z,s,bytes))
 (hby:0<s/\z.cells.size=s/\bytes<=128) (hf:∀ x,(f x).length=s) (hf1:∀ x,∀ u∈f x,u.oneCell'=true) {ops:Array Oper} {rest:List Oper} {o:Oper} {a:Act} {Q:Exit->Act->World->Prop} (hgd:o.guard=none) (sO xO:Operand)
 (ho:o.op=.call { callee:=.builtin .append,args:=#[sO,xO],argTypes:=#[S,S] }) {w0:World} {gn:Nat} (hs:a.eval sO=v) (hx:a.eval xO=.slice (some ⟨gn,0,none⟩) 1 1)
 (hown:Rr w w0.heap.size T s f v xs) (hn:Bl w T gn (f x)) (hl:xs.length<=1048576) (hb:Yg w0 w)
 (h:∀ v' w',Rr w' w0.heap.size T s f v' (xs++[x])->Yg w0 w'->(∀ T',T≠T'->Ak T' w w')->(∀ g,g<w.heap.size->v.ownBlock≠some g->w'.heap[g]?=w.heap[g]?)->wpList Tryz.prog ops Q rest (a.put o.dst v') w'):wpList Tryz.prog ops Q (o::rest) a w:=
 wpList_plain hgd fun _ hK=>FC hS hI hby hf hf1 sO xO ho hs hx hown hn hl hb fun v' w' h1 h2 h3 h4=>hK _ _ (h v' w' h1 h2 h3 h4)
theorem Bl.new (w:World) (T:TypeId) (us:List Value):Bl (w.alloc (.cells us.toArray T)) T w.heap.size us:=World.alloc_heap_new w _
theorem Bl.keep {g:Nat} {us:List Value} (h:Bl w T g us) (hb:Below w.heap.size w w'):Bl w' T g us:=(hb.block g (CK h)).trans h
end
def Bd {α β:Type} (P:α->β->Prop) (xs:List α) (ys:List β):Prop:=xs.length=ys.length/\∀ (i:Nat) (x:α) (y:β),xs[i]?=some x->ys[i]?=some y->P x y
section
variable {α β:Type} {P P':α->β->Prop} {xs xs':List α} {ys ys':List β} {x:α} {y:β} {i:Nat}
theorem Bd.nil:Bd P [] []:=⟨rfl,fun i x y h=>by simp at h⟩
theorem Bd.imp (h:Bd P xs ys) (hP:∀ x y,P x y->P' x y):Bd P' xs ys:=⟨h.1,fun i x y hx hy=>hP x y (h.2 i x y hx hy)⟩
theorem Bd.app (h:Bd P xs ys) (h':P x y):Bd P (xs++[x]) (ys++[y]):=by
 refine ⟨by rw [TM,TM,h.1];rfl,fun i a b ha hb=>?_⟩;by_cases hi:i<xs.length
 · rw [List.getElem?_append_left hi] at ha;rw [List.getElem?_append_left (by rw [<- h.1];exact hi)] at hb;exact h.2 i a b ha hb
 · rw [List.getElem?_append_right (by omega)] at ha;rw [List.getElem?_append_right (by rw [<- h.1];omega),<- h.1] at hb
   have h0:i - xs.length=0:=by
    have:=(List.getElem?_eq_some_iff.1 ha).1;simp at this;omega
   rw [h0] at ha hb;simp at ha hb;subst ha;subst hb;exact h'
theorem Bd.left (h:Bd P xs ys) (hy:ys[i]?=some y):∃ x,xs[i]?=some x/\P x y:=by
 have hl:i<xs.length:=by rw [h.1];exact (List.getElem?_eq_some_iff.1 hy).1
 exact ⟨_,List.getElem?_eq_getElem hl,h.2 i _ y (List.getElem?_eq_getElem hl) hy⟩
theorem Bd.right (h:Bd P xs ys) (hx:xs[i]?=some x):∃ y,ys[i]?=some y/\P x y:=by
 have hl:i<ys.length:=by rw [<- h.1];exact (List.getElem?_eq_some_iff.1 hx).1
 exact ⟨_,List.getElem?_eq_getElem hl,h.2 i x _ hx (List.getElem?_eq_getElem hl)⟩
end
structure Fx where
 b:Bool
 xs:List Nat
 ds:List Nat
deriving DecidableEq
def Fx.q (f:Fx):Rat:=rv f.b f.xs f.ds
def Fv (w:World) (v:Value) (f:Fx):Prop:=Ql w v f.b f.xs f.ds
def Fw (w w':World) (v:Value) (f:Fx):Prop:=(∃ s d,v=.agg #[.bool f.b,s,d]/\Ow w' w.heap.size s f.xs/\Ow w' w.heap.size d f.ds)/\Yg w w'
def fq (q:Rat):Fx:=⟨decide (q.num<0),dg WB q.num.natAbs,dg WB q.den⟩
theorem Ha (q:Rat):(fq q).q=q:=by
 show rv (decide (q.num<0)) (dg WB q.num.natAbs) (dg WB q.den)=q;unfold rv;rw [AR Aw,AR Aw,EZ,LP,Wi]
section
variable {w w' W:World} {v:Value} {f:Fx} {q:Rat} {L:Nat}
theorem Fv.keep (h:Fv w v f) (hb:Below w.heap.size w w'):Fv w' v f:=Ql.keep h hb
theorem Fv.qv (h:Fv w v f) (hx:f.xs.length<=L) (hd:f.ds.length<=L):Qv w L v f.q:=Ql.qv h hx hd
theorem Fv.parts (h:Fv w v f):∃ A l c B k d,v=.agg #[.bool f.b,.slice A l c,.slice B k d]:=by
 obtain ⟨s,d,rfl,h1,h2⟩:=h;obtain ⟨A,c,rfl,-⟩:=h1.shape;obtain ⟨B,k,rfl,-⟩:=h2.shape;exact ⟨A,_,c,B,_,k,rfl⟩
theorem Fw.below (h:Fw w w' v f):Below w.heap.size w w':=h.2
theorem Fw.fv (h:Fw w w' v f):Fv w' v f:=by
 obtain ⟨⟨s,d,e,h1,h2⟩,-⟩:=h;exact ⟨s,d,e,h1.nl,h2.nl⟩
theorem Fw.keep (h:Fw w w' v f) (hb:Below w'.heap.size w' W):Fw w W v f:=by
 obtain ⟨⟨s,d,e,h1,h2⟩,h3⟩:=h;exact ⟨⟨s,d,e,h1.keep hb,h2.keep hb⟩,Yb h3 hb⟩
theorem Fw.keepT (h:Fw w w' v f) (k:Ak 146 w' W) (hb:Below w.heap.size w W):Fw w W v f:=by
 obtain ⟨⟨s,d,e,h1,h2⟩,h3⟩:=h;exact ⟨⟨s,d,e,⟨h1.1,AQ h1.2 k⟩,⟨h2.1,AQ h2.2 k⟩⟩,hb⟩
theorem Fw.from (h:Fw w' W v f) (hb:Below w.heap.size w w'):Fw w W v f:=by
 obtain ⟨⟨s,d,e,h1,h2⟩,h3⟩:=h;exact ⟨⟨s,d,e,⟨h1.1,CN h1.2 hb.size⟩,⟨h2.1,CN h2.2 hb.size⟩⟩,Yb hb h3⟩
theorem Qr.fw (h:Qr w w' v q):Fw w w' v (fq q):=by
 obtain ⟨s,d,e,h1,h2⟩:=h;exact ⟨⟨s,d,e,h1.1,h2.1⟩,h1.2⟩
end
theorem Qw {w:World} {a c:Value} {b b':Bool} {xs ys:List Nat} (ha:Zl w a b xs) (hc:Zl w c b' ys):
 Calls Tryz.prog 154 #[a,c] w fun e w'=>e=.returned (.bool (decide (b=b'/\xs=ys)))/\Yg w w':=by
 obtain ⟨s,rfl,hs⟩:=ha;obtain ⟨t,rfl,ht⟩:=hc;have hsm:=fun W (hb:Yg w W)=>Lk (hs.keep hb) (ht.keep hb);have HS:=Lib.hid hsm;clear hsm hs ht;by_cases hbb:b=b'
 · have e1:(b==b')=true:=by rw [hbb];cases b'<;>rfl
   have e2:decide (b=b'/\xs=ys)=decide (xs=ys):=by simp [hbb]
   rw [e2];clear hbb e2;go_enter Tryz.func154,Tryz.ntmps154;go_wp2_with fail;refine (HS.out _ (by go_grown)).mono ?_;rintro e w1 ⟨rfl,hb1⟩;have HB:=Lib.hid (Yb (Yb (Ya w _) (Ya _ _)) hb1);clear hb1;go_wp2_with fail;go_ret;exact ⟨rfl,HB.out⟩
 · have e1:(b==b')=false:=by cases b<;>cases b'<;>simp_all
   have e2:decide (b=b'/\xs=ys)=false:=by simp [hbb]
   rw [e2];clear hbb e2;go_enter Tryz.func154,Tryz.ntmps154;go_wp2_with fail;go_ret;exact ⟨rfl,Yb (Ya w _) (Ya _ _)⟩
theorem C6 {w:World} {a c:Value} {f g:Fx} (ha:Fv w a f) (hc:Fv w c g):
 Calls Tryz.prog 65 #[a,c] w fun e w'=>e=.returned (.bool (decide (f=g)))/\Yg w w':=by
 obtain ⟨s,d,rfl,hs,hd⟩:=ha;obtain ⟨t,u,rfl,ht,hu⟩:=hc;obtain ⟨b,xs,ds⟩:=f;obtain ⟨b',ys,es⟩:=g
 have hfg:decide ((⟨b,xs,ds⟩:Fx)=⟨b',ys,es⟩)=(decide (b=b'/\xs=ys) && decide (ds=es)):=by
  rw [<- Bool.decide_and];congr 1;simp [and_assoc]
 rw [hfg];have HD:=Lib.hid (show ds=ds from rfl);have S0:=Yh5 ((show Zl w (.agg #[.bool b,s]) b xs from ⟨s,rfl,hs⟩)) ((show Zl w (.agg #[.bool b',t]) b' ys from ⟨t,rfl,ht⟩)) hd hu (Below.refl w.heap.size w);clear hs hd ht hu hfg;dsimp only at S0 ⊢;go_enter Tryz.func65,Tryz.ntmps65;go_upto_region 1 with (fail)
 have hb:=Yb (Ya w (.cells #[.bool b,s,d] 36)) (Ya _ (.cells #[.bool b',t,u] 36));have hX0:=(B3.new 36 w  (.bool b) s d).alloc (.cells #[.bool b',t,u] 36);have hX1:=B3.new1 36 w (.cells #[.bool b,s,d] 36) (.bool b') t u;have S1:=Yh7 (S0.p0.keep hb) (S0.p1.keep hb) (S0.p2.keep hb) (S0.p3.keep hb) hX0 hX1 (Yb S0.q4 hb);clear hb hX0 hX1 S0;generalize ((w.alloc _).alloc _)=W0 at S1 ⊢;obtain ⟨xa,xb,xc,-,-,-⟩:=S1.p4.facts;obtain ⟨ya,yb,yc,-,-,-⟩:=S1.p5.facts;go_wp2_with fail;refine (Qw S1.p0 S1.p1).mono ?_;rintro e w2 ⟨rfl,hb⟩;have S2:=Yh5 (S1.p2.keep hb) (S1.p3.keep hb) (S1.p4.keep hb) (S1.p5.keep hb) (Yb S1.q6 hb);clear hb xa xb xc ya yb yc S1;obtain ⟨xa,xb,xc,-,-,-⟩:=S2.p2.facts;obtain ⟨ya,yb,yc,-,-,-⟩:=S2.p3.facts;obtain ⟨r,hr⟩:∃ r,r=decide (b=b'/\xs=ys):=⟨_,rfl⟩;rw [<- hr];have HR:=Lib.hid hr;clear hr
 cases r with
 | true=>
  go_wp2_with fail;refine (Lk S2.p0 S2.p1).mono ?_;rintro e w3 ⟨rfl,hb⟩;have S3:=Lib.hid (Yb S2.q4 hb);clear hb xa xb xc ya yb yc S2;go_wp2_with fail;go_ret;exact ⟨by rw [<- HR.out];rfl,S3.out⟩
 | false=>
  have S3:=Lib.hid S2.q4;go_wp2_with fail;go_ret;exact ⟨by rw [<- HR.out];rfl,S3.out⟩
structure Rm where
 b:Bool
 A:Option Addr
 l:Nat
 k:Nat
 B:Option Addr
 m:Nat
 d:Nat
def Rm.cs (x:Rm):List Value:=[.bool x.b,.slice x.A x.l x.k,.slice x.B x.m x.d]
def Rm.num (x:Rm):Value:=.agg #[.bool x.b,.slice x.A x.l x.k,.slice x.B x.m x.d]
theorem Rm.len (x:Rm):x.cs.length=3:=rfl
theorem Rm.one (x:Rm):∀ u∈x.cs,u.oneCell'=true:=fun u hu=>by
 simp only [Rm.cs,Ue,Vj,or_false] at hu
 rcases hu with rfl | rfl | rfl<;>rfl
def Tm.cs (x:Tm):List Value:=[.int .i64 x.c,.bool x.b,.slice x.A x.l x.k,.slice x.B x.m x.d]
theorem Tm.len (x:Tm):x.cs.length=4:=rfl
theorem Tm.one (x:Tm):∀ u∈x.cs,u.oneCell'=true:=fun u hu=>by
 simp only [Tm.cs,Ue,Vj,or_false] at hu
 rcases hu with rfl | rfl | rfl | rfl<;>rfl
theorem GR (xs:List Tm):AS xs=Ca Tm.cs xs:=by
 induction xs with
 | nil=>rfl
 | cons x xs ih=>show _::_::_::_::AS xs=Tm.cs x++Ca Tm.cs xs;rw [ih];rfl
theorem G3:(Tryz.prog.info? 36).map (fun i=>(i.zero,i.size,i.bytes))=some (some (.agg #[.bool false,.slice none 0 0,.slice none 0 0]),3,56):=by kernel_rfl
def Rx (w:World) (v:Value) (fs:List Fx):Prop:=∃ xs,Rv w Rm.cs v xs/\Bd (fun x f=>Fv w x.num f) xs fs
def Ro (w0 w:World) (v:Value) (fs:List Fx):Prop:=∃ xs,Rr w w0.heap.size 36 3 Rm.cs v xs/\Bd (fun x f=>Fw w0 w x.num f) xs fs/\Yg w0 w
def Tx (w:World) (v:Value) (ts:List (Int × Fx)):Prop:=∃ xs:List Tm,Rv w Tm.cs v xs/\Bd (fun x t=>x.c=t.1/\x.q=t.2.q/\Fv w x.num t.2) xs ts
def Tw (w0 w:World) (v:Value) (ts:List (Int × Fx)):Prop:=∃ xs:List Tm,Rr w w0.heap.size 63 4 Tm.cs v xs/\Bd (fun x t=>x.c=t.1/\x.q=t.2.q/\Fw w0 w x.num t.2) xs ts/\Yg w0 w
def qT (ts:List (Int × Fx)):Tms:=ts.map fun t=>(t.1,t.2.q)
def fqT (l:Tms):List (Int × Fx):=l.map fun t=>(t.1,fq t.2)
theorem Tn (l:Tms):qT (fqT l)=l:=by
 unfold qT fqT;rw [List.map_map]
 conv=>rhs;rw [<- List.map_id l]
 exact List.map_congr_left fun t _=>by show (t.1,(fq t.2).q)=t;rw [Ha]
section
variable {w w' w0 w1:World} {v:Value} {fs:List Fx} {f:Fx} {ts:List (Int × Fx)} {t:Int × Fx} {i n L:Nat}
theorem Rx.keep (h:Rx w v fs) (hb:Below w.heap.size w w'):Rx w' v fs:=by
 obtain ⟨xs,h1,h2⟩:=h;exact ⟨xs,h1.keep hb,h2.imp fun x f hf=>hf.keep hb⟩
theorem Tx.keep (h:Tx w v ts) (hb:Below w.heap.size w w'):Tx w' v ts:=by
 obtain ⟨xs,h1,h2⟩:=h;exact ⟨xs,h1.keep hb,h2.imp fun x f hf=>⟨hf.1,hf.2.1,hf.2.2.keep hb⟩⟩
theorem Ro.keep (h:Ro w0 w v fs) (hb:Below w.heap.size w w'):Ro w0 w' v fs:=by
 obtain ⟨xs,h1,h2,h3⟩:=h;exact ⟨xs,h1.keep hb,h2.imp fun x f hf=>hf.keep hb,Yb h3 hb⟩
theorem Tw.keep (h:Tw w0 w v ts) (hb:Below w.heap.size w w'):Tw w0 w' v ts:=by
 obtain ⟨xs,h1,h2,h3⟩:=h;exact ⟨xs,h1.keep hb,h2.imp fun x f hf=>⟨hf.1,hf.2.1,hf.2.2.keep hb⟩,Yb h3 hb⟩
theorem Ro.from (h:Ro w1 w v fs) (hb:Below w0.heap.size w0 w1):Ro w0 w v fs:=by
 obtain ⟨xs,h1,h2,h3⟩:=h;exact ⟨xs,h1.mono hb.size,h2.imp fun x f hf=>hf.from hb,Yb hb h3⟩
theorem Tw.from (h:Tw w1 w v ts) (hb:Below w0.heap.size w0 w1):Tw w0 w v ts:=by
 obtain ⟨xs,h1,h2,h3⟩:=h;exact ⟨xs,h1.mono hb.size,h2.imp fun x f hf=>⟨hf.1,hf.2.1,hf.2.2.from hb⟩,Yb hb h3⟩
theorem Ro.below (h:Ro w0 w v fs):Below w0.heap.size w0 w:=by obtain ⟨xs,h1,h2,h3⟩:=h;exact h3
theorem Tw.below (h:Tw w0 w v ts):Below w0.heap.size w0 w:=by obtain ⟨xs,h1,h2,h3⟩:=h;exact h3
theorem Ro.rx (h:Ro w0 w v fs):Rx w v fs:=by
 obtain ⟨xs,h1,h2,h3⟩:=h;exact ⟨xs,h1.rv,h2.imp fun x f hf=>hf.fv⟩
theorem Tw.tx (h:Tw w0 w v ts):Tx w v ts:=by
 obtain ⟨xs,h1,h2,h3⟩:=h;exact ⟨xs,h1.rv,h2.imp fun x f hf=>⟨hf.1,hf.2.1,hf.2.2.fv⟩⟩
theorem Ro.nil (hb:Below w0.heap.size w0 w):Ro w0 w (.slice none 0 0) []:=⟨[],Rr.nil _ _ _ _ _,Bd.nil,hb⟩
theorem Tw.made (w:World):Tw w (w.alloc (.cells #[] 63)) (.slice (some ⟨w.heap.size,0,none⟩) 0 0) []:=
 ⟨[],World.ownsRow_made (base:=w.heap.size) (e:=63) (size:=4) w #[] 0 (TL _) Yd rfl,Bd.nil,Ya _ _⟩
theorem Rx.shape (h:Rx w v fs):∃ A cap,v=.slice A fs.length cap/\fs.length<=cap/\cap<=maxLen:=by
 obtain ⟨xs,⟨A,cap,e,h1,h2,-⟩,hz⟩:=h;exact ⟨A,cap,by rw [<- hz.1];exact e,by rw [<- hz.1];exact h1,h2⟩
theorem Tx.shape (h:Tx w v ts):∃ A cap,v=.slice A ts.length cap/\ts.length<=cap/\cap<=maxLen:=by
 obtain ⟨xs,⟨A,cap,e,h1,h2,-⟩,hz⟩:=h;exact ⟨A,cap,by rw [<- hz.1];exact e,by rw [<- hz.1];exact h1,h2⟩
theorem Ro.shape (h:Ro w0 w v fs):∃ A cap,v=.slice A fs.length cap:=by obtain ⟨A,cap,e,-⟩:=h.rx.shape;exact ⟨A,cap,e⟩
theorem Tw.shape (h:Tw w0 w v ts):∃ A cap,v=.slice A ts.length cap:=by obtain ⟨A,cap,e,-⟩:=h.tx.shape;exact ⟨A,cap,e⟩
theorem Rx.at_ (h:Rx w v fs) (hi:fs[i]?=some f):∃ g o cap,∃ x:Rm,v=.slice (some ⟨g,o,none⟩) fs.length cap/\g<w.heap.size/\Fv w x.num f/\
 w.cell? ⟨g,o+i*3,none⟩=some (.bool x.b)/\w.cell? ⟨g,o+i*3+1,none⟩=some (.slice x.A x.l x.k)/\w.cell? ⟨g,o+i*3+2,none⟩=some (.slice x.B x.m x.d):=by
 obtain ⟨xs,h1,h2⟩:=h;obtain ⟨x,hx,hf⟩:=h2.left hi;obtain ⟨g,o,cap,e,h3,h4,h5⟩:=h1.at_ Yd Rm.len hx;exact ⟨g,o,cap,x,by rw [<- h2.1];exact e,h4,hf,h5 0 _ rfl,h5 1 _ rfl,h5 2 _ rfl⟩
theorem Tx.at_ (h:Tx w v ts) (hi:ts[i]?=some t):∃ g o cap,∃ x:Tm,v=.slice (some ⟨g,o,none⟩) ts.length cap/\g<w.heap.size/\x.c=t.1/\x.q=t.2.q/\Fv w x.num t.2/\
 w.cell? ⟨g,o+i*4,none⟩=some (.int .i64 t.1)/\w.cell? ⟨g,o+i*4+1,none⟩=some (.bool x.b)/\w.cell? ⟨g,o+i*4+2,none⟩=some (.slice x.A x.l x.k)/\w.cell? ⟨g,o+i*4+3,none⟩=some (.slice x.B x.m x.d):=by
 obtain ⟨xs,h1,h2⟩:=h;obtain ⟨x,hx,hc,hq,hf⟩:=h2.left hi;obtain ⟨g,o,cap,e,h3,h4,h5⟩:=h1.at_ Yd Tm.len hx;exact ⟨g,o,cap,x,by rw [<- h2.1];exact e,h4,hc,hq,hf,by rw [<- hc];exact h5 0 _ rfl,h5 1 _ rfl,h5 2 _ rfl,h5 3 _ rfl⟩
theorem Tx.vt (h:Tx w v ts) (hL:∀ t∈ts,t.2.xs.length<=L/\t.2.ds.length<=L):Vt w L v (qT ts):=by
 obtain ⟨xs,⟨A,cap,e,h1,h2,h3,h4⟩,hz⟩:=h;refine ⟨xs,⟨A,cap,e,h1,h2,h3,by rw [GR];exact h4,fun x hx=>?_⟩,?_⟩
 · obtain ⟨i,hi⟩:=List.getElem?_of_mem hx;obtain ⟨t,ht,-,hq,hf⟩:=hz.right hi;obtain ⟨l1,l2⟩:=hL t (TO ht);rw [hq];exact hf.qv l1 l2
 · refine List.ext_getElem? fun i=>?_;unfold qT;rw [List.getElem?_map,List.getElem?_map]
   cases hx:xs[i]? with
   | none=>
    have:ts[i]?=none:=by rw [List.getElem?_eq_none_iff] at hx ⊢;rw [<- hz.1];exact hx
    rw [this];rfl
   | some x=>
    obtain ⟨t,ht,hc,hq,-⟩:=hz.right hx;rw [ht];show some (x.c,x.q)=some (t.1,t.2.q);rw [hc,hq]
theorem Vr.tw {zs:List Tm} {l:Tms} (h:Vr w0 w v zs) (e:zs.map Tm.t=l):Tw w0 w v (fqT l):=by
 subst e;refine ⟨zs,?_,⟨by simp [fqT],fun i x t hx ht=>?_⟩,h.2.2⟩
 · have:=h.1;unfold To at this;rw [GR] at this;exact this
 · unfold fqT at ht;rw [List.getElem?_map,List.getElem?_map,hx] at ht;injection ht with ht
   subst ht;exact ⟨rfl,(Ha _).symm,(h.2.1 x (TO hx)).fw⟩
theorem TI {o:Oper} {a:Act} {K:Act->World->Prop} {Q:Exit->Act->World->Prop} (sO xO:Operand)
 (ho:o.op=.call { callee:=.builtin .append,args:=#[sO,xO],argTypes:=#[24,24] }) {gn:Nat} {x:Rm} (hs:a.eval sO=v) (hx:a.eval xO=.slice (some ⟨gn,0,none⟩) 1 1)
 (h:Ro w0 w v fs) (hf:Fw w0 w x.num f) (hn:Bl w 36 gn x.cs) (hl:fs.length<=1048576)
 (hk:∀ v' w',Ro w0 w' v' (fs++[f])->(∀ T',36≠T'->Ak T' w w')->(∀ g,g<w.heap.size->v.ownBlock≠some g->w'.heap[g]?=w.heap[g]?)->K (a.put o.dst v') w'):o.wp Tryz.prog a w K Q:=by
 obtain ⟨xs,h1,h2,h3⟩:=h;refine FC (f:=Rm.cs) (x:=x) Tryz.underlying24 G3 ⟨Yd,rfl,Yd⟩ Rm.len Rm.one sO xO ho hs hx h1 hn (by rw [h2.1];exact hl) h3 ?_;intro v' w' k1 k2 k3 k4;have ku:=k3 146 BF;exact hk v' w' ⟨_,k1,(h2.imp fun x f hf=>hf.keepT ku k2).app (hf.keepT ku k2),k2⟩ k3 k4
theorem Sa {ops:Array Oper} {rest:List Oper} {o:Oper} {a:Act} {Q:Exit->Act->World->Prop} (hgd:o.guard=none) (sO xO:Operand)
 (ho:o.op=.call { callee:=.builtin .append,args:=#[sO,xO],argTypes:=#[24,24] }) {gn:Nat} {x:Rm} (hs:a.eval sO=v) (hx:a.eval xO=.slice (some ⟨gn,0,none⟩) 1 1)
 (h:Ro w0 w v fs) (hf:Fw w0 w x.num f) (hn:Bl w 36 gn x.cs) (hl:fs.length<=1048576)
 (hk:∀ v' w',Ro w0 w' v' (fs++[f])->(∀ T',36≠T'->Ak T' w w')->(∀ g,g<w.heap.size->v.ownBlock≠some g->w'.heap[g]?=w.heap[g]?)->wpList Tryz.prog ops Q rest (a.put o.dst v') w'):wpList Tryz.prog ops Q (o::rest) a w:=
 wpList_plain hgd fun _ hK=>TI sO xO ho hs hx h hf hn hl fun v' w' k1 k2 k3=>hK _ _ (hk v' w' k1 k2 k3)
theorem RF {o:Oper} {a:Act} {K:Act->World->Prop} {Q:Exit->Act->World->Prop} (sO xO:Operand)
 (ho:o.op=.call { callee:=.builtin .append,args:=#[sO,xO],argTypes:=#[54,54] }) {gn:Nat} {x:Tm} (hs:a.eval sO=v) (hx:a.eval xO=.slice (some ⟨gn,0,none⟩) 1 1)
 (h:Tw w0 w v ts) (hc:x.c=t.1) (hq:x.q=t.2.q) (hf:Fw w0 w x.num t.2) (hn:Bl w 63 gn x.cs) (hl:ts.length<=1048576)
 (hk:∀ v' w',Tw w0 w' v' (ts++[t])->(∀ T',63≠T'->Ak T' w w')->(∀ g,g<w.heap.size->v.ownBlock≠some g->w'.heap[g]?=w.heap[g]?)->K (a.put o.dst v') w'):o.wp Tryz.prog a w K Q:=by
 obtain ⟨xs,h1,h2,h3⟩:=h;refine FC (f:=Tm.cs) (x:=x) Tryz.underlying54 Eh ⟨Yd,rfl,Yd⟩ Tm.len Tm.one sO xO ho hs hx h1 hn (by rw [h2.1];exact hl) h3 ?_;intro v' w' k1 k2 k3 k4;have ku:=k3 146 (Ne.symm D8);exact hk v' w' ⟨_,k1,(h2.imp fun x f hf=>⟨hf.1,hf.2.1,hf.2.2.keepT ku k2⟩).app ⟨hc,hq,hf.keepT ku k2⟩,k2⟩ k3 k4
theorem Ss {ops:Array Oper} {rest:List Oper} {o:Oper} {a:Act} {Q:Exit->Act->World->Prop} (hgd:o.guard=none) (sO xO:Operand)
 (ho:o.op=.call { callee:=.builtin .append,args:=#[sO,xO],argTypes:=#[54,54] }) {gn:Nat} {x:Tm} (hs:a.eval sO=v) (hx:a.eval xO=.slice (some ⟨gn,0,none⟩) 1 1)
 (h:Tw w0 w v ts) (hc:x.c=t.1) (hq:x.q=t.2.q) (hf:Fw w0 w x.num t.2) (hn:Bl w 63 gn x.cs) (hl:ts.length<=1048576)
 (hk:∀ v' w',Tw w0 w' v' (ts++[t])->(∀ T',63≠T'->Ak T' w w')->(∀ g,g<w.heap.size->v.ownBlock≠some g->w'.heap[g]?=w.heap[g]?)->wpList Tryz.prog ops Q rest (a.put o.dst v') w'):wpList Tryz.prog ops Q (o::rest) a w:=
 wpList_plain hgd fun _ hK=>RF sO xO ho hs hx h hc hq hf hn hl fun v' w' k1 k2 k3=>hK _ _ (hk v' w' k1 k2 k3)
end
theorem CZ {α:Type} {l:List α} {k:Nat} {x:α} (h:l[k]?=some x):l.take (k+1)=l.take k++[x]:=by
 obtain ⟨hk,rfl⟩:=List.getElem?_eq_some_iff.1 h;exact Uc hk
theorem LG {α:Type} {xs ys:List α} {k:Nat} {x y:α} (hx:xs[k]?=some x) (hy:ys[k]?=some y) (h:x≠y):xs≠ys:=fun e=>by
 rw [e,hy] at hx;injection hx with hx;exact h hx.symm
theorem IY {α:Type} {xs ys:List α} {k:Nat} {x:α} (h:xs.take k=ys.take k) (hx:xs[k]?=some x) (hy:ys[k]?=some x):xs.take (k+1)=ys.take (k+1):=by
 rw [CZ hx,CZ hy,h]
theorem K7 {w:World} {a c:Value} {ts us:List (Int × Fx)} (ha:Tx w a ts) (hc:Tx w c us):
 Calls Tryz.prog 88 #[a,c] w fun e w'=>e=.returned (.bool (decide (ts=us)))/\Yg w w':=by
 obtain ⟨A,cap,rfl,q1,q2⟩:=ha.shape;obtain ⟨B,cap2,rfl,q3,q4⟩:=hc.shape;obtain ⟨n,hn⟩:∃ n,ts.length=n:=⟨_,rfl⟩;obtain ⟨m,hm⟩:∃ m,us.length=m:=⟨_,rfl⟩;rw [hn] at ha q1 ⊢;rw [hm] at hc q3 ⊢;have hbig:n<=9223372036854775807:=by unfold maxLen at q2;omega
 obtain ⟨D,hD⟩:∃ D,D=decide (ts=us):=⟨_,rfl⟩;rw [<- hD];have HD:=Lib.hid hD;have HS:=Yh4 ha hc hn hm;clear ha hc hn hm q1 q2 q3 q4 hD;by_cases hnm:n=m
 · subst hnm;have e0:(((n:Nat):Int)==(n:Int))=true:=beq_self_eq_true _;go_enter Tryz.func88,Tryz.ntmps88;go_upto_region 3 with (fail)
   clear e0;go_wp2_with fail;go_loopw [5] (fun i wr=>∃ (k:Nat),i=.int .i64 (k:Int)/\k<=n/\Hid (ts.take k=us.take k/\Yg w wr)) (fun i _=>n - (intOf i).toNat)
   case atStart=>exact ⟨0,rfl,Un _,by simp,by go_grown⟩
   case round=>
    obtain ⟨k,rfl,hk,H⟩:=hrel;by_cases hlt:k<n
    · skip;have hkx:k<ts.length:=by rw [HS.p2];exact hlt
      have hkm:k<us.length:=by rw [HS.q3];exact hlt
      obtain ⟨t,ht⟩:∃ t,ts[k]?=some t:=⟨_,List.getElem?_eq_getElem hkx⟩;obtain ⟨u,hu⟩:∃ u,us[k]?=some u:=⟨_,List.getElem?_eq_getElem hkm⟩;obtain ⟨g,off,cap5,x,e,hgl,-,-,hFx,c0,c1,c2,c3⟩:=HS.p0.at_ ht;injection e with e1 e2 e3
      subst e1;obtain ⟨g2,off2,cap6,y,e,hgl2,-,-,hFy,d0,d1,d2,d3⟩:=HS.p1.at_ hu;injection e with e4 e5 e6
      subst e4;have HC:Hid (∀ W,Yg w W->W.cell? ⟨g,off+k*4,none⟩=some (.int .i64 t.1)/\W.cell? ⟨g,off+k*4+1,none⟩=some (.bool x.b)/\W.cell? ⟨g,off+k*4+2,none⟩=some (.slice x.A x.l x.k)/\W.cell? ⟨g,off+k*4+3,none⟩=some (.slice x.B x.m x.d)/\W.cell? ⟨g2,off2+k*4,none⟩=some (.int .i64 u.1)/\W.cell? ⟨g2,off2+k*4+1,none⟩=some (.bool y.b)/\W.cell? ⟨g2,off2+k*4+2,none⟩=some (.slice y.A y.l y.k)/\W.cell? ⟨g2,off2+k*4+3,none⟩=some (.slice y.B y.m y.d)):=fun W hb=>⟨(hb.cell (p:=⟨g,_,none⟩) hgl).trans c0,(hb.cell (p:=⟨g,_,none⟩) hgl).trans c1,(hb.cell (p:=⟨g,_,none⟩) hgl).trans c2,(hb.cell (p:=⟨g,_,none⟩) hgl).trans c3,(hb.cell (p:=⟨g2,_,none⟩) hgl2).trans d0,(hb.cell (p:=⟨g2,_,none⟩) hgl2).trans d1,(hb.cell (p:=⟨g2,_,none⟩) hgl2).trans d2,(hb.cell (p:=⟨g2,_,none⟩) hgl2).trans d3⟩;have HX:=Yh4 hFx hFy ht hu;have dk:(k:Int)<(n:Int):=Yo;clear ht hu hkx hkm e2 e3 e5 e6 hFx hFy c0 c1 c2 c3 d0 d1 d2 d3 cap5 cap6;by_cases hcol:t.1=u.1
      · skip;have e1:(t.1==u.1)=true:=by rw [hcol];exact beq_self_eq_true _
        have HCOL:=Lib.hid hcol;clear hcol;obtain ⟨c0,c1,c2,c3,d0,d1,d2,d3⟩:=HC.out _ H.q1;go_upto_region 6 with (fail)
        refine wp_region_held_drew (S:=fun W=>W.cell? ⟨g,off+k*4,none⟩=some (.int .i64 t.1)/\W.cell? ⟨g,off+k*4+1,none⟩=some (.bool x.b)/\W.cell? ⟨g,off+k*4+2,none⟩=some (.slice x.A x.l x.k)/\W.cell? ⟨g,off+k*4+3,none⟩=some (.slice x.B x.m x.d)/\W.cell? ⟨g2,off2+k*4,none⟩=some (.int .i64 u.1)/\W.cell? ⟨g2,off2+k*4+1,none⟩=some (.bool y.b)/\W.cell? ⟨g2,off2+k*4+2,none⟩=some (.slice y.A y.l y.k)/\W.cell? ⟨g2,off2+k*4+3,none⟩=some (.slice y.B y.m y.d)) (by kernel_rfl) ⟨c0,c1,c2,c3,d0,d1,d2,d3⟩ (fun Hh=>?_);clear c0 c1 c2 c3 d0 d1 d2 d3;refine AL 10 [0,1,2,3,4,5,6,7,8,9] Hh fun K hK=>?_
        repeat refine rgA ?_
        refine hK _ _ ?_;clear hK K;refine PY (v:=.bool false) 10 Hh ?_ (hy:=by intro W hSw;go_simp;try simp [HCOL.out]);try simp only [Yp];refine rgT 11 Hh ?_;have hb0:Hid (Yg w wr.drew):=Yb H.q1 (Ai _ 1);have HE:=Lib.hid H.p0;generalize wr.drew=Wd at hb0 Hh ⊢;clear H e1;refine AL 10 [12,13,14,15,16,17,18,19,20,21] Hh fun K hK=>?_
        repeat refine rgA ?_
        refine hK _ _ ?_;clear hK K;refine rgO 22 fun K hK=>?_;go_simp;go_at_call 65;refine (C6 (a:=x.num) (c:=y.num) (HX.p0.keep hb0.out) (HX.p1.keep hb0.out)).mono ?_;rintro e w4 ⟨rfl,hb⟩;have hb1:=Lib.hid (Yb hb0.out hb);clear hb Hh hb0;obtain ⟨r,hr⟩:∃ r,r=decide (t.2=u.2):=⟨_,rfl⟩;rw [<- hr];have HR:=Lib.hid hr;clear hr;go_wp2_with fail;refine rgK hK (HC.out _ hb1.out) fun Hh=>?_;clear hK K;refine rgT 23 Hh ?_;refine rgT 24 Hh ?_;refine Yw ?_;clear Hh
        cases r with
        | true=>
         have htu:t=u:=Prod.ext HCOL.out (of_decide_eq_true HR.out.symm);have HN:=Yh2 (IY HE.out HX.p2 (by rw [htu];exact HX.q3)) hb1.out;clear htu hb1 HE;go_wp2_with fail
         case roundEnd=>exact ⟨⟨k+1,by go_num,Yo,HN.out⟩,by simp [intOf];omega⟩
        | false=>
         have htu:t≠u:=fun e=>of_decide_eq_false HR.out.symm (by rw [e]);have HN:=Yh2 (decide_eq_false (LG HX.p2 HX.q3 htu)) hb1.out;clear htu hb1 HE;go_wp2_with fail;go_ret;obtain rfl:D=false:=HD.out.trans HN.p0;exact ⟨rfl,HN.q1⟩
      have e1:(t.1==u.1)=false:=beq_eq_false_iff_ne.2 hcol;have HCOL:=Lib.hid hcol;clear hcol;obtain ⟨c0,c1,c2,c3,d0,d1,d2,d3⟩:=HC.out _ H.q1;go_upto_region 6 with (fail)
      refine wp_region_held_drew (S:=fun W=>W.cell? ⟨g,off+k*4,none⟩=some (.int .i64 t.1)/\W.cell? ⟨g,off+k*4+1,none⟩=some (.bool x.b)/\W.cell? ⟨g,off+k*4+2,none⟩=some (.slice x.A x.l x.k)/\W.cell? ⟨g,off+k*4+3,none⟩=some (.slice x.B x.m x.d)/\W.cell? ⟨g2,off2+k*4,none⟩=some (.int .i64 u.1)/\W.cell? ⟨g2,off2+k*4+1,none⟩=some (.bool y.b)/\W.cell? ⟨g2,off2+k*4+2,none⟩=some (.slice y.A y.l y.k)/\W.cell? ⟨g2,off2+k*4+3,none⟩=some (.slice y.B y.m y.d)) (by kernel_rfl) ⟨c0,c1,c2,c3,d0,d1,d2,d3⟩ (fun Hh=>?_);clear c0 c1 c2 c3 d0 d1 d2 d3;refine AL 10 [0,1,2,3,4,5,6,7,8,9] Hh fun K hK=>?_
      repeat refine rgA ?_
      refine hK _ _ ?_;clear hK K;refine PY (v:=.bool true) 10 Hh ?_ (hy:=by intro W hSw;go_simp;try simp [HCOL.out]);try simp only [Yp];refine rgT 11 Hh ?_;have hb0:Hid (Yg w wr.drew):=Yb H.q1 (Ai _ 1);have HE:=Lib.hid H.p0;generalize wr.drew=Wd at hb0 Hh ⊢;clear H e1;refine AL 13 [12,13,14,15,16,17,18,19,20,21,22,23,24] Hh fun K hK=>?_
      repeat first|refine rgA ?_|refine rgB ?_
      refine hK _ _ ?_;clear hK K;refine Yw ?_;clear Hh;have htu:t≠u:=fun e=>HCOL.out (by rw [e]);have HN:=Yh2 (decide_eq_false (LG HX.p2 HX.q3 htu)) hb0.out;clear htu hb0 HE;go_wp2_with fail;go_ret;obtain rfl:D=false:=HD.out.trans HN.p0;exact ⟨rfl,HN.q1⟩
    · have dk:¬ (k:Int)<(n:Int):=by omega
      have he:Hid (ts=us/\Yg w wr):=by
       have h:=H.p0;rw [Ud (by rw [HS.p2];omega),Ud (by rw [HS.q3];omega)] at h;exact ⟨h,H.q1⟩
      go_wp2_with fail;go_ret;obtain rfl:D=true:=HD.out.trans (decide_eq_true he.p0);exact ⟨rfl,he.q1⟩
 · have e0:(((n:Nat):Int)==(m:Int))=false:=beq_eq_false_iff_ne.2 Yo;have hne:ts≠us:=fun e=>hnm (by rw [<- HS.p2,<- HS.q3,e]);obtain rfl:D=false:=HD.out.trans (decide_eq_false hne);clear hne hnm;go_enter Tryz.func88,Tryz.ntmps88;go_wp2_with fail;go_ret;exact ⟨rfl,by go_grown⟩
theorem FJ {w:World} {a c:Value} {ts us:List Fx} (ha:Rx w a ts) (hc:Rx w c us):
 Calls Tryz.prog 89 #[a,c] w fun e w'=>e=.returned (.bool (decide (ts=us)))/\Yg w w':=by
 obtain ⟨A,cap,rfl,q1,q2⟩:=ha.shape;obtain ⟨B,cap2,rfl,q3,q4⟩:=hc.shape;obtain ⟨n,hn⟩:∃ n,ts.length=n:=⟨_,rfl⟩;obtain ⟨m,hm⟩:∃ m,us.length=m:=⟨_,rfl⟩;rw [hn] at ha q1 ⊢;rw [hm] at hc q3 ⊢;have hbig:n<=9223372036854775807:=by unfold maxLen at q2;omega
 obtain ⟨D,hD⟩:∃ D,D=decide (ts=us):=⟨_,rfl⟩;rw [<- hD];have HD:=Lib.hid hD;have HS:=Yh4 ha hc hn hm;clear ha hc hn hm q1 q2 q3 q4 hD;by_cases hnm:n=m
 · subst hnm;have e0:(((n:Nat):Int)==(n:Int))=true:=beq_self_eq_true _;go_enter Tryz.func89,Tryz.ntmps89;go_upto_region 3 with (fail)
   clear e0;go_wp2_with fail;go_loopw [5] (fun i wr=>∃ (k:Nat),i=.int .i64 (k:Int)/\k<=n/\Hid (ts.take k=us.take k/\Yg w wr)) (fun i _=>n - (intOf i).toNat)
   case atStart=>exact ⟨0,rfl,Un _,by simp,by go_grown⟩
   case round=>
    obtain ⟨k,rfl,hk,H⟩:=hrel;by_cases hlt:k<n
    · skip;have hkx:k<ts.length:=by rw [HS.p2];exact hlt
      have hkm:k<us.length:=by rw [HS.q3];exact hlt
      obtain ⟨t,ht⟩:∃ t,ts[k]?=some t:=⟨_,List.getElem?_eq_getElem hkx⟩;obtain ⟨u,hu⟩:∃ u,us[k]?=some u:=⟨_,List.getElem?_eq_getElem hkm⟩;obtain ⟨g,off,cap5,x,e,hg,hFx,c0,c1,c2⟩:=HS.p0.at_ ht;injection e with e1 e2 e3
      subst e1;obtain ⟨g2,off2,cap6,y,e,hg2,hFy,d0,d1,d2⟩:=HS.p1.at_ hu;injection e with e4 e5 e6
      subst e4;have HC:Hid (∀ W,Yg w W->W.cell? ⟨g,off+k*3,none⟩=some (.bool x.b)/\W.cell? ⟨g,off+k*3+1,none⟩=some (.slice x.A x.l x.k)/\W.cell? ⟨g,off+k*3+2,none⟩=some (.slice x.B x.m x.d)/\W.cell? ⟨g2,off2+k*3,none⟩=some (.bool y.b)/\W.cell? ⟨g2,off2+k*3+1,none⟩=some (.slice y.A y.l y.k)/\W.cell? ⟨g2,off2+k*3+2,none⟩=some (.slice y.B y.m y.d)):=fun W hb=>⟨(hb.cell (p:=⟨g,_,none⟩) hg).trans c0,(hb.cell (p:=⟨g,_,none⟩) hg).trans c1,(hb.cell (p:=⟨g,_,none⟩) hg).trans c2,(hb.cell (p:=⟨g2,_,none⟩) hg2).trans d0,(hb.cell (p:=⟨g2,_,none⟩) hg2).trans d1,(hb.cell (p:=⟨g2,_,none⟩) hg2).trans d2⟩;have HX:=Yh4 hFx hFy ht hu;have dk:(k:Int)<(n:Int):=Yo;clear ht hu hkx hkm e2 e3 e5 e6 hFx hFy c0 c1 c2 d0 d1 d2 cap5 cap6;obtain ⟨c0,c1,c2,d0,d1,d2⟩:=HC.out _ H.q1;go_upto_region 6 with (fail)
      refine wp_region_held_drew (S:=fun W=>W.cell? ⟨g,off+k*3,none⟩=some (.bool x.b)/\W.cell? ⟨g,off+k*3+1,none⟩=some (.slice x.A x.l x.k)/\W.cell? ⟨g,off+k*3+2,none⟩=some (.slice x.B x.m x.d)/\W.cell? ⟨g2,off2+k*3,none⟩=some (.bool y.b)/\W.cell? ⟨g2,off2+k*3+1,none⟩=some (.slice y.A y.l y.k)/\W.cell? ⟨g2,off2+k*3+2,none⟩=some (.slice y.B y.m y.d)) (by kernel_rfl) ⟨c0,c1,c2,d0,d1,d2⟩ (fun Hh=>?_);clear c0 c1 c2 d0 d1 d2;refine AL 8 [0,1,2,3,4,5,6,7] Hh fun K hK=>?_
      repeat refine rgA ?_
      refine hK _ _ ?_;clear hK K;have hb0:Hid (Yg w wr.drew):=Yb H.q1 (Ai _ 1);have HE:=Lib.hid H.p0;generalize wr.drew=Wd at hb0 Hh ⊢;clear H;refine rgO 8 fun K hK=>?_;go_simp;go_at_call 65;refine (C6 (a:=x.num) (c:=y.num) (HX.p0.keep hb0.out) (HX.p1.keep hb0.out)).mono ?_;rintro e w4 ⟨rfl,hb⟩;have hb1:=Lib.hid (Yb hb0.out hb);clear hb Hh hb0;obtain ⟨r,hr⟩:∃ r,r=decide (t=u):=⟨_,rfl⟩;rw [<- hr];have HR:=Lib.hid hr;clear hr;go_wp2_with fail;refine rgK hK (HC.out _ hb1.out) fun Hh=>?_;clear hK K;refine rgT 9 Hh ?_;refine Yw ?_;clear Hh
      cases r with
      | true=>
       have htu:t=u:=of_decide_eq_true HR.out.symm;have HN:=Yh2 (IY HE.out HX.p2 (by rw [htu];exact HX.q3)) hb1.out;clear htu hb1 HE;go_wp2_with fail
       case roundEnd=>exact ⟨⟨k+1,by go_num,Yo,HN.out⟩,by simp [intOf];omega⟩
      | false=>
       have htu:t≠u:=of_decide_eq_false HR.out.symm;have HN:=Yh2 (decide_eq_false (LG HX.p2 HX.q3 htu)) hb1.out;clear htu hb1 HE;go_wp2_with fail;go_ret;obtain rfl:D=false:=HD.out.trans HN.p0;exact ⟨rfl,HN.q1⟩
    · have dk:¬ (k:Int)<(n:Int):=by omega
      have he:Hid (ts=us/\Yg w wr):=by
       have h:=H.p0;rw [Ud (by rw [HS.p2];omega),Ud (by rw [HS.q3];omega)] at h;exact ⟨h,H.q1⟩
      go_wp2_with fail;go_ret;obtain rfl:D=true:=HD.out.trans (decide_eq_true he.p0);exact ⟨rfl,he.q1⟩
 · have e0:(((n:Nat):Int)==(m:Int))=false:=beq_eq_false_iff_ne.2 Yo;have hne:ts≠us:=fun e=>hnm (by rw [<- HS.p2,<- HS.q3,e]);obtain rfl:D=false:=HD.out.trans (decide_eq_false hne);clear hne hnm;go_enter Tryz.func89,Tryz.ntmps89;go_wp2_with fail;go_ret;exact ⟨rfl,by go_grown⟩
end
end Go.Proofs.YtlblnmmfphiobaaGreat
