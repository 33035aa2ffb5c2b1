import Derived.Test.YtlblnmmfphiobaaGreatPNA8
set_option maxRecDepth 100000
set_option maxHeartbeats 8000000
set_option linter.unusedVariables false
set_option linter.unusedSimpArgs false
namespace Go.Proofs.YtlblnmmfphiobaaGreat
section
open Go Go.RowKit Go.Proofs Pl
theorem P3 {b c:Bool} {m n B p:Nat} (hB:1<B) (h0:n≠0) (hm:m<B ^ p):(Int.fdiv (sg b m) (sg c n)).natAbs<B ^ (p+1):=by
 have hle:m / n<=m:=Vh _ _;have h3:B ^ p*2<=B ^ p*B:=TY _ hB;have h4:0<B ^ p:=Ve Yo;rw [UD];by_cases hbc:b=c
 · subst hbc;rw [Ia,V9];omega
 · obtain rfl:c=!b:=by cases b<;>cases c<;>simp_all
   rw [DU b m n h0];obtain ⟨k,hk⟩:∃ k,k=m / n:=⟨_,rfl⟩;rw [<- hk] at hle ⊢;clear hk
   split<;>omega
def J4 (w W:World) (a b c d:Value):Prop:=
 Bx 34 W w.heap.size a b/\Bx 34 W (w.heap.size+1) c d/\(∃ e f,Bx 34 W (w.heap.size+1+1) e f)/\(∃ e f,Bx 34 W (w.heap.size+1+1+1) e f)/\Yg w W
theorem Tc (w:World) (a b c d e f g h:Value):J4 w ((((w.alloc (.cells #[a,b] 34)).alloc (.cells #[c,d] 34)).alloc (.cells #[e,f] 34)).alloc (.cells #[g,h] 34)) a b c d:=
 ⟨(((Bx.new _ w a b).alloc _).alloc _).alloc _,((Bx.new1 _ w _ c d).alloc _).alloc _,⟨e,f,(Bx.new2 _ w _ _ e f).alloc _⟩,⟨g,h,Bx.new3 _ w _ _ _ g h⟩,by go_grown⟩
theorem J4.keep {w W W':World} {a b c d:Value} (h:J4 w W a b c d) (hb:Below W.heap.size W W'):J4 w W' a b c d:=by
 obtain ⟨h1,h2,⟨e,f,h3⟩,⟨g,k,h4⟩,h5⟩:=h;exact ⟨h1.keep hb,h2.keep hb,⟨e,f,h3.keep hb⟩,⟨g,k,h4.keep hb⟩,Yb h5 hb⟩
theorem J4.ld {w W:World} {a b c d:Value} (h:J4 w W a b c d):
 W.cell? ⟨w.heap.size,0,none⟩=some a/\W.cell? ⟨w.heap.size,1,none⟩=some b/\W.cell? ⟨w.heap.size+1,0,none⟩=some c/\W.cell? ⟨w.heap.size+1,1,none⟩=some d:=
 ⟨h.1.facts.1,h.1.facts.2.1,h.2.1.facts.1,h.2.1.facts.2.1⟩
def Dv (w W:World) (a b c d:Value) (g:Nat) (x y:Value):Prop:=J4 w W a b c d/\Bx 34 W g x y/\w.heap.size+1+1+1<g
section
variable {w W W':World} {a b c d x y u v:Value} {g:Nat}
theorem Dv.keep (h:Dv w W a b c d g x y) (hb:Below W.heap.size W W'):Dv w W' a b c d g x y:=⟨h.1.keep hb,h.2.1.keep hb,h.2.2⟩
theorem Dv.below (h:Dv w W a b c d g x y):Below w.heap.size w W:=h.1.2.2.2.2
theorem Dv.ld (h:Dv w W a b c d g x y):W.cell? ⟨w.heap.size,0,none⟩=some a/\W.cell? ⟨w.heap.size,1,none⟩=some b/\W.cell? ⟨w.heap.size+1,0,none⟩=some c/\W.cell? ⟨w.heap.size+1,1,none⟩=some d/\W.cell? ⟨g,0,none⟩=some x/\W.cell? ⟨g,1,none⟩=some y:=
 ⟨h.1.1.facts.1,h.1.1.facts.2.1,h.1.2.1.facts.1,h.1.2.1.facts.2.1,h.2.1.facts.1,h.2.1.facts.2.1⟩
theorem Dv.set2 (h:Dv w W a b c d g x y) (u v:Value):Dv w ((W.setCell ⟨w.heap.size+1+1,0,none⟩ u).setCell ⟨w.heap.size+1+1,1,none⟩ v) a b c d g x y:=by
 obtain ⟨⟨h1,h2,⟨e,f,h3⟩,⟨k,l,h4⟩,h5⟩,h6,h7⟩:=h;exact ⟨⟨h1.other2 Yo _ _,h2.other2 Yo _ _,⟨_,_,h3.set u v⟩,⟨_,_,h4.other2 Yo _ _⟩,h3.below h5 Yo (TL _) _ _⟩,h6.other2 Yo _ _,h7⟩
theorem Dv.set3 (h:Dv w W a b c d g x y) (u v:Value):Dv w ((W.setCell ⟨w.heap.size+1+1+1,0,none⟩ u).setCell ⟨w.heap.size+1+1+1,1,none⟩ v) a b c d g x y:=by
 obtain ⟨⟨h1,h2,⟨e,f,h3⟩,⟨k,l,h4⟩,h5⟩,h6,h7⟩:=h;exact ⟨⟨h1.other2 Yo _ _,h2.other2 Yo _ _,⟨_,_,h3.other2 Yo _ _⟩,⟨_,_,h4.set u v⟩,h4.below h5 Yo (TL _) _ _⟩,h6.other2 Yo _ _,h7⟩
theorem Dv.setq (h:Dv w W a b c d g x y) (u v:Value):Dv w ((W.setCell ⟨g,0,none⟩ u).setCell ⟨g,1,none⟩ v) a b c d g u v:=by
 obtain ⟨⟨h1,h2,⟨e,f,h3⟩,⟨k,l,h4⟩,h5⟩,h6,h7⟩:=h;exact ⟨⟨h1.other2 Yo _ _,h2.other2 Yo _ _,⟨_,_,h3.other2 Yo _ _⟩,⟨_,_,h4.other2 Yo _ _⟩,h6.below h5 Yo (TL _) _ _⟩,h6.set u v,h7⟩
theorem Kh {P:Program} {fn:Func} {R:Ending->World->Prop} {act:Act} {u0 u1 v0 v1:Value} (D:Dv w W a b c d g x y)
 (hr:∀ W:World,W.cell? ⟨w.heap.size+1+1,0,none⟩=some u0->W.cell? ⟨w.heap.size+1+1,1,none⟩=some u1->W.cell? ⟨w.heap.size+1+1+1,0,none⟩=some v0->W.cell? ⟨w.heap.size+1+1+1,1,none⟩=some v1->(results fn act.tmps).run P W=.ok (.tuple #[.agg #[u0,u1],.agg #[v0,v1],.int .i64 0]) W) (hd:act.defers=[])
 (hR:∀ W',Hid (∀ (z:Value) (k:Int),(Zs w W z k->Zs w W' z k))->R (.returned (.tuple #[.agg #[u0,u1],.agg #[v0,v1],.int .i64 0])) W'):
 bodyPost P fn R .ret act ((((W.setCell ⟨w.heap.size+1+1,0,none⟩ u0).setCell ⟨w.heap.size+1+1,1,none⟩ u1).setCell ⟨w.heap.size+1+1+1,0,none⟩ v0).setCell ⟨w.heap.size+1+1+1,1,none⟩ v1):=by
 obtain ⟨⟨h1,h2,⟨e,f,h3⟩,⟨k,l,h4⟩,h5⟩,h6,h7⟩:=D;have X2:=(h3.set u0 u1).other2 (k:=w.heap.size+1+1+1) Yo v0 v1;have X3':=h4.other2 (k:=w.heap.size+1+1) Yo u0 u1;have X3:=X3'.set v0 v1;exact bodyPost_ret (hr _ X2.facts.1 X2.facts.2.1 X3.facts.1 X3.facts.2.1) hd (hR _ (fun z k hz=>(hz.put Bs h3 Yo u0 u1).put Bs X3' Yo v0 v1))
theorem Dv.box2 (h:Dv w W a b c d g x y):∃ e f,Bx 34 W (w.heap.size+1+1) e f:=h.1.2.2.1
theorem Dv.box3 (h:Dv w W a b c d g x y):∃ e f,Bx 34 W (w.heap.size+1+1+1) e f:=h.1.2.2.2.1
end
def RL (w W:World) (a b q:Value) (x y z:Int):Prop:=
 ∀ W1,Yg W W1->Hid (Calls Tryz.prog 166 #[q,b] W1 fun e w2=>∃ v,e=.returned v/\Yg W1 w2/\Hid (∀ W2,W2=w2->Calls Tryz.prog 253 #[a,v] W2 fun e w3=>∃ r,e=.returned r/\Zs W2 w3 r (x - z*y)))
theorem OT {w W:World} {L1 L2:Nat} {a b q:Value} {x y z:Int} (ha:Zn w L1 a x) (hb:Zn w L2 b y) (h1:L1<=17179869184) (h2:L2<=17179869184) (hq:Zs w W q z) (hz:z.natAbs<WB ^ (L1+1)):RL w W a b q x y z:=by
 intro W1 hW;refine (RA ((hq.zn hz).keep hW) (hb.keep (Yb hq.below hW)) Yo Yo).mono ?_;rintro e w2 ⟨v,he,hv⟩;refine ⟨v,he,hv.below,?_⟩;rintro W2 rfl;exact Rz (ha.keep (Yb (Yb hq.below hW) hv.below)) (hv.zn (L:=L1+1+L2) (Q3 hz hb.lt)) Yo Yo
theorem FU {w:World} {L1 L2 m n:Nat} {s t:Value} {p q r:Bool} (hs:Nm w L1 s m) (ht:Nm w L2 t n) (h1:L1<=17179869184) (h2:L2<=17179869184) (h0:n≠0) (hr:(!(p==q))=r) (hz:r=false∨m % n=0):
 Calls Tryz.prog 225 #[.agg #[.bool p,s],.agg #[.bool q,t]] w fun e w'=>∃ v u,e=.returned (.tuple #[v,u,.int .i64 0])/\Zs w w' v (sg r (m / n))/\Zs w w' u (sg p m - sg r (m / n)*sg q n):=by
 have hd:=fun W (hb:Yg w W)=>BY (hs.keep hb) (ht.keep hb) Yo h0;have hlt:=Ug (Vh m n) hs.lt;have hmk:=fun w1 w2 v1 (hb:Yg w w1) (h:Rs w1 w2 v1 (m / n))=>Em r (L:=L1) Yo hlt (h.out hb);have hlast:=fun W v3 (hq:Zs w W v3 (sg r (m / n)))=>OT (show Zn w L1 (.agg #[.bool p,s]) (sg p m) from ⟨_,_,_,rfl,hs,rfl⟩) (show Zn w L2 (.agg #[.bool q,t]) (sg q n) from ⟨_,_,_,rfl,ht,rfl⟩) h1 h2 hq (by rw [Cb];exact TV hlt (Ua Ay Yo));have HA:=Yh3 hd hmk hlast;have HZ:=Lib.hid hz;clear hd hmk hs ht h1 h2 h0 hz hlt hlast;go_enter Tryz.func225,Tryz.ntmps225;go_wp2_with fail;refine (HA.p0 _ (by go_grown)).mono ?_;rintro e w1 ⟨v1,v2,rfl,h1,h2⟩;have N1:=(Tc w (.bool p) s (.bool q) t (.bool false) (.slice none 0 0) (.bool false) (.slice none 0 0)).keep h1.2;obtain ⟨c0,c1,c2,c3⟩:=N1.ld;obtain ⟨A2,k2,rfl,-,-⟩:=h2.1.slice;obtain ⟨lr,hlr⟩:∃ lr,lr=(dg WB (m % n)).length:=⟨_,rfl⟩
 have hl0:r=false∨r=true/\¬ (0:Int)<(lr:Int):=by
  cases r
  · exact .inl rfl
  · rcases HZ.out with h | h
    · cases h
    · right;rw [hlr,h,BP];simp
 rw [<- hlr];have H1:=Yh2 N1 (HA.p1 _ _ _ (by go_grown) h1);clear N1 h1 h2 hlr HZ;go_wp2_with fail;refine (H1.q1 _ (Below.refl _ _)).mono ?_;rintro e w2 ⟨v3,rfl,h2,hb2⟩;obtain ⟨pz,A,la,c,rfl,H2'⟩:=h2.parts;have N2:=H1.p0.keep hb2;have N3:Dv w (w2.alloc (.cells #[.bool pz,.slice A la c] 34)) (.bool p) s (.bool q) t w2.heap.size (.bool pz) (.slice A la c):=⟨N2.keep (Ya _ _),Bx.new _ _ _ _,by obtain ⟨-,-,-,⟨e,f,h⟩,-⟩:=N2;exact h.lt⟩;have HQ:=h2.then (Ya w2 (.cells #[.bool pz,.slice A la c] 34))
 clear c0 c1 c2 c3;have H2:=Yh3 N3 HQ (HA.q2 _ _ HQ);clear N2 N3 h2 H2' hb2 H1 HQ HA;go_upto_region 5 with (fail)
 obtain ⟨g,hg⟩:∃ g,g=w2.heap.size:=⟨_,rfl⟩;generalize w2.alloc _=W3 at H2 ⊢;rw [<- hg] at H2 ⊢;obtain ⟨c0,c1,c2,c3,c4,c5⟩:=H2.p0.ld;clear hg;have HS0:=H2.p0.ld;have HS1:=HS0;have HS2:=HS0;have HS3:=HS0;have HS4:=HS0
 rcases hl0 with hl0 | ⟨hl0,hl1⟩
 · subst hl0;go_upto_region 7 with (fail)
   go_region_held3 (fun W=>W.cell? ⟨w.heap.size,0,none⟩=some (.bool p)/\W.cell? ⟨w.heap.size,1,none⟩=some s/\W.cell? ⟨w.heap.size+1,0,none⟩=some (.bool q)/\W.cell? ⟨w.heap.size+1,1,none⟩=some t/\W.cell? ⟨g,0,none⟩=some (.bool pz)/\W.cell? ⟨g,1,none⟩=some (.slice A la c)) (first | with_reducible exact HS1 | with_reducible exact HS2 | with_reducible exact HS3 | with_reducible exact HS4 | exact HS0)
    (first
     | (go_at_call 166;refine (H2.q2 _ (by exact Ai _ 1)).out.mono ?_;rintro e w4 ⟨v4,rfl,hb4,h4⟩;have HS1:=(H2.p0.keep (Yb (Ai _ 1) hb4)).ld;have K1:=Yh3 (H2.p0.keep (Yb (Ai _ 1) hb4)) h4 (Yb (Ai _ 1) hb4);clear hb4 h4)
     | (go_at_call 253;refine (K1.p1.out _ rfl).mono ?_;rintro e w5 ⟨v5,rfl,h5⟩;obtain ⟨pu,A5,l5,k5,rfl,H5⟩:=h5.parts;have D5:=K1.p0.keep h5.below;have HS2:=D5.ld;have HS3:=(D5.set2 (.bool pz) (.slice A la c)).ld;have HS4:=((D5.set2 (.bool pz) (.slice A la c)).set3 (.bool pu) (.slice A5 l5 k5)).ld;obtain ⟨e2,f2,X2⟩:=D5.box2;obtain ⟨x0,x1,x2,x3⟩:=X2.facts;obtain ⟨e3,f3,X3⟩:=(D5.set2 (.bool pz) (.slice A la c)).box3;obtain ⟨y0,y1,y2,y3⟩:=X3.facts;have K2:=Yh3 D5 h5 (Yb K1.q2 h5.below);clear D5 h5 X2 X3))
   clear c0 c1 c2 c3 c4 c5 x0 x1 x2 x3 y0 y1 y2 y3 HS0 HS1 HS2 HS3 HS4;go_wp2_with fail;refine Kh K2.p0 (fun W d0 d1 d2 d3=>by simp [results,Tryz.results225,go_sem,d0,d1,d2,d3]) rfl (fun W' hW=>?_);exact ⟨_,_,rfl,hW.out _ _ (H2.p1.then K2.q2),hW.out _ _ (K2.p1.from (Yb H2.p0.below K1.q2))⟩
 · subst hl0;go_upto_region 7 with (fail)
   go_region_held3 (fun W=>W.cell? ⟨w.heap.size,0,none⟩=some (.bool p)/\W.cell? ⟨w.heap.size,1,none⟩=some s/\W.cell? ⟨w.heap.size+1,0,none⟩=some (.bool q)/\W.cell? ⟨w.heap.size+1,1,none⟩=some t/\W.cell? ⟨g,0,none⟩=some (.bool pz)/\W.cell? ⟨g,1,none⟩=some (.slice A la c)) (first | with_reducible exact HS1 | with_reducible exact HS2 | with_reducible exact HS3 | with_reducible exact HS4 | exact HS0)
    (first
     | (go_at_call 166;refine (H2.q2 _ (by exact Ai _ 1)).out.mono ?_;rintro e w4 ⟨v4,rfl,hb4,h4⟩;have HS1:=(H2.p0.keep (Yb (Ai _ 1) hb4)).ld;have K1:=Yh3 (H2.p0.keep (Yb (Ai _ 1) hb4)) h4 (Yb (Ai _ 1) hb4);clear hb4 h4)
     | (go_at_call 253;refine (K1.p1.out _ rfl).mono ?_;rintro e w5 ⟨v5,rfl,h5⟩;obtain ⟨pu,A5,l5,k5,rfl,H5⟩:=h5.parts;have D5:=K1.p0.keep h5.below;have HS2:=D5.ld;have HS3:=(D5.set2 (.bool pz) (.slice A la c)).ld;have HS4:=((D5.set2 (.bool pz) (.slice A la c)).set3 (.bool pu) (.slice A5 l5 k5)).ld;obtain ⟨e2,f2,X2⟩:=D5.box2;obtain ⟨x0,x1,x2,x3⟩:=X2.facts;obtain ⟨e3,f3,X3⟩:=(D5.set2 (.bool pz) (.slice A la c)).box3;obtain ⟨y0,y1,y2,y3⟩:=X3.facts;have K2:=Yh3 D5 h5 (Yb K1.q2 h5.below);clear D5 h5 X2 X3))
   clear c0 c1 c2 c3 c4 c5 x0 x1 x2 x3 y0 y1 y2 y3 HS0 HS1 HS2 HS3 HS4;go_wp2_with fail;refine Kh K2.p0 (fun W d0 d1 d2 d3=>by simp [results,Tryz.results225,go_sem,d0,d1,d2,d3]) rfl (fun W' hW=>?_);exact ⟨_,_,rfl,hW.out _ _ (H2.p1.then K2.q2),hW.out _ _ (K2.p1.from (Yb H2.p0.below K1.q2))⟩
theorem IR {w:World} {L1 L2 m n:Nat} {s t:Value} {p q:Bool} (hs:Nm w L1 s m) (ht:Nm w L2 t n) (h1:L1<=17179869184) (h2:L2<=17179869184) (h0:n≠0) (hr:(!(p==q))=true) (hz:m % n≠0) (ez:Int.fdiv (sg p m) (sg q n)=sg true (m / n) - 1):
 Calls Tryz.prog 225 #[.agg #[.bool p,s],.agg #[.bool q,t]] w fun e w'=>∃ v u,e=.returned (.tuple #[v,u,.int .i64 0])/\Zs w w' v (Int.fdiv (sg p m) (sg q n))/\Zs w w' u (sg p m - Int.fdiv (sg p m) (sg q n)*sg q n):=by
 have hd:=fun W (hb:Yg w W)=>BY (hs.keep hb) (ht.keep hb) Yo h0;have hlt:=Ug (Vh m n) hs.lt;have hmk:=fun w1 w2 v1 (hb:Yg w w1) (h:Rs w1 w2 v1 (m / n))=>Em true (L:=L1) Yo hlt (h.out hb);have hlast:=fun W v3 (hq:Zs w W v3 (Int.fdiv (sg p m) (sg q n)))=>OT (show Zn w L1 (.agg #[.bool p,s]) (sg p m) from ⟨_,_,_,rfl,hs,rfl⟩) (show Zn w L2 (.agg #[.bool q,t]) (sg q n) from ⟨_,_,_,rfl,ht,rfl⟩) h1 h2 hq (P3 Aw h0 hs.lt);have hone:=fun W=>Tk (w:=W) (z:=1) (by unfold Bu;omega);have hsub:=fun W W1 W2 v1 v2 (hq:Zs w W v1 (sg true (m / n))) (hb:Yg W W1) (h1:Zs W1 W2 v2 1)=>Rz ((hq.zn (L:=L1) (by rw [Cb];exact hlt)).keep (Yb hb h1.below)) (h1.zn (L:=1) (by rw [Nat.pow_one,Bz];decide)) Yo Yd;rw [<- ez] at hsub;have HA:=Yh5 hd hmk hlast hone hsub;have HZ:=Lib.hid hz;clear hd hmk hs ht h1 h2 h0 hz hlt hlast hone hsub ez;go_enter Tryz.func225,Tryz.ntmps225;go_wp2_with fail;refine (HA.p0 _ (by go_grown)).mono ?_;rintro e w1 ⟨v1,v2,rfl,h1,h2⟩;have N1:=(Tc w (.bool p) s (.bool q) t (.bool false) (.slice none 0 0) (.bool false) (.slice none 0 0)).keep h1.2;obtain ⟨c0,c1,c2,c3⟩:=N1.ld;obtain ⟨A2,k2,rfl,-,-⟩:=h2.1.slice;obtain ⟨lr,hlr⟩:∃ lr,lr=(dg WB (m % n)).length:=⟨_,rfl⟩
 have hl0:(0:Int)<(lr:Int):=by
  have:lr≠0:=fun h=>HZ.out ((BL Aw _).1 (TN (hlr ▸ h)));omega
 rw [<- hlr];have H1:=Yh2 N1 (HA.p1 _ _ _ (by go_grown) h1);clear N1 h1 h2 hlr HZ;go_wp2_with fail;refine (H1.q1 _ (Below.refl _ _)).mono ?_;rintro e w2 ⟨v3,rfl,h2,hb2⟩;obtain ⟨pz,A,la,c,rfl,H2'⟩:=h2.parts;have N2:=H1.p0.keep hb2;have N3:Dv w (w2.alloc (.cells #[.bool pz,.slice A la c] 34)) (.bool p) s (.bool q) t w2.heap.size (.bool pz) (.slice A la c):=⟨N2.keep (Ya _ _),Bx.new _ _ _ _,by obtain ⟨-,-,-,⟨e,f,h⟩,-⟩:=N2;exact h.lt⟩;have HQ:=h2.then (Ya w2 (.cells #[.bool pz,.slice A la c] 34))
 clear c0 c1 c2 c3;have H2:=Yh2 N3 HQ;clear N2 N3 h2 H2' hb2 H1 HQ;go_upto_region 5 with (fail)
 obtain ⟨g,hg⟩:∃ g,g=w2.heap.size:=⟨_,rfl⟩;generalize w2.alloc _=W3 at H2 ⊢;rw [<- hg] at H2 ⊢;obtain ⟨c0,c1,c2,c3,c4,c5⟩:=H2.p0.ld;clear hg;have HS0:=H2.p0.ld;have HS1:=HS0;have HS2:=HS0;have HS3:=HS0;have HS4:=HS0;go_upto_region 6 with (fail)
 go_region_with (first
  | (go_at_call 161;refine (HA.p3 _).mono ?_;rintro e w4 ⟨v4,rfl,h4⟩;have D4:=(H2.p0.keep (Ai _ 1)).keep h4.below;obtain ⟨-,-,-,-,c4,c5⟩:=D4.ld;have K1:=Yh2 D4 (HA.q4 _ _ _ _ _ H2.q1 (Ai _ 1) h4);clear D4 h4)
  | (go_at_call 253;refine K1.q1.mono ?_;rintro e w5 ⟨v5,rfl,h5⟩;obtain ⟨pr,A6,l6,k6,rfl,H6⟩:=h5.parts;have D5:=K1.p0.keep h5.below;obtain ⟨-,-,-,-,c4,c5⟩:=D5.ld;obtain ⟨x0,x1,x2,x3⟩:=D5.2.1.facts;have K2:=Yh2 D5 h5;clear D5 h5))
 all_goals
  have D6:=K2.p0.setq (.bool pr) (.slice A6 l6 k6);have Q6:=(K2.q1.from K1.p0.below).put Bs K2.p0.2.1 (by have:=K2.p0.2.2;omega) (.bool pr) (.slice A6 l6 k6);generalize (w5.setCell _ _).setCell _ _=W6 at D6 Q6 ⊢;have H7:=Yh3 D6 Q6 (HA.p2 _ _ Q6);clear c0 c1 c2 c3 c4 c5 HS0 HS1 HS2 HS3 HS4 D6 Q6 x0 x1 x2 x3;obtain ⟨c0,c1,c2,c3,c4,c5⟩:=H7.p0.ld;have HS0:=H7.p0.ld;have HS1:=HS0;have HS2:=HS0;have HS3:=HS0;have HS4:=HS0;go_upto_region 7 with (fail)
  go_region_held3 (fun W=>W.cell? ⟨w.heap.size,0,none⟩=some (.bool p)/\W.cell? ⟨w.heap.size,1,none⟩=some s/\W.cell? ⟨w.heap.size+1,0,none⟩=some (.bool q)/\W.cell? ⟨w.heap.size+1,1,none⟩=some t/\W.cell? ⟨g,0,none⟩=some (.bool pr)/\W.cell? ⟨g,1,none⟩=some (.slice A6 l6 k6)) (first | with_reducible exact HS1 | with_reducible exact HS2 | with_reducible exact HS3 | with_reducible exact HS4 | exact HS0)
   (first
    | (go_at_call 166;refine (H7.q2 _ (by exact Ai _ 1)).out.mono ?_;rintro e w4 ⟨v4,rfl,hb4,h4⟩;have HS1:=(H7.p0.keep (Yb (Ai _ 1) hb4)).ld;have K1:=Yh3 (H7.p0.keep (Yb (Ai _ 1) hb4)) h4 (Yb (Ai _ 1) hb4);clear hb4 h4)
    | (go_at_call 253;refine (K1.p1.out _ rfl).mono ?_;rintro e w5 ⟨v5,rfl,h5⟩;obtain ⟨pu,A5,l5,k5,rfl,H5⟩:=h5.parts;have D5:=K1.p0.keep h5.below;have HS2:=D5.ld;have HS3:=(D5.set2 (.bool pr) (.slice A6 l6 k6)).ld;have HS4:=((D5.set2 (.bool pr) (.slice A6 l6 k6)).set3 (.bool pu) (.slice A5 l5 k5)).ld;obtain ⟨e2,f2,X2⟩:=D5.box2;obtain ⟨x0,x1,x2,x3⟩:=X2.facts;obtain ⟨e3,f3,X3⟩:=(D5.set2 (.bool pr) (.slice A6 l6 k6)).box3;obtain ⟨y0,y1,y2,y3⟩:=X3.facts;have K2:=Yh3 D5 h5 (Yb K1.q2 h5.below);clear D5 h5 X2 X3))
  clear c0 c1 c2 c3 c4 c5 x0 x1 x2 x3 y0 y1 y2 y3 HS0 HS1 HS2 HS3 HS4;go_wp2_with fail;refine Kh K2.p0 (fun W d0 d1 d2 d3=>by simp [results,Tryz.results225,go_sem,d0,d1,d2,d3]) rfl (fun W' hW=>?_);exact ⟨_,_,rfl,hW.out _ _ (H7.p1.then K2.q2),hW.out _ _ (K2.p1.from (Yb H7.p0.below K1.q2))⟩
theorem DA {w:World} {L1 L2:Nat} {a b:Value} {x y:Int} (ha:Zn w L1 a x) (hb:Zn w L2 b y) (h1:L1<=17179869184) (h2:L2<=17179869184) (h0:y≠0):
 Calls Tryz.prog 225 #[a,b] w fun e w'=>∃ v u,e=.returned (.tuple #[v,u,.int .i64 0])/\Zs w w' v (Int.fdiv x y)/\Zs w w' u (x - Int.fdiv x y*y):=by
 obtain ⟨p,s,m,rfl,hs,rfl⟩:=ha;obtain ⟨q,t,n,rfl,ht,rfl⟩:=hb;have hn:n≠0:=fun h=>h0 (by rw [h,Iw]);by_cases hpq:p=q
 · subst hpq;have hz:sg false (m / n)=Int.fdiv (sg p m) (sg p n):=by rw [Ia];rfl
   have:=FU (p:=p) (q:=p) (r:=false) hs ht h1 h2 hn (by cases p<;>rfl) (.inl rfl);rw [hz] at this;exact this
 · obtain rfl:q=!p:=by cases p<;>cases q<;>simp_all
   by_cases hr:m % n=0
   · have hz:sg true (m / n)=Int.fdiv (sg p m) (sg (!p) n):=by rw [DU p m n hn,if_pos hr,Int.sub_zero];rfl
     have:=FU (p:=p) (q:=!p) (r:=true) hs ht h1 h2 hn (by cases p<;>rfl) (.inr hr);rw [hz] at this;exact this
   · exact IR (p:=p) (q:=!p) hs ht h1 h2 hn (by cases p<;>rfl) hr (by rw [DU p m n hn,if_neg hr];rfl)
end
end Go.Proofs.YtlblnmmfphiobaaGreat
