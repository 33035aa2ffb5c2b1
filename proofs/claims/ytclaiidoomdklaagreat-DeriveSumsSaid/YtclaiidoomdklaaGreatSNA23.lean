import Derived.Test.YtclaiidoomdklaaGreatSNA22
set_option maxRecDepth 100000
set_option maxHeartbeats 8000000
set_option linter.unusedVariables false
set_option linter.unusedSimpArgs false
namespace Go.Proofs.YtclaiidoomdklaaGreat
section
section
open Go Go.RowKit Go.Proofs Pl
theorem own_other {w:World} {B n size g j:Nat} {T:TypeId} {v x:Value} {xs:List Value} (h:w.ownsRow B T size v n xs) (hne:v.ownBlock≠some g):(w.setCell ⟨g,j,none⟩ x).ownsRow B T size v n xs:=by
 obtain ⟨h1,h2⟩:=h
 refine ⟨h1,?_⟩
 rcases h2 with ⟨rfl,h⟩ | ⟨g',cap,cur,rfl,hB,hh,r⟩
 · exact .inl ⟨rfl,h⟩
 · have hg:g'≠g:=fun e=>hne (by rw [<- e];rfl)
   exact .inr ⟨g',cap,cur,rfl,hB,(Below.heap_setCell w ⟨g,j,none⟩ x g' hg).trans hh,r⟩
theorem own_set5 {w:World} {B n size g:Nat} {T:TypeId} {v x0 x1 x2 x3 x4:Value} {xs:List Value} (h:w.ownsRow B T size v n xs) (hne:v.ownBlock≠some g):(cells5 w g x0 x1 x2 x3 x4).ownsRow B T size v n xs:=
 own_other (own_other (own_other (own_other (own_other h hne) hne) hne) hne) hne
theorem cons_info:(Tryz.prog.info? 39).map (fun i=>(i.zero,i.size,i.bytes))=some (some (.agg #[.int .i64 0,.slice none 0 0,.bool false,.slice none 0 0,.slice none 0 0]),5,88):=by kernel_rfl
def Rq (w0 w1 w:World) (v:Value) (fs:List Fx):Prop:=∃ xs,Rr w w1.heap.size 37 3 Rm.cs v xs/\Zip2 (fun x f=>Fv w0 x.num f) xs fs
section
variable {w w' w0 w1:World} {v:Value} {fs:List Fx} {f:Fx} {cs:List Cx} {c:Cx}
theorem Rq.keep (h:Rq w0 w1 w v fs) (hb:Below w.heap.size w w'):Rq w0 w1 w' v fs:=by
 obtain ⟨xs,h1,h2⟩:=h
 exact ⟨xs,h1.keep hb,h2⟩
theorem Rq.keepT (h:Rq w0 w1 w v fs) (hk:KeepT 37 w w'):Rq w0 w1 w' v fs:=by
 obtain ⟨xs,h1,h2⟩:=h
 exact ⟨xs,h1.keepT hk,h2⟩
theorem Rq.rx (h:Rq w0 w1 w v fs) (hb:Below w0.heap.size w0 w):Rx w v fs:=by
 obtain ⟨xs,h1,h2⟩:=h
 exact ⟨xs,h1.rv,h2.imp fun x f hf=>hf.keep hb⟩
theorem Kw.keepT (h:Kw w0 w v cs) (k:KeepT 39 w w') (k1:KeepT 85 w w') (k2:KeepT 155 w w') (hb:Below w0.heap.size w0 w'):Kw w0 w' v cs:=by
 obtain ⟨xs,h1,h2,h3⟩:=h
 exact ⟨xs,h1.keepT k,h2.imp fun x c hc=>hc.keepT k1 k2 hb,hb⟩
theorem Kw.keep5 {g:Nat} {us:List Value} (h:Kw w0 w v cs) (X:Bl w 39 g us) (hne:v.ownBlock≠some g) {x0 x1 x2 x3 x4:Value} (hb:Below w0.heap.size w0 (cells5 w g x0 x1 x2 x3 x4)):Kw w0 (cells5 w g x0 x1 x2 x3 x4) v cs:=by
 obtain ⟨xs,h1,h2,h3⟩:=h
 have h1':Rr (cells5 w g x0 x1 x2 x3 x4) w0.heap.size 39 5 Cm.cs v xs:=own_set5 h1 hne
 exact ⟨xs,h1',h2.imp fun x c hc=>hc.keepT (X.keep5 Yd _ _ _ _ _) (X.keep5 Yd _ _ _ _ _) hb,hb⟩
theorem Kw.own (h:Kw w0 w v cs):∀ k,v.ownBlock=some k->w0.heap.size<=k/\k<w.heap.size:=fun k hk=>by
 obtain ⟨xs,h1,-⟩:=h
 refine ⟨(h1.lt k hk).1,?_⟩
 obtain ⟨cs,e,m,hh,-⟩:=own_type h1 k hk
 exact heap_lt hh
theorem app_k {o:Oper} {a:Act} {K:Act->World->Prop} {Q:Exit->Act->World->Prop} (sO xO:Operand)
 (ho:o.op=.call { callee:=.builtin .append,args:=#[sO,xO],argTypes:=#[118,118] }) {gn:Nat} {x:Cm} (hs:a.eval sO=v) (hx:a.eval xO=.slice (some ⟨gn,0,none⟩) 1 1)
 (h:Kw w0 w v cs) (hc:Cw w0 w x.agg c) (hn:Bl w 39 gn x.cs) (hl:cs.length<=1048576)
 (hk:∀ v' w',Kw w0 w' v' (cs++[c])->(∀ T',39≠T'->KeepT T' w w')->(∀ g,g<w.heap.size->v.ownBlock≠some g->w'.heap[g]?=w.heap[g]?)->K (a.put o.dst v') w'):o.wp Tryz.prog a w K Q:=by
 obtain ⟨xs,h1,h2,h3⟩:=h
 refine app_el (f:=Cm.cs) (x:=x) Tryz.underlying118 cons_info ⟨Yd,rfl,Yd⟩ Cm.len Cm.one sO xO ho hs hx h1 hn (by rw [h2.1];exact hl) h3 ?_
 intro v' w' k1 k2 k3 k4
 have kt:=k3 85 Yd
 have ku:=k3 155 Yd
 exact hk v' w' ⟨_,k1,(h2.imp fun x c hc=>hc.keepT kt ku k2).app (hc.keepT kt ku k2),k2⟩ k3 k4
theorem app_ks {ops:Array Oper} {rest:List Oper} {o:Oper} {a:Act} {Q:Exit->Act->World->Prop} (hgd:o.guard=none) (sO xO:Operand)
 (ho:o.op=.call { callee:=.builtin .append,args:=#[sO,xO],argTypes:=#[118,118] }) {gn:Nat} {x:Cm} (hs:a.eval sO=v) (hx:a.eval xO=.slice (some ⟨gn,0,none⟩) 1 1)
 (h:Kw w0 w v cs) (hc:Cw w0 w x.agg c) (hn:Bl w 39 gn x.cs) (hl:cs.length<=1048576)
 (hk:∀ v' w',Kw w0 w' v' (cs++[c])->(∀ T',39≠T'->KeepT T' w w')->(∀ g,g<w.heap.size->v.ownBlock≠some g->w'.heap[g]?=w.heap[g]?)->wpList Tryz.prog ops Q rest (a.put o.dst v') w'):wpList Tryz.prog ops Q (o::rest) a w:=
 wpList_plain hgd fun _ hK=>app_k sO xO ho hs hx h hc hn hl fun v' w' k1 k2 k3=>hK _ _ (hk v' w' k1 k2 k3)
theorem app_q {o:Oper} {a:Act} {K:Act->World->Prop} {Q:Exit->Act->World->Prop} (sO xO:Operand)
 (ho:o.op=.call { callee:=.builtin .append,args:=#[sO,xO],argTypes:=#[24,24] }) {gn:Nat} {x:Rm} (hs:a.eval sO=v) (hx:a.eval xO=.slice (some ⟨gn,0,none⟩) 1 1)
 (h:Rq w0 w1 w v fs) (hf:Fv w0 x.num f) (hn:Bl w 37 gn x.cs) (hl:fs.length<=1048576) (hb:Yg w1 w)
 (hk:∀ v' w',Rq w0 w1 w' v' (fs++[f])->Yg w1 w'->(∀ T',37≠T'->KeepT T' w w')->K (a.put o.dst v') w'):o.wp Tryz.prog a w K Q:=by
 obtain ⟨xs,h1,h2⟩:=h
 refine app_el (f:=Rm.cs) (x:=x) Tryz.underlying24 rat_info ⟨Yd,rfl,Yd⟩ Rm.len Rm.one sO xO ho hs hx h1 hn (by rw [h2.1];exact hl) hb ?_
 intro v' w' k1 k2 k3 k4
 exact hk v' w' ⟨_,k1,h2.app hf⟩ k2 k3
theorem app_qs {ops:Array Oper} {rest:List Oper} {o:Oper} {a:Act} {Q:Exit->Act->World->Prop} (hgd:o.guard=none) (sO xO:Operand)
 (ho:o.op=.call { callee:=.builtin .append,args:=#[sO,xO],argTypes:=#[24,24] }) {gn:Nat} {x:Rm} (hs:a.eval sO=v) (hx:a.eval xO=.slice (some ⟨gn,0,none⟩) 1 1)
 (h:Rq w0 w1 w v fs) (hf:Fv w0 x.num f) (hn:Bl w 37 gn x.cs) (hl:fs.length<=1048576) (hb:Yg w1 w)
 (hk:∀ v' w',Rq w0 w1 w' v' (fs++[f])->Yg w1 w'->(∀ T',37≠T'->KeepT T' w w')->wpList Tryz.prog ops Q rest (a.put o.dst v') w'):wpList Tryz.prog ops Q (o::rest) a w:=
 wpList_plain hgd fun _ hK=>app_q sO xO ho hs hx h hf hn hl hb fun v' w' k1 k2 k3=>hK _ _ (hk v' w' k1 k2 k3)
end
theorem zip_take {l:LPx} {us:List Ux} {cs:List Cx} {k:Nat} {u:Ux} {c:Cx} (h:Zip2 (fun (u:Ux) c=>boundX l u.c u.u=some c) (us.take k) cs) (hu:us[k]?=some u) (hc:boundX l u.c u.u=some c):
 Zip2 (fun (u:Ux) c=>boundX l u.c u.u=some c) (us.take (k+1)) (cs++[c]):=by
 rw [take_f hu];exact h.app hc
theorem zip_sz {l:LPx} {us:List Ux} {cs:List Cx} (hf:Fit l) (hs:SzL l) (h:Zip2 (fun (u:Ux) c=>boundX l u.c u.u=some c) us cs):∀ c∈cs,SzC 211 14 c:=fun c hc=>by
 obtain ⟨i,hi⟩:=List.getElem?_of_mem hc
 obtain ⟨u,-,hu⟩:=h.left hi
 unfold boundX at hu
 split at hu
 · rename_i hh
   obtain rfl:=Option.some.inj hu
   exact cB_sz hf hs hh.1
 · cases hu
theorem sum_c {w:World} {v u:Value} {l:LPx} {us:List Ux} {sense:Int} (h:LPv w v l) (hf:Fit l) (hu:Uv w u us) (hl:us.length<=30) (hw:∀ x∈us,x.f.xs.length<=6/\x.f.ds.length<=6):
 Calls Tryz.prog 13 #[v,u,.int .i64 sense] w fun e w'=>∃ r p,e=.returned (.tuple #[r,.int .i64 p.2])/\Cw w w' r p.1/\SumIs l us sense p:=by
 have hsz:=fit_sz h hf
 have hv:=h
 obtain ⟨⟨n,⟨aA,an,ac⟩,⟨bA,bn,bc⟩,⟨cA,cn,cc⟩,⟨dA,dn,dc⟩,⟨eA,en,ec⟩,⟨fA,fn,fc⟩⟩,rfl,h1,-⟩:=h
 have h1:n=l.n:=h1
 subst h1
 obtain ⟨Au,cu,rfl,-,-⟩:=hu.shape
 obtain ⟨m,hm⟩:∃ m,us.length=m:=⟨_,rfl⟩
 rw [hm] at hl ⊢
 have HS:=Yh6 (show LPv w (.agg #[.int .i64 l.n,.slice aA an ac,.slice bA bn bc,.slice cA cn cc,.slice dA dn dc,.slice eA en ec,.slice fA fn fc]) l from hv) hf hsz hu hw hm
 clear hv hf hsz hu hw hm
 change Calls Tryz.prog 13 #[.agg #[.int .i64 l.n,.slice aA an ac,.slice bA bn bc,.slice cA cn cc,.slice dA dn dc,.slice eA en ec,.slice fA fn fc],_,_] w _
 go_enter Tryz.func13,Tryz.ntmps13
 go_upto_region 1 with (fail)
 have X0:=(Bl.new w 26 [.int .i64 l.n,.slice aA an ac,.slice bA bn bc,.slice cA cn cc,.slice dA dn dc,.slice eA en ec,.slice fA fn fc]).alloc (.cells #[.int .i64 0,.slice none 0 0,.bool false,.slice none 0 0,.slice none 0 0] 39)
 have R0:=Bl.new1 w (.cells #[.int .i64 l.n,.slice aA an ac,.slice bA bn bc,.slice cA cn cc,.slice dA dn dc,.slice eA en ec,.slice fA fn fc] 26) 39 [.int .i64 0,.slice none 0 0,.bool false,.slice none 0 0,.slice none 0 0]
 have hb0:Yg w ((w.alloc (.cells #[.int .i64 l.n,.slice aA an ac,.slice bA bn bc,.slice cA cn cc,.slice dA dn dc,.slice eA en ec,.slice fA fn fc] 26)).alloc (.cells #[.int .i64 0,.slice none 0 0,.bool false,.slice none 0 0,.slice none 0 0] 39)):=Yb (Ya _ _) (Ya _ _)
 obtain ⟨gR,hgR⟩:∃ g,g=w.heap.size+1:=⟨_,rfl⟩
 rw [<- hgR] at R0 ⊢
 have hgl:w.heap.size<gR:=Yo
 have S0:=Yh3 X0 R0 hb0
 generalize (w.alloc _).alloc _=W0 at S0 ⊢
 clear X0 R0 hb0 hgR
 have hgR:gR<W0.heap.size:=S0.p1.lt
 have S0B:=Lib.hid S0.q2
 go_wp2_with fail
 go_loopw [8,9,16] (fun z8 z9 z16 wr=>∃ (k:Nat) (u8 u9:Value) (cs:List Cx),z16=.int .i64 (k:Int)/\u8=z8/\u9=z9/\k<=m/\Hid (Bl wr 26 w.heap.size [.int .i64 l.n,.slice aA an ac,.slice bA bn bc,.slice cA cn cc,.slice dA dn dc,.slice eA en ec,.slice fA fn fc]/\Bl wr 39 gR [.int .i64 0,.slice none 0 0,.bool false,.slice none 0 0,.slice none 0 0]/\Kw W0 wr u8 cs/\Rq w W0 wr u9 ((us.map Ux.f).take k)/\Zip2 (fun (u:Ux) c=>boundX l u.c u.u=some c) (us.take k) cs)) (fun _ _ z _=>m - (intOf z).toNat)
 case atStart=>exact ⟨0,_,_,[],rfl,rfl,rfl,Nat.zero_le _,S0.p0,S0.p1,⟨[],Rr.nil _ _ _ _ _,Zip2.nil,Below.refl _ _⟩,⟨[],Rr.nil _ _ _ _ _,Zip2.nil⟩,Zip2.nil⟩
 case round=>
  clear S0
  obtain ⟨k,u8,u9,cs,rfl,rfl,rfl,hk,H⟩:=hrel
  by_cases hlt:k<m
  · skip
    have hku:k<us.length:=by rw [HS.q5];exact hlt
    obtain ⟨t,ht⟩:∃ t,us[k]?=some t:=⟨_,List.getElem?_eq_getElem hku⟩
    obtain ⟨gu,ou,capu,x,e,hgu,hFt,x0,x1,x2,x3,x4⟩:=HS.p3.at_ ht
    rw [HS.q5] at e
    injection e with e1 e2 e3
    subst e1
    have HU:Hid (∀ W,Yg w W->W.cell? ⟨gu,ou+k*5,none⟩=some (.int .i64 t.c)/\W.cell? ⟨gu,ou+k*5+1,none⟩=some (.bool t.u)/\W.cell? ⟨gu,ou+k*5+2,none⟩=some (.bool x.b)/\W.cell? ⟨gu,ou+k*5+3,none⟩=some (.slice x.A x.l x.k)/\W.cell? ⟨gu,ou+k*5+4,none⟩=some (.slice x.B x.m x.d)):=fun W hb=>⟨(hb.cell (p:=⟨gu,_,none⟩) hgu).trans x0,(hb.cell (p:=⟨gu,_,none⟩) hgu).trans x1,(hb.cell (p:=⟨gu,_,none⟩) hgu).trans x2,(hb.cell (p:=⟨gu,_,none⟩) hgu).trans x3,(hb.cell (p:=⟨gu,_,none⟩) hgu).trans x4⟩
    have hnx:(us.map Ux.f).take (k+1)=(us.map Ux.f).take k++[t.f]:=take_f (by rw [List.getElem?_map,ht];rfl)
    have hl9:((us.map Ux.f).take k).length<=1048576:=by rw [List.length_take];omega
    have hl8:cs.length<=1048576:=by rw [<- H.p4,List.length_take];omega
    have HT:=Yh5 ht hFt hnx hl9 hl8
    have dk:(k:Int)<(m:Int):=Yo
    have hbw:Yg w wr:=Yb S0B.out H.p2.below
    clear ht hku e2 e3 hgu hFt hnx hl9 hl8 x0 x1 x2 x3 x4 capu
    obtain ⟨x0,x1,x2,x3,x4⟩:=HU.out _ hbw
    go_upto_region 6 with (fail)
    have hal:=Ya wr (.cells #[.int .i64 t.c,.bool t.u,.bool x.b,.slice x.A x.l x.k,.slice x.B x.m x.d] 48)
    obtain ⟨g11,hg11⟩:∃ g,g=wr.heap.size:=⟨_,rfl⟩
    have hg1:gR<g11/\W0.heap.size<=g11:=by rw [hg11];exact ⟨H.p1.lt,H.p2.below.size⟩
    have HO:Hid (∀ k,u8.ownBlock=some k->W0.heap.size<=k/\k<g11):=by rw [hg11];exact H.p2.own
    have S1:=Yh7 (H.p0.keep hal) (H.p1.keep hal) (H.p2.keep hal) (H.p3.keep hal) (Bl.new wr 48 [.int .i64 t.c,.bool t.u,.bool x.b,.slice x.A x.l x.k,.slice x.B x.m x.d]) H.q4 (Yb hbw hal)
    rw [<- hg11] at S1 ⊢
    generalize wr.alloc _=W1 at S1 ⊢
    clear hal hg11 H hbw dk x0 x1 x2 x3 x4
    have l0:=Bl.ld S1.p0 0 rfl
    have l1:=Bl.ld S1.p0 1 rfl
    have l2:=Bl.ld S1.p0 2 rfl
    have l3:=Bl.ld S1.p0 3 rfl
    have l4:=Bl.ld S1.p0 4 rfl
    have l5:=Bl.ld S1.p0 5 rfl
    have l6:=Bl.ld S1.p0 6 rfl
    have y0:=Bl.ld S1.p4 0 rfl
    have y1:=Bl.ld S1.p4 1 rfl
    go_wp2_with fail
    refine (bound_c (HS.p0.keep S1.q6) HS.p1).mono ?_;rintro e w5 ⟨r5,rfl,hc1⟩
    have hb:=hc1.below
    have hc1:=hc1.from S1.p2.below
    obtain ⟨⟨s9,E9,n9,c9,b9,A9,l9,k9,B9,m9,d9⟩,rfl,hs1,ht1,hr1⟩:=hc1
    have hc1:Cw W0 w5 (.agg #[.int .i64 s9,.slice E9 n9 c9,.bool b9,.slice A9 l9 k9,.slice B9 m9 d9]) (tellX (boundX l t.c t.u)).1:=⟨⟨s9,E9,n9,c9,b9,A9,l9,k9,B9,m9,d9⟩,rfl,hs1,ht1,hr1⟩
    clear hs1 ht1 hr1
    simp only [Cm.agg]
    have S2:=Yh8 (S1.p0.keep hb) (S1.p1.keep hb) (S1.p2.keep hb) (S1.p3.keep hb) (S1.p4.keep hb) S1.p5 (Yb S1.q6 hb) hc1
    clear hb hc1 S1 y0 y1 l0 l1 l2 l3 l4 l5 l6
    go_upto_region 7 with (fail)
    have hal:=Ya w5 (.cells #[.int .i64 s9,.slice E9 n9 c9,.bool b9,.slice A9 l9 k9,.slice B9 m9 d9] 39)
    obtain ⟨g12,hg12⟩:∃ g,g=w5.heap.size:=⟨_,rfl⟩
    have hg2:g11<g12:=by rw [hg12];exact S2.p4.lt
    have S3:=Yh9 (S2.p0.keep hal) (S2.p1.keep hal) (S2.p2.keep hal) (S2.p3.keep hal) (S2.p4.keep hal) (Bl.new w5 39 [.int .i64 s9,.slice E9 n9 c9,.bool b9,.slice A9 l9 k9,.slice B9 m9 d9]) (S2.q7.keep hal) S2.p5 (Yb S2.p6 hal)
    rw [<- hg12] at S3 ⊢
    generalize w5.alloc _=W3 at S3 ⊢
    clear hal hg12 S2
    cases hbx:boundX l t.c t.u with
    | none=>
     rw [hbx] at S3
     simp only [tellX]
     have hE:SumIs l us sense (Cx.no,2):=.inl ⟨⟨t,List.mem_of_getElem? HT.p0,hbx⟩,rfl⟩
     have HE:=Lib.hid hE
     clear hE hbx
     have f0:=Bl.fr S3.p1 0
     have f1:=Bl.fr S3.p1 1
     have f2:=Bl.fr S3.p1 2
     have f3:=Bl.fr S3.p1 3
     have f4:=Bl.fr S3.p1 4
     have r0:=Bl.ld S3.p1 0 rfl
     have r1:=Bl.ld S3.p1 1 rfl
     have r2:=Bl.ld S3.p1 2 rfl
     have r3:=Bl.ld S3.p1 3 rfl
     have r4:=Bl.ld S3.p1 4 rfl
     go_wp2_with fail
     clear f0 r0 f1 r1 f2 r2 f3 r3 f4 r4
     try simp only [Exit.inBlock,Exit.then]
     refine ret_bl (S3.p1.set5 rfl _ _ _ _ _) (fun W hW=>by have d0:=hW 0 _ rfl;have d1:=hW 1 _ rfl;have d2:=hW 2 _ rfl;have d3:=hW 3 _ rfl;have d4:=hW 4 _ rfl;simp [results,Tryz.results13,go_sem,d0,d1,d2,d3,d4];try rfl) rfl ?_
     exact ⟨_,(Cx.no,2),rfl,Cw.no _ _ (below5 (Yb S0B.out S3.p2.below) (Nat.le_of_lt hgl) _ _ _ _ _),HE.out⟩
    | some c=>
     rw [hbx] at S3
     simp only [tellX] at S3 ⊢
     have HB:=Lib.hid hbx
     clear hbx
     go_upto_region 9 with (fail)
     have T0:=Yh10 (S3.p0.keep (below_d _)) (S3.p1.keep (below_d _)) (S3.p2.keep (below_d _)) (S3.p3.keep (below_d _)) (S3.p4.keep (below_d _)) (S3.p5.keep (below_d _)) (S3.p6.keep (below_d _)) S3.p7 (Yb S3.q8 (below_d _)) trivial
     clear S3
     refine wp_region_held_drew (S:=fun W=>Yc5 W g12 (.int .i64 s9) (.slice E9 n9 c9) (.bool b9) (.slice A9 l9 k9) (.slice B9 m9 d9) (Ye5 W g11 (.int .i64 t.c) (.bool t.u) (.bool x.b) (.slice x.A x.l x.k) (.slice x.B x.m x.d))) (by kernel_rfl) ⟨Bl.ld T0.p5 0 rfl,Bl.ld T0.p5 1 rfl,Bl.ld T0.p5 2 rfl,Bl.ld T0.p5 3 rfl,Bl.ld T0.p5 4 rfl,Bl.ld T0.p4 0 rfl,Bl.ld T0.p4 1 rfl,Bl.ld T0.p4 2 rfl,Bl.ld T0.p4 3 rfl,Bl.ld T0.p4 4 rfl⟩ (fun Hh=>?_)
     refine rgRun 5 [0,1,4,5,6] Hh fun K hK=>?_
     repeat refine rgA ?_
     refine hK _ _ ?_;clear hK K
     generalize W3.drew=Wd at T0 Hh ⊢
     refine rgReady [2,7] (rgOne (fun K hK=>?_) (rgOne (fun K hK=>?_) rgNil))
     · skip
       go_simp
       have hal:=Ya Wd (.cells #[.int .i64 s9,.slice E9 n9 c9,.bool b9,.slice A9 l9 k9,.slice B9 m9 d9] 39)
       have U1:=Yh11 (T0.p0.keep hal) (T0.p1.keep hal) (T0.p2.keep hal) (T0.p3.keep hal) (T0.p4.keep hal) (T0.p5.keep hal) (T0.p6.keep hal) T0.p7 (Yb T0.p8 hal) (Bl.new Wd 39 [.int .i64 s9,.slice E9 n9 c9,.bool b9,.slice A9 l9 k9,.slice B9 m9 d9]) trivial
       refine rgK hK ⟨Bl.ld U1.p5 0 rfl,Bl.ld U1.p5 1 rfl,Bl.ld U1.p5 2 rfl,Bl.ld U1.p5 3 rfl,Bl.ld U1.p5 4 rfl,Bl.ld U1.p4 0 rfl,Bl.ld U1.p4 1 rfl,Bl.ld U1.p4 2 rfl,Bl.ld U1.p4 3 rfl,Bl.ld U1.p4 4 rfl⟩ fun Hh=>?_;clear hK K
       clear hal T0
       obtain ⟨gn2,hgn⟩:∃ k,Wd.heap.size=k:=⟨_,rfl⟩
       rw [hgn] at U1 ⊢
       generalize Wd.alloc _=V1 at U1 Hh ⊢
       clear hgn
       refine rgReady [3,7] (rgOne (fun K hK=>?_) (rgOne (fun K hK=>?_) rgNil))
       · skip
         rw [if_pos (by rfl)]
         refine app_k (c:=c) (.tmp 33) (.tmp 35) rfl (x:=⟨s9,E9,n9,c9,b9,A9,l9,k9,B9,m9,d9⟩) rfl rfl U1.p2 U1.p6 U1.p9 HT.q4 ?_
         intro v8 V2 q1 q2 q3
         have hown:=HO.out
         have hbw:Yg w V2:=Yb S0B.out q1.below
         have hR:Bl V2 39 gR [.int .i64 0,.slice none 0 0,.bool false,.slice none 0 0,.slice none 0 0]:=(q3 gR U1.p1.lt (fun e=>by have:=(hown gR e).1;omega)).trans U1.p1
         have hX:Bl V2 39 g12 [.int .i64 s9,.slice E9 n9 c9,.bool b9,.slice A9 l9 k9,.slice B9 m9 d9]:=(q3 g12 U1.p5.lt (fun e=>by have:=(hown g12 e).2;omega)).trans U1.p5
         have U2:=Yh10 ((q2 _ Yd).bl U1.p0) hR q1 (U1.p3.keepT (q2 _ Yd)) ((q2 _ Yd).bl U1.p4) hX ((q2 _ Yd).bl U1.p0) U1.p7 hbw trivial
         refine rgK hK ⟨Bl.ld U2.p5 0 rfl,Bl.ld U2.p5 1 rfl,Bl.ld U2.p5 2 rfl,Bl.ld U2.p5 3 rfl,Bl.ld U2.p5 4 rfl,Bl.ld U2.p4 0 rfl,Bl.ld U2.p4 1 rfl,Bl.ld U2.p4 2 rfl,Bl.ld U2.p4 3 rfl,Bl.ld U2.p4 4 rfl⟩ fun Hh=>?_;clear hK K
         clear q1 q2 q3 hown hbw hR hX U1
         refine rgO 7 fun K hK=>?_
         go_simp
         have hal:=Ya V2 (.cells #[.bool x.b,.slice x.A x.l x.k,.slice x.B x.m x.d] 37)
         have U3:=Yh11 (U2.p0.keep hal) (U2.p1.keep hal) (U2.p2.keep hal) (U2.p3.keep hal) (U2.p4.keep hal) (U2.p5.keep hal) (U2.p6.keep hal) U2.p7 (Yb U2.p8 hal) (Bl.new V2 37 [.bool x.b,.slice x.A x.l x.k,.slice x.B x.m x.d]) trivial
         refine rgK hK ⟨Bl.ld U3.p5 0 rfl,Bl.ld U3.p5 1 rfl,Bl.ld U3.p5 2 rfl,Bl.ld U3.p5 3 rfl,Bl.ld U3.p5 4 rfl,Bl.ld U3.p4 0 rfl,Bl.ld U3.p4 1 rfl,Bl.ld U3.p4 2 rfl,Bl.ld U3.p4 3 rfl,Bl.ld U3.p4 4 rfl⟩ fun Hh=>?_;clear hK K
         clear hal U2
         obtain ⟨gn7,hgn⟩:∃ k,V2.heap.size=k:=⟨_,rfl⟩
         rw [hgn] at U3 ⊢
         generalize V2.alloc _=V3 at U3 Hh ⊢
         clear hgn
         refine rgO 8 fun K hK=>?_
         rw [if_pos (by rfl)]
         refine app_q (w1:=W0) (.tmp 37) (.tmp 40) rfl (x:=Rm.mk x.b x.A x.l x.k x.B x.m x.d) rfl rfl U3.p3 HT.p1 U3.p9 HT.p3 U3.p2.below ?_
         intro v9 V4 q1 qb q2
         have KK:Hid (Bl V4 26 w.heap.size [.int .i64 l.n,.slice aA an ac,.slice bA bn bc,.slice cA cn cc,.slice dA dn dc,.slice eA en ec,.slice fA fn fc]/\Bl V4 39 gR [.int .i64 0,.slice none 0 0,.bool false,.slice none 0 0,.slice none 0 0]/\Kw W0 V4 v8 (cs++[c])/\Rq w W0 V4 v9 ((us.map Ux.f).take (k+1))/\Zip2 (fun (u:Ux) c=>boundX l u.c u.u=some c) (us.take (k+1)) (cs++[c])):=⟨(q2 _ Yd).bl U3.p0,(q2 _ Yd).bl U3.p1,U3.p2.keepT (q2 _ Yd) (q2 _ Yd) (q2 _ Yd) qb,by rw [HT.p2];exact q1,zip_take U3.p7 HT.p0 HB.out⟩
         have hX:=(q2 39 Yd).bl U3.p5
         have hY:=(q2 48 Yd).bl U3.p4
         refine rgK hK ⟨Bl.ld hX 0 rfl,Bl.ld hX 1 rfl,Bl.ld hX 2 rfl,Bl.ld hX 3 rfl,Bl.ld hX 4 rfl,Bl.ld hY 0 rfl,Bl.ld hY 1 rfl,Bl.ld hY 2 rfl,Bl.ld hY 3 rfl,Bl.ld hY 4 rfl⟩ fun Hh=>?_;clear hK K
         clear q1 qb q2 hX hY U3
         refine rgT 9 Hh ?_
         refine rgT 10 Hh ?_
         refine Yw ?_
         clear Hh
         go_wp2_with fail
         case roundEnd=>exact ⟨⟨k+1,v8,v9,cs++[c],by go_num,rfl,rfl,Yo,KK.out⟩,by simp [intOf];omega⟩
       go_simp
       have hal:=Ya V1 (.cells #[.bool x.b,.slice x.A x.l x.k,.slice x.B x.m x.d] 37)
       have U5:=Yh12 (U1.p0.keep hal) (U1.p1.keep hal) (U1.p2.keep hal) (U1.p3.keep hal) (U1.p4.keep hal) (U1.p5.keep hal) (U1.p6.keep hal) U1.p7 (Yb U1.p8 hal) (U1.p9.keep hal) (Bl.new V1 37 [.bool x.b,.slice x.A x.l x.k,.slice x.B x.m x.d]) trivial
       refine rgK hK ⟨Bl.ld U5.p5 0 rfl,Bl.ld U5.p5 1 rfl,Bl.ld U5.p5 2 rfl,Bl.ld U5.p5 3 rfl,Bl.ld U5.p5 4 rfl,Bl.ld U5.p4 0 rfl,Bl.ld U5.p4 1 rfl,Bl.ld U5.p4 2 rfl,Bl.ld U5.p4 3 rfl,Bl.ld U5.p4 4 rfl⟩ fun Hh=>?_;clear hK K
       clear hal U1
       obtain ⟨gn7,hgn⟩:∃ k,V1.heap.size=k:=⟨_,rfl⟩
       rw [hgn] at U5 ⊢
       generalize V1.alloc _=V5 at U5 Hh ⊢
       clear hgn
       refine rgO 3 fun K hK=>?_
       rw [if_pos (by rfl)]
       refine app_k (c:=c) (.tmp 33) (.tmp 35) rfl (x:=⟨s9,E9,n9,c9,b9,A9,l9,k9,B9,m9,d9⟩) rfl rfl U5.p2 U5.p6 U5.p9 HT.q4 ?_
       intro v8 V6 q1 q2 q3
       have hown:=HO.out
       have hbw:Yg w V6:=Yb S0B.out q1.below
       have hR:Bl V6 39 gR [.int .i64 0,.slice none 0 0,.bool false,.slice none 0 0,.slice none 0 0]:=(q3 gR U5.p1.lt (fun e=>by have:=(hown gR e).1;omega)).trans U5.p1
       have hX:Bl V6 39 g12 [.int .i64 s9,.slice E9 n9 c9,.bool b9,.slice A9 l9 k9,.slice B9 m9 d9]:=(q3 g12 U5.p5.lt (fun e=>by have:=(hown g12 e).2;omega)).trans U5.p5
       have U6:=Yh11 ((q2 _ Yd).bl U5.p0) hR q1 (U5.p3.keepT (q2 _ Yd)) ((q2 _ Yd).bl U5.p4) hX ((q2 _ Yd).bl U5.p0) U5.p7 hbw ((q2 _ Yd).bl U5.p10) trivial
       refine rgK hK ⟨Bl.ld U6.p5 0 rfl,Bl.ld U6.p5 1 rfl,Bl.ld U6.p5 2 rfl,Bl.ld U6.p5 3 rfl,Bl.ld U6.p5 4 rfl,Bl.ld U6.p4 0 rfl,Bl.ld U6.p4 1 rfl,Bl.ld U6.p4 2 rfl,Bl.ld U6.p4 3 rfl,Bl.ld U6.p4 4 rfl⟩ fun Hh=>?_;clear hK K
       clear q1 q2 q3 hown hbw hR hX U5
       refine rgO 8 fun K hK=>?_
       rw [if_pos (by rfl)]
       refine app_q (w1:=W0) (.tmp 37) (.tmp 40) rfl (x:=Rm.mk x.b x.A x.l x.k x.B x.m x.d) rfl rfl U6.p3 HT.p1 U6.p9 HT.p3 U6.p2.below ?_
       intro v9 V7 q1 qb q2
       have KK:Hid (Bl V7 26 w.heap.size [.int .i64 l.n,.slice aA an ac,.slice bA bn bc,.slice cA cn cc,.slice dA dn dc,.slice eA en ec,.slice fA fn fc]/\Bl V7 39 gR [.int .i64 0,.slice none 0 0,.bool false,.slice none 0 0,.slice none 0 0]/\Kw W0 V7 v8 (cs++[c])/\Rq w W0 V7 v9 ((us.map Ux.f).take (k+1))/\Zip2 (fun (u:Ux) c=>boundX l u.c u.u=some c) (us.take (k+1)) (cs++[c])):=⟨(q2 _ Yd).bl U6.p0,(q2 _ Yd).bl U6.p1,U6.p2.keepT (q2 _ Yd) (q2 _ Yd) (q2 _ Yd) qb,by rw [HT.p2];exact q1,zip_take U6.p7 HT.p0 HB.out⟩
       have hX:=(q2 39 Yd).bl U6.p5
       have hY:=(q2 48 Yd).bl U6.p4
       refine rgK hK ⟨Bl.ld hX 0 rfl,Bl.ld hX 1 rfl,Bl.ld hX 2 rfl,Bl.ld hX 3 rfl,Bl.ld hX 4 rfl,Bl.ld hY 0 rfl,Bl.ld hY 1 rfl,Bl.ld hY 2 rfl,Bl.ld hY 3 rfl,Bl.ld hY 4 rfl⟩ fun Hh=>?_;clear hK K
       clear q1 qb q2 hX hY U6
       refine rgT 9 Hh ?_
       refine rgT 10 Hh ?_
       refine Yw ?_
       clear Hh
       go_wp2_with fail
       case roundEnd=>exact ⟨⟨k+1,v8,v9,cs++[c],by go_num,rfl,rfl,Yo,KK.out⟩,by simp [intOf];omega⟩
     go_simp
     have hal:=Ya Wd (.cells #[.bool x.b,.slice x.A x.l x.k,.slice x.B x.m x.d] 37)
     have U8:=Yh11 (T0.p0.keep hal) (T0.p1.keep hal) (T0.p2.keep hal) (T0.p3.keep hal) (T0.p4.keep hal) (T0.p5.keep hal) (T0.p6.keep hal) T0.p7 (Yb T0.p8 hal) (Bl.new Wd 37 [.bool x.b,.slice x.A x.l x.k,.slice x.B x.m x.d]) trivial
     refine rgK hK ⟨Bl.ld U8.p5 0 rfl,Bl.ld U8.p5 1 rfl,Bl.ld U8.p5 2 rfl,Bl.ld U8.p5 3 rfl,Bl.ld U8.p5 4 rfl,Bl.ld U8.p4 0 rfl,Bl.ld U8.p4 1 rfl,Bl.ld U8.p4 2 rfl,Bl.ld U8.p4 3 rfl,Bl.ld U8.p4 4 rfl⟩ fun Hh=>?_;clear hK K
     clear hal T0
     obtain ⟨gn7,hgn⟩:∃ k,Wd.heap.size=k:=⟨_,rfl⟩
     rw [hgn] at U8 ⊢
     generalize Wd.alloc _=V8 at U8 Hh ⊢
     clear hgn
     refine rgO 2 fun K hK=>?_
     go_simp
     have hal:=Ya V8 (.cells #[.int .i64 s9,.slice E9 n9 c9,.bool b9,.slice A9 l9 k9,.slice B9 m9 d9] 39)
     have U9:=Yh12 (U8.p0.keep hal) (U8.p1.keep hal) (U8.p2.keep hal) (U8.p3.keep hal) (U8.p4.keep hal) (U8.p5.keep hal) (U8.p6.keep hal) U8.p7 (Yb U8.p8 hal) (U8.p9.keep hal) (Bl.new V8 39 [.int .i64 s9,.slice E9 n9 c9,.bool b9,.slice A9 l9 k9,.slice B9 m9 d9]) trivial
     refine rgK hK ⟨Bl.ld U9.p5 0 rfl,Bl.ld U9.p5 1 rfl,Bl.ld U9.p5 2 rfl,Bl.ld U9.p5 3 rfl,Bl.ld U9.p5 4 rfl,Bl.ld U9.p4 0 rfl,Bl.ld U9.p4 1 rfl,Bl.ld U9.p4 2 rfl,Bl.ld U9.p4 3 rfl,Bl.ld U9.p4 4 rfl⟩ fun Hh=>?_;clear hK K
     clear hal U8
     obtain ⟨gn2,hgn⟩:∃ k,V8.heap.size=k:=⟨_,rfl⟩
     rw [hgn] at U9 ⊢
     generalize V8.alloc _=V9 at U9 Hh ⊢
     clear hgn
     refine rgO 3 fun K hK=>?_
     rw [if_pos (by rfl)]
     refine app_k (c:=c) (.tmp 33) (.tmp 35) rfl (x:=⟨s9,E9,n9,c9,b9,A9,l9,k9,B9,m9,d9⟩) rfl rfl U9.p2 U9.p6 U9.p10 HT.q4 ?_
     intro v8 V10 q1 q2 q3
     have hown:=HO.out
     have hbw:Yg w V10:=Yb S0B.out q1.below
     have hR:Bl V10 39 gR [.int .i64 0,.slice none 0 0,.bool false,.slice none 0 0,.slice none 0 0]:=(q3 gR U9.p1.lt (fun e=>by have:=(hown gR e).1;omega)).trans U9.p1
     have hX:Bl V10 39 g12 [.int .i64 s9,.slice E9 n9 c9,.bool b9,.slice A9 l9 k9,.slice B9 m9 d9]:=(q3 g12 U9.p5.lt (fun e=>by have:=(hown g12 e).2;omega)).trans U9.p5
     have U10:=Yh11 ((q2 _ Yd).bl U9.p0) hR q1 (U9.p3.keepT (q2 _ Yd)) ((q2 _ Yd).bl U9.p4) hX ((q2 _ Yd).bl U9.p0) U9.p7 hbw ((q2 _ Yd).bl U9.p9) trivial
     refine rgK hK ⟨Bl.ld U10.p5 0 rfl,Bl.ld U10.p5 1 rfl,Bl.ld U10.p5 2 rfl,Bl.ld U10.p5 3 rfl,Bl.ld U10.p5 4 rfl,Bl.ld U10.p4 0 rfl,Bl.ld U10.p4 1 rfl,Bl.ld U10.p4 2 rfl,Bl.ld U10.p4 3 rfl,Bl.ld U10.p4 4 rfl⟩ fun Hh=>?_;clear hK K
     clear q1 q2 q3 hown hbw hR hX U9
     refine rgO 8 fun K hK=>?_
     rw [if_pos (by rfl)]
     refine app_q (w1:=W0) (.tmp 37) (.tmp 40) rfl (x:=Rm.mk x.b x.A x.l x.k x.B x.m x.d) rfl rfl U10.p3 HT.p1 U10.p9 HT.p3 U10.p2.below ?_
     intro v9 V11 q1 qb q2
     have KK:Hid (Bl V11 26 w.heap.size [.int .i64 l.n,.slice aA an ac,.slice bA bn bc,.slice cA cn cc,.slice dA dn dc,.slice eA en ec,.slice fA fn fc]/\Bl V11 39 gR [.int .i64 0,.slice none 0 0,.bool false,.slice none 0 0,.slice none 0 0]/\Kw W0 V11 v8 (cs++[c])/\Rq w W0 V11 v9 ((us.map Ux.f).take (k+1))/\Zip2 (fun (u:Ux) c=>boundX l u.c u.u=some c) (us.take (k+1)) (cs++[c])):=⟨(q2 _ Yd).bl U10.p0,(q2 _ Yd).bl U10.p1,U10.p2.keepT (q2 _ Yd) (q2 _ Yd) (q2 _ Yd) qb,by rw [HT.p2];exact q1,zip_take U10.p7 HT.p0 HB.out⟩
     have hX:=(q2 39 Yd).bl U10.p5
     have hY:=(q2 48 Yd).bl U10.p4
     refine rgK hK ⟨Bl.ld hX 0 rfl,Bl.ld hX 1 rfl,Bl.ld hX 2 rfl,Bl.ld hX 3 rfl,Bl.ld hX 4 rfl,Bl.ld hY 0 rfl,Bl.ld hY 1 rfl,Bl.ld hY 2 rfl,Bl.ld hY 3 rfl,Bl.ld hY 4 rfl⟩ fun Hh=>?_;clear hK K
     clear q1 qb q2 hX hY U10
     refine rgT 9 Hh ?_
     refine rgT 10 Hh ?_
     refine Yw ?_
     clear Hh
     go_wp2_with fail
     case roundEnd=>exact ⟨⟨k+1,v8,v9,cs++[c],by go_num,rfl,rfl,Yo,KK.out⟩,by simp [intOf];omega⟩
  obtain rfl:k=m:=by omega
  have dk:¬ (k:Int)<(k:Int):=Yo
  have hz:Zip2 (fun (u:Ux) c=>boundX l u.c u.u=some c) us cs:=by have h:=H.q4;rw [List.take_of_length_le (by rw [HS.q5];exact Nat.le_refl _)] at h;exact h
  have hr:Rq w W0 wr u9 (us.map Ux.f):=by have h:=H.p3;rw [List.take_of_length_le (by rw [List.length_map,HS.q5];exact Nat.le_refl _)] at h;exact h
  have hbw:Yg w wr:=Yb S0B.out H.p2.below
  have HZ:=Yh3 hz hr hbw
  clear hz hr hbw
  go_wp2_with fail
  refine (combine_c (cs:=cs) (fs:=us.map Ux.f) H.p2.kv (HZ.p1.rx HZ.q2) (by rw [List.length_map];exact HZ.p0.1.symm) (by rw [<- HZ.p0.1,HS.q5];exact hl) (zip_sz HS.p1 HS.p2 HZ.p0) (fun f hf=>by obtain ⟨x,hx,rfl⟩:=List.mem_map.1 hf;exact HS.p4 x hx)).mono ?_;rintro e wz ⟨uz,rfl,hz⟩
  obtain ⟨p,hp⟩:∃ p,p=combX cs (us.map Ux.f) sense:=⟨_,rfl⟩
  rw [<- hp] at hz ⊢
  have HP:Hid (SumIs l us sense p):=.inr ⟨cs,HZ.p0,hp⟩
  clear hp
  have hcb:=hz.below
  obtain ⟨⟨sz,Ez,nz,cz,bz,Az,lz,kz,Bz,mz,dz⟩,rfl,hsz,htz,hrz⟩:=hz
  have Z:Hid (Bl wz 39 gR [.int .i64 0,.slice none 0 0,.bool false,.slice none 0 0,.slice none 0 0]/\Cw w wz (.agg #[.int .i64 sz,.slice Ez nz cz,.bool bz,.slice Az lz kz,.slice Bz mz dz]) p.1):=⟨H.p1.keep hcb,⟨sz,Ez,nz,cz,bz,Az,lz,kz,Bz,mz,dz⟩,rfl,hsz,htz.from HZ.q2,hrz.from HZ.q2⟩
  clear htz hrz hcb hsz H
  have f0:=Bl.fr Z.p0 0
  have f1:=Bl.fr Z.p0 1
  have f2:=Bl.fr Z.p0 2
  have f3:=Bl.fr Z.p0 3
  have f4:=Bl.fr Z.p0 4
  have r0:=Bl.ld Z.p0 0 rfl
  have r1:=Bl.ld Z.p0 1 rfl
  have r2:=Bl.ld Z.p0 2 rfl
  have r3:=Bl.ld Z.p0 3 rfl
  have r4:=Bl.ld Z.p0 4 rfl
  simp only [Cm.agg]
  go_wp2_with fail
  clear f0 r0 f1 r1 f2 r2 f3 r3 f4 r4
  try simp only [Exit.inBlock,Exit.then]
  refine ret_bl (Z.p0.set5 rfl _ _ _ _ _) (fun W hW=>by have d0:=hW 0 _ rfl;have d1:=hW 1 _ rfl;have d2:=hW 2 _ rfl;have d3:=hW 3 _ rfl;have d4:=hW 4 _ rfl;simp [results,Tryz.results13,go_sem,d0,d1,d2,d3,d4];try rfl) rfl ?_
  exact ⟨_,p,rfl,Z.q1.keepT (Z.p0.keep5 Yd _ _ _ _ _) (Z.p0.keep5 Yd _ _ _ _ _) (below5 Z.q1.below (Nat.le_of_lt hgl) _ _ _ _ _),HP.out⟩
end
end
section
open Go Go.RowKit Go.Proofs Go.Lib
section
variable {P:Program} {md:Region.Mode} {ops:Array Oper} {Q:Exit->Act->World->Prop} {S:World->Prop} {oi:Oper} {v:Value} {fuel:Nat} {listed:Array Bool} {a:Act} {w:World} {rs:List Nat} {i:Nat}
def readyAt (md:Region.Mode) (ops:Array Oper) (l:Array Bool) (i:Nat):Bool:=!l.getD i true && ((ops[i]?).map (·.after.all fun e=>!Region.binds md e || l.getD e.on false)).getD false
theorem readyAt_mem {l:Array Bool} (h:readyAt md ops l i=true):(Region.ready md ops l).contains i=true:=by
 rw [List.contains_iff_mem]
 refine List.mem_filter.2 ⟨List.mem_range.2 ?_,h⟩
 cases ho:ops[i]? with
 | none=>simp [readyAt,ho] at h
 | some o=>exact (Array.getElem?_eq_some_iff.1 ho).1
def freeD (md:Region.Mode) (ops:Array Oper) (i:Nat):Bool:=
 match ops[i]? with
 | none=>false
 | some oi=>(List.range ops.size).all fun j=>j==i || oi.after.any (fun e=>Region.binds md e && e.on==j) || match ops[j]? with
  | some oj=>oj.after.any (fun e=>Region.binds md e && e.on==i) || oi.apart ops oj
  | none=>true
def freeAll (md:Region.Mode) (ops:Array Oper) (fs:List Nat):Bool:=Region.noSelect ops && fs.all fun i=>freeD md ops i
theorem free_of {l:Array Bool} (h:freeD md ops i=true) (hr:readyAt md ops l i=true):Region.free md ops l i=true:=by
 unfold freeD at h
 unfold Region.free
 cases ho:ops[i]? with
 | none=>rw [ho] at h;cases h
 | some o=>
  rw [ho] at h
  simp only [List.all_eq_true,List.mem_range] at h ⊢
  intro j hj
  have:=h j hj
  simp only [Bool.or_eq_true] at this ⊢
  rcases this with (h1 | h1) | h1
  · exact .inl (.inl h1)
  · refine .inl (.inr ?_)
    obtain ⟨e,he,hb⟩:=Array.any_eq_true'.1 h1
    simp only [Bool.and_eq_true,beq_iff_eq] at hb
    simp only [readyAt,ho,Option.map_some,Option.getD_some,Bool.and_eq_true] at hr
    have h2:=Array.all_eq_true_iff_forall_mem.1 hr.2 e he
    rw [hb.1,hb.2] at h2
    simp only [Bool.not_true,Bool.false_or] at h2
    rcases Nat.lt_or_ge j l.size with h' | h'
    · simp [h'] at h2 ⊢;exact h2
    · simp [h'] at h2
  · exact .inr h1
theorem freeAll_free {fs:List Nat} {l:Array Bool} (h:freeAll md ops fs=true) (hi:fs.contains i=true) (hr:readyAt md ops l i=true):Region.free md ops l i=true:=by
 unfold freeAll at h
 rw [Bool.and_eq_true,List.all_eq_true] at h
 exact free_of (h.2 i (List.contains_iff_mem.1 hi)) hr
theorem freeAll_noSelect {fs:List Nat} (h:freeAll md ops fs=true):Region.noSelect ops=true:=by
 unfold freeAll at h
 rw [Bool.and_eq_true] at h
 exact h.1
theorem rgFree (fs:List Nat) (bl:List Bool) (h:Hid (freeAll md ops fs=true)->wpAnyH P md ops Q S fuel bl.toArray a w) (hf:freeAll md ops fs=true:=by as_aux_lemma=>kernel_rfl) (hl:listed=bl.toArray:=by as_aux_lemma=>kernel_rfl):wpAnyH P md ops Q S fuel listed a w:=by
 subst hl;exact h hf
theorem rgTk (i d:Nat) {l:List Value} {bl:List Bool} {ds:List Deferred} {fs:List Nat} (hF:Hid (freeAll md ops fs=true)) (hS:S w) (h:wpAnyH P md ops Q S fuel (bl.set i true).toArray ⟨(l.set d v).toArray,ds⟩ w)
 (hi:ops[i]?=some oi:=by simp only [List.getElem?_toArray,List.getElem?_cons_succ,List.getElem?_cons_zero];rfl) (hd:oi.dst=some d:=by rfl)
 (hm:fs.contains i=true:=by as_aux_lemma=>kernel_rfl) (hr:readyAt md ops bl.toArray i=true:=by as_aux_lemma=>kernel_rfl)
 (hw:Region.wanted oi (yielded ops l.toArray)=true:=by rfl)
 (hy:∀ w,S w->(execOp (Act.eval ⟨l.toArray,ds⟩) oi).run P w=.ok (.value v) w:=by (intro w hSw;(try dsimp only at hSw);(first | (go_simp;done) | (go_simp;with_reducible rfl) | (go_simp;rw [if_neg (by omega)]))))
 (hQ:∀ c a w,Q (.panic c) (a.put (some d) v) w->Q (.panic c) a w:=by exact fun _ _ _ h=>h):wpAnyH P md ops Q S (fuel+1) bl.toArray ⟨l.toArray,ds⟩ w:=by
 refine wpAnyH_take hi (freeAll_noSelect hF) (freeAll_free hF hm hr) (readyAt_mem hr) (by rw [hd];exact hQ) (.inl ⟨hw,hy⟩) hS ?_
 rw [hd,List.setIfInBounds_toArray]
 show wpAnyH P md ops Q S fuel _ ⟨l.toArray.setIfInBounds d v,ds⟩ w
 rw [List.setIfInBounds_toArray]
 exact h
theorem rgU (i d:Nat) {l l':List Value} {bl bl':List Bool} {ds:List Deferred} {fs:List Nat} (hF:Hid (freeAll md ops fs=true)) (hS:S w) (h:wpAnyH P md ops Q S fuel bl'.toArray ⟨l'.toArray,ds⟩ w)
 (hi:ops[i]?=some oi:=by simp only [List.getElem?_toArray,List.getElem?_cons_succ,List.getElem?_cons_zero];rfl) (hd:oi.dst=some d:=by rfl)
 (hm:fs.contains i=true:=by as_aux_lemma=>kernel_rfl) (hr:readyAt md ops bl.toArray i=true:=by as_aux_lemma=>kernel_rfl)
 (hw:Region.wanted oi (yielded ops l.toArray)=true:=by rfl)
 (hy:∀ w,S w->(execOp (Act.eval ⟨l.toArray,ds⟩) oi).run P w=.ok (.value v) w:=by (intro w hSw;(try dsimp only at hSw);(first | (go_simp;done) | (go_simp;with_reducible rfl) | (go_simp;rw [if_neg (by omega)]))))
 (hQ:∀ c a w,Q (.panic c) (a.put (some d) v) w->Q (.panic c) a w:=by exact fun _ _ _ h=>h)
 (e1:bl.set i true=bl':=by first | (dsimp only [Ys,Yt];done) | (dsimp only [Ys,Yt];exact rfl) | exact rfl | kernel_rfl) (e2:l.set d v=l':=by first | (dsimp only [Ys,Yt];done) | (dsimp only [Ys,Yt];exact rfl) | exact rfl | kernel_rfl):wpAnyH P md ops Q S (fuel+1) bl.toArray ⟨l.toArray,ds⟩ w:=by
 subst e1;subst e2
 exact rgTk i d hF hS h hi hd hm hr hw hy hQ
def skipsOk (md:Region.Mode) (ops:Array Oper) (fs:List Nat):List (Nat × Option Nat)->Array Bool->Act->Bool
 | [],_,_=>true
 | (i,d)::is,l,a=>(match ops[i]? with | none=>false | some o=>decide (o.dst=d) && !(Region.wanted o (yielded ops a.tmps))) && fs.contains i && readyAt md ops l i && skipsOk md ops fs is (l.setIfInBounds i true) (a.put d undef)
def QsOk (Q:Exit->Act->World->Prop):List (Nat × Option Nat)->Prop
 | []=>True
 | p::r=>(∀ c a w,Q (.panic c) (Act.put a p.2 undef) w->Q (.panic c) a w)/\QsOk Q r
theorem rgSks_ {fs:List Nat} (hF:Hid (freeAll md ops fs=true)) (hS:S w):∀ (is:List (Nat × Option Nat)) (listed:Array Bool) (a:Act),QsOk Q is->skipsOk md ops fs is listed a=true->
 wpAnyH P md ops Q S fuel (is.foldl (fun l p=>l.setIfInBounds p.1 true) listed) (is.foldl (fun a p=>a.put p.2 undef) a) w->wpAnyH P md ops Q S (fuel+is.length) listed a w
 | [],_,_,_,_,h=>h
 | (i,d)::is,l,a,hQ,hc,h=>by
  simp only [skipsOk,Bool.and_eq_true] at hc
  obtain ⟨⟨⟨h1,h2⟩,h3⟩,h4⟩:=hc
  cases ho:ops[i]? with
  | none=>rw [ho] at h1;cases h1
  | some o=>
   rw [ho] at h1
   simp only [Bool.and_eq_true,decide_eq_true_eq,Bool.not_eq_true'] at h1
   obtain ⟨rfl,h5⟩:=h1
   rw [List.length_cons,<- Nat.add_assoc]
   exact wpAnyH_take ho (freeAll_noSelect hF) (freeAll_free hF h2 h3) (readyAt_mem h3) hQ.1 (.inr ⟨h5,rfl⟩) hS (rgSks_ hF hS is _ _ hQ.2 h4 h)
def skL (is:List (Nat × Option Nat)) (bl:List Bool):List Bool:=is.foldl (fun l p=>l.set p.1 true) bl
def skA (is:List (Nat × Option Nat)) (l:List Value):List Value:=is.foldl (fun l p=>match p.2 with | some d=>l.set d undef | none=>l) l
theorem skL_eq:∀ (is:List (Nat × Option Nat)) (bl:List Bool),is.foldl (fun l p=>l.setIfInBounds p.1 true) bl.toArray=(skL is bl).toArray
 | [],_=>rfl
 | p::is,bl=>by
  rw [List.foldl_cons,List.setIfInBounds_toArray]
  exact skL_eq is _
theorem skA_eq {ds:List Deferred}:∀ (is:List (Nat × Option Nat)) (l:List Value),is.foldl (fun a p=>Act.put a p.2 undef) ⟨l.toArray,ds⟩=⟨(skA is l).toArray,ds⟩
 | [],_=>rfl
 | (i,none)::is,l=>by
  rw [List.foldl_cons]
  exact skA_eq is _
 | (i,some d)::is,l=>by
  rw [List.foldl_cons]
  show is.foldl _ (⟨l.toArray.setIfInBounds d undef,ds⟩:Act)=_
  rw [List.setIfInBounds_toArray]
  exact skA_eq is _
theorem rgSks (k:Nat) (is:List (Nat × Option Nat)) {l:List Value} {bl:List Bool} {ds:List Deferred} {fs:List Nat} (hF:Hid (freeAll md ops fs=true)) (hS:S w)
 (h:wpAnyH P md ops Q S fuel (skL is bl).toArray ⟨(skA is l).toArray,ds⟩ w)
 (hc:skipsOk md ops fs is bl.toArray ⟨l.toArray,ds⟩=true:=by as_aux_lemma=>kernel_rfl) (hk:is.length=k:=by rfl)
 (hQ:QsOk Q is:=by (repeat' (first | exact trivial | refine And.intro (fun _ _ _ h=>h) ?_))):wpAnyH P md ops Q S (fuel+k) bl.toArray ⟨l.toArray,ds⟩ w:=by
 subst hk
 exact rgSks_ hF hS is _ _ hQ hc (by rw [skL_eq,skA_eq];exact h)
end
end
section
section
open Go Go.RowKit Go.Proofs Pl
section
variable {T e:TypeId} {w w0:World} {g h B:Nat} {us vs:List Value} {x0 x1 x2:Value}
def cells3 (w:World) (g:Nat) (x0 x1 x2:Value):World:=(((w.setCell ⟨g,0,none⟩ x0).setCell ⟨g,1,none⟩ x1).setCell ⟨g,2,none⟩ x2)
theorem Bl.set3 (X:Bl w T g us) (hl:us.length=3) (x0 x1 x2:Value):Bl (cells3 w g x0 x1 x2) T g [x0,x1,x2]:=by
 have:=((X.set 0 x0).set 1 x1).set 2 x2
 match us,hl with
 | [_,_,_],_=>exact this
theorem Bl.keep3 (X:Bl w T g us) (hne:T≠e) (x0 x1 x2:Value):KeepT e w (cells3 w g x0 x1 x2):=
 ((X.keepT1 hne 0 x0).trans ((X.set 0 x0).keepT1 hne 1 x1)).trans (((X.set 0 x0).set 1 x1).keepT1 hne 2 x2)
theorem below3 (hb:Below B w0 w) (hg:B<=g) (x0 x1 x2:Value):Below B w0 (cells3 w g x0 x1 x2):=
 ((hb.setCell (p:=⟨g,0,none⟩) hg x0).setCell (p:=⟨g,1,none⟩) hg x1).setCell (p:=⟨g,2,none⟩) hg x2
end
theorem Rr.lit1 {α:Type} {f:α->List Value} {s:Nat} (w:World) (B:Nat) (T:TypeId) (x:α) (hB:B<=w.heap.size) (hf:∀ x,(f x).length=s) (h0:0<s):Rr (w.alloc (.cells (f x).toArray T)) B T s f (.slice (some ⟨w.heap.size,0,none⟩) 1 1) [x]:=by
 exact ⟨by simp [flat,hf],.inr ⟨w.heap.size,1,(f x).toArray,rfl,hB,World.alloc_heap_new w _,Nat.le_refl _,by unfold maxLen;decide,by simp [hf],by have e:=hf x;subst e;simp [flat]⟩⟩
theorem LPv.open {w:World} {v:Value} {l:LPx} (h:LPv w v l):∃ aA an ac bA bn bc cA cn cc dA dn dc eA en ec fA fn fc,v=.agg #[.int .i64 l.n,.slice aA an ac,.slice bA bn bc,.slice cA cn cc,.slice dA dn dc,.slice eA en ec,.slice fA fn fc]/\
 (Gx w (.slice aA an ac) l.cols/\Ex w (.slice bA bn bc) l.hasLo/\Ex w (.slice cA cn cc) l.hasHi/\Rx w (.slice dA dn dc) l.lo/\Rx w (.slice eA en ec) l.hi/\Rx w (.slice fA fn fc) l.cost)/\
 l.cols.length=an/\l.hasLo.length=bn/\l.hasHi.length=cn/\l.lo.length=dn/\l.hi.length=en/\l.cost.length=fn/\(an<=maxLen/\bn<=maxLen/\cn<=maxLen/\dn<=maxLen/\en<=maxLen/\fn<=maxLen):=by
 obtain ⟨⟨n,⟨aA,an,ac⟩,⟨bA,bn,bc⟩,⟨cA,cn,cc⟩,⟨dA,dn,dc⟩,⟨eA,en,ec⟩,⟨fA,fn,fc⟩⟩,rfl,h1,h2,h3,h4,h5,h6,h7⟩:=h
 have h1:n=l.n:=h1
 subst h1
 have h2:Gx w (.slice aA an ac) l.cols:=h2
 have h3:Ex w (.slice bA bn bc) l.hasLo:=h3
 have h4:Ex w (.slice cA cn cc) l.hasHi:=h4
 have h5:Rx w (.slice dA dn dc) l.lo:=h5
 have h6:Rx w (.slice eA en ec) l.hi:=h6
 have h7:Rx w (.slice fA fn fc) l.cost:=h7
 obtain ⟨_,_,e1,k1,k1'⟩:=h2.shape
 obtain ⟨_,_,e2,k2,k2'⟩:=h3.shape
 obtain ⟨_,_,e3,k3,k3'⟩:=h4.shape
 obtain ⟨_,_,e4,k4,k4'⟩:=h5.shape
 obtain ⟨_,_,e5,k5,k5'⟩:=h6.shape
 obtain ⟨_,_,e6,k6,k6'⟩:=h7.shape
 injection e1 with _ e1 _
 injection e2 with _ e2 _
 injection e3 with _ e3 _
 injection e4 with _ e4 _
 injection e5 with _ e5 _
 injection e6 with _ e6 _
 exact ⟨aA,an,ac,bA,bn,bc,cA,cn,cc,dA,dn,dc,eA,en,ec,fA,fn,fc,rfl,⟨h2,h3,h4,h5,h6,h7⟩,e1.symm,e2.symm,e3.symm,e4.symm,e5.symm,e6.symm,Yo,Yo,Yo,Yo,Yo,Yo⟩
theorem sm64 {z:Int} (h:z.natAbs<=1000000):Small64 z:=by unfold Small64;omega
theorem sz_int {z:Int} (h:z.natAbs<=1000000):Sz 1 (z:Rat):=⟨by rw [WB_eq];show z.natAbs<_;omega,by rw [WB_eq];show 1<_;decide⟩
namespace I
theorem rat_d {w:World} {z:Int} (h:z.natAbs<=1000000):
 Calls Tryz.prog 64 #[.int .i64 z] w fun e w'=>∃ v,e=.returned v/\Qr w w' v (z:Rat):=by
 have HL:=Yh2 (sm64 h) (sz_int h)
 clear h
 go_enter Tryz.func64,Tryz.ntmps64
 go_upto_region 1 with (fail)
 have S1:=Yh2 (Bl.new w 37 [.bool false,.slice none 0 0,.slice none 0 0]) (Ya w (.cells #[.bool false,.slice none 0 0,.slice none 0 0] 37))
 generalize w.alloc _=W0 at S1 ⊢
 go_wp2_with fail
 refine (small_e HL.p0).mono ?_;rintro e w2 ⟨v,rfl,h,hb⟩
 have S2:=Yh3 (S1.p0.keep hb) h (Yb S1.q1 hb)
 clear h hb S1
 go_wp2_with fail
 refine (to_r S2.p1 Yd HL.q1 Yd).mono ?_;rintro e w3 ⟨v,rfl,h⟩
 obtain ⟨pq,Aq,lq,cq,Av,lv,cv,rfl⟩:=h.parts
 have S3:=Yh3 (S2.p0.keep h.below) (h.from S2.q2) (Yb S2.q2 h.below)
 clear h S2
 have f0:=Bl.fr S3.p0 0
 have f1:=Bl.fr S3.p0 1
 have f2:=Bl.fr S3.p0 2
 have r0:=Bl.ld S3.p0 0 rfl
 have r1:=Bl.ld S3.p0 1 rfl
 have r2:=Bl.ld S3.p0 2 rfl
 go_wp2_with fail
 clear f0 f1 f2 r0 r1 r2
 refine ret_bl (S3.p0.set3 rfl _ _ _) (fun W hW=>by have d0:=hW 0 _ rfl;have d1:=hW 1 _ rfl;have d2:=hW 2 _ rfl;simp [results,Tryz.results64,go_sem,d0,d1,d2];try rfl) rfl ?_
 exact ⟨_,rfl,S3.p1.keepT (S3.p0.keep3 Yd _ _ _) (below3 S3.q2 (Nat.le_refl _) _ _ _)⟩
theorem slack_d {w:World} {row:Int}:
 Calls Tryz.prog 67 #[.int .i64 row] w fun e w'=>∃ v,e=.returned v/\Tw w w' v [(row,fq (-1))]:=by
 go_enter Tryz.func67,Tryz.ntmps67
 go_wp2_with fail
 refine (rat_d Yd).mono ?_;rintro e w2 ⟨v,rfl,h⟩
 have H:=Lib.hid h.fw
 clear h
 obtain ⟨A,l,c,B,k,d,rfl⟩:=H.out.fv.parts
 obtain ⟨b,hbb⟩:∃ b,b=(fq ((-1:Int):Rat)).b:=⟨_,rfl⟩
 rw [<- hbb] at H ⊢
 have HX:Hid (Tw w (w2.alloc (.cells #[.int .i64 row,.bool b,.slice A l c,.slice B k d] 85)) (.slice (some ⟨w2.heap.size,0,none⟩) 1 1) [(row,fq (-1))]):=
  ⟨[⟨row,b,A,l,c,B,k,d,-1⟩],Rr.lit1 (f:=Tm.cs) w2 w.heap.size 85 ⟨row,b,A,l,c,B,k,d,-1⟩ H.out.below.size Tm.len Yd,Zip2.nil.app (x:=(⟨row,b,A,l,c,B,k,d,-1⟩:Tm)) (y:=(row,fq (-1))) ⟨rfl,(fq_q (-1)).symm,H.out.keep (Ya _ _)⟩,Yb H.out.below (Ya _ _)⟩
 clear hbb
 go_wp2_with fail
 go_ret
 exact ⟨_,rfl,HX.out⟩
theorem form12_d {w:World} {a:Value} {f:Fx} (h:Fv w a f) (hx:f.xs.length<=6/\f.ds.length<=6):
 Calls Tryz.prog 63 #[a] w fun e w'=>e=.returned (.bool (decide (f=fq f.q)))/\Yg w w':=by
 obtain ⟨A,l,c,B,k,d,rfl⟩:=h.parts
 have HS:=Yh2 h hx
 clear h hx
 go_enter Tryz.func63,Tryz.ntmps63
 go_upto_region 1 with (fail)
 have S0:=Yh2 (Bl.new w 37 [.bool f.b,.slice A l c,.slice B k d]) (Ya w (.cells #[.bool f.b,.slice A l c,.slice B k d] 37))
 have HS:=Yh2 (HS.p0.keep S0.q1) HS.q1
 generalize w.alloc _=W0 at S0 HS ⊢
 have HC:Hid (∀ W,Yg W0 W->Ye3 W w.heap.size (.bool f.b) (.slice A l c) (.slice B k d)):=fun W hb=>⟨Bl.ld (S0.p0.keep hb) 0 rfl,Bl.ld (S0.p0.keep hb) 1 rfl,Bl.ld (S0.p0.keep hb) 2 rfl⟩
 have HQ:=Lib.hid (HS.p0.qv HS.p1 HS.q2)
 have HZ:=Lib.hid (HQ.out.sz Yd)
 refine wp_region_held_drew (S:=fun W=>Ye3 W w.heap.size (.bool f.b) (.slice A l c) (.slice B k d)) (by kernel_rfl) (HC.out _ (below_d _)) (fun Hh=>?_)
 have B1:=Lib.hid (below_d W0)
 generalize W0.drew=Wd at B1 Hh ⊢
 refine rgFree [0,1] (Yl 6 0) (fun HFR=>?_)
 refine rgU 0 3 HFR Hh ?_
 refine rgU 1 4 HFR Hh ?_
 refine rgO 2 fun K hK=>?_
 go_simp
 go_at_call 28;refine (of_e (HQ.out.keep B1.out) Yd Yd).mono ?_;rintro e w2 ⟨v2,rfl,h2,hb⟩
 have B2:=Lib.hid (Yb B1.out hb)
 have H2:=Lib.hid h2
 clear h2 hb B1 Hh
 go_wp2_with fail
 refine rgK hK (HC.out _ B2.out) fun Hh=>?_;clear hK K
 refine rgO 3 fun K hK=>?_
 go_simp
 go_at_call 29;refine (to_r H2.out Yd HZ.out Yd).mono ?_;rintro e w3 ⟨v3,rfl,h3⟩
 have B3:=Lib.hid (Yb B2.out h3.below)
 have H3:=Lib.hid h3.fw
 clear h3 B2 Hh
 go_wp2_with fail
 refine rgK hK (HC.out _ B3.out) fun Hh=>?_;clear hK K
 refine rgO 4 fun K hK=>?_
 go_simp
 go_at_call 57;refine (_root_.Go.Proofs.YtclaiidoomdklaaGreat.same_f (HS.p0.keep B3.out) H3.out.fv).mono ?_;rintro e w4 ⟨rfl,hb⟩
 have B4:=Lib.hid (Yb B3.out hb)
 clear hb B3 Hh
 go_wp2_with fail
 refine rgK hK (HC.out _ B4.out) fun Hh=>?_;clear hK K
 refine rgT 5 Hh ?_
 refine Yw ?_
 clear Hh
 go_wp2_with fail
 go_ret
 exact ⟨rfl,Yb S0.q1 B4.out⟩
end I
end
end
end Go.Proofs.YtclaiidoomdklaaGreat
