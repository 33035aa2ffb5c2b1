import Derived.Test.YtaajajngnmaggaaGreatENA13
set_option maxRecDepth 100000
set_option maxHeartbeats 8000000
set_option linter.unusedVariables false
set_option linter.unusedSimpArgs false
namespace Go.Proofs.YtaajajngnmaggaaGreat
section
section
open Go Go.RowKit Go.Proofs Pl
theorem same_zb {w:World} {a c:Value} {b b':Bool} {xs ys:List Nat} (ha:Zl w a b xs) (hc:Zl w c b' ys):
 Calls Tryz.prog 109 #[a,c] w fun e w'=>e=.returned (.bool (decide (b=b'/\xs=ys)))/\Yg w w':=by
 obtain ⟨s,rfl,hs⟩:=ha
 obtain ⟨t,rfl,ht⟩:=hc
 have hsm:=fun W (hb:Yg w W)=>same_nl (hs.keep hb) (ht.keep hb)
 have HS:=Lib.hid hsm
 clear hsm hs ht
 by_cases hbb:b=b'
 · have e1:(b==b')=true:=by rw [hbb];cases b'<;>rfl
   have e2:decide (b=b'/\xs=ys)=decide (xs=ys):=by simp [hbb]
   rw [e2]
   clear hbb e2
   go_enter Tryz.func109,Tryz.ntmps109
   go_wp2_with fail
   refine (HS.out _ (by go_grown)).mono ?_;rintro e w1 ⟨rfl,hb1⟩
   have HB:=Lib.hid (Yb (Yb (Ya w _) (Ya _ _)) hb1)
   clear hb1
   go_wp2_with fail
   go_ret
   exact ⟨rfl,HB.out⟩
 · have e1:(b==b')=false:=by cases b<;>cases b'<;>simp_all
   have e2:decide (b=b'/\xs=ys)=false:=by simp [hbb]
   rw [e2]
   clear hbb e2
   go_enter Tryz.func109,Tryz.ntmps109
   go_wp2_with fail
   go_ret
   exact ⟨rfl,Yb (Ya w _) (Ya _ _)⟩
theorem same_f {w:World} {a c:Value} {f g:Fx} (ha:Fv w a f) (hc:Fv w c g):
 Calls Tryz.prog 44 #[a,c] w fun e w'=>e=.returned (.bool (decide (f=g)))/\Yg w w':=by
 obtain ⟨s,d,rfl,hs,hd⟩:=ha
 obtain ⟨t,u,rfl,ht,hu⟩:=hc
 obtain ⟨b,xs,ds⟩:=f
 obtain ⟨b',ys,es⟩:=g
 have hfg:decide ((⟨b,xs,ds⟩:Fx)=⟨b',ys,es⟩)=(decide (b=b'/\xs=ys) && decide (ds=es)):=by
  rw [<- Bool.decide_and];congr 1;simp [and_assoc]
 rw [hfg]
 have HD:=Lib.hid (show ds=ds from rfl)
 have S0:=Yh5 ((show Zl w (.agg #[.bool b,s]) b xs from ⟨s,rfl,hs⟩)) ((show Zl w (.agg #[.bool b',t]) b' ys from ⟨t,rfl,ht⟩)) hd hu (Below.refl w.heap.size w)
 clear hs hd ht hu hfg
 dsimp only at S0 ⊢
 go_enter Tryz.func44,Tryz.ntmps44
 go_upto_region 1 with (fail)
 have hb:=Yb (Ya w (.cells #[.bool b,s,d] 36)) (Ya _ (.cells #[.bool b',t,u] 36))
 have hX0:=(B3.new 36 w  (.bool b) s d).alloc (.cells #[.bool b',t,u] 36)
 have hX1:=B3.new1 36 w (.cells #[.bool b,s,d] 36) (.bool b') t u
 have S1:=Yh7 (S0.p0.keep hb) (S0.p1.keep hb) (S0.p2.keep hb) (S0.p3.keep hb) hX0 hX1 (Yb S0.q4 hb)
 clear hb hX0 hX1 S0
 generalize ((w.alloc _).alloc _)=W0 at S1 ⊢
 obtain ⟨xa,xb,xc,-,-,-⟩:=S1.p4.facts
 obtain ⟨ya,yb,yc,-,-,-⟩:=S1.p5.facts
 go_wp2_with fail
 refine (same_zb S1.p0 S1.p1).mono ?_;rintro e w2 ⟨rfl,hb⟩
 have S2:=Yh5 (S1.p2.keep hb) (S1.p3.keep hb) (S1.p4.keep hb) (S1.p5.keep hb) (Yb S1.q6 hb)
 clear hb xa xb xc ya yb yc S1
 obtain ⟨xa,xb,xc,-,-,-⟩:=S2.p2.facts
 obtain ⟨ya,yb,yc,-,-,-⟩:=S2.p3.facts
 obtain ⟨r,hr⟩:∃ r,r=decide (b=b'/\xs=ys):=⟨_,rfl⟩
 rw [<- hr]
 have HR:=Lib.hid hr
 clear hr
 cases r with
 | true=>
  go_wp2_with fail
  refine (same_nl S2.p0 S2.p1).mono ?_;rintro e w3 ⟨rfl,hb⟩
  have S3:=Lib.hid (Yb S2.q4 hb)
  clear hb xa xb xc ya yb yc S2
  go_wp2_with fail
  go_ret
  exact ⟨by rw [<- HR.out];rfl,S3.out⟩
 | false=>
  have S3:=Lib.hid S2.q4
  go_wp2_with fail
  go_ret
  exact ⟨by rw [<- HR.out];rfl,S3.out⟩
theorem int_word':34≠125:=by decide
theorem Ow.keepT {w w':World} {B:Nat} {v:Value} {xs:List Nat} (h:Ow w B v xs) (k:KeepT 125 w w'):Ow w' B v xs:=⟨h.1,own_keepT h.2 k⟩
theorem copy_zw {w:World} {a:Value} {b:Bool} {xs:List Nat} (ha:Zl w a b xs) (hl:xs.length<=274877906944):
 Calls Tryz.prog 147 #[a] w fun e w'=>∃ s,e=.returned (.agg #[.bool b,s])/\Ow w' w.heap.size s xs/\Yg w w':=by
 obtain ⟨s,rfl,hs⟩:=ha
 have hto:=fun W (hb:Yg w W)=>copy_nl (hs.keep hb) hl
 have HT:=Lib.hid hto
 clear hto hs hl
 have N0:=new2 34 34 w (.bool b) s (.bool false) (.slice none 0 0)
 go_enter Tryz.func147,Tryz.ntmps147
 go_upto_region 1 with (fail)
 generalize (w.alloc _).alloc _=W0 at N0 ⊢
 have HN:=Lib.hid N0
 have HS0:=(N0.drew 1).ld
 have HS1:=HS0
 have HS2:=HS0
 have HS3:=HS0
 clear N0
 go_region_held3 (fun W=>W.cell? ⟨w.heap.size,0,none⟩=some (.bool b)/\W.cell? ⟨w.heap.size,1,none⟩=some s) (first | with_reducible exact HS1 | with_reducible exact HS2 | with_reducible exact HS3 | exact HS0)
  (first
   | (go_at_call 148;refine (HT.out _ (by exact Yb HN.q2 (below_dr _ 1))).mono ?_;rintro e w1 ⟨v1,rfl,h1,hb1⟩;have h1o:=h1.mono (show w.heap.size<=W0.drew.heap.size from (Yb HN.q2 (below_dr _ 1)).size);have h1':=h1.nl;obtain ⟨A,c,rfl,h1b⟩:=h1';obtain ⟨la,hla⟩:∃ la,la=xs.length:=⟨_,rfl⟩;rw [<- hla] at h1o ⊢;have N1:=(HN.out.drew 1).keep hb1;have HS1:=N1.ld;have HS2:=(N1.st (.bool b) (.slice A la c)).ld;obtain ⟨k0,k1,k2,k3⟩:=N1.2.1.facts;have H1:=Yh2 N1 h1o;clear N1 h1 h1b hb1 h1o hla))
 go_wp2_with fail
 refine ret_bx H1.p0.2.1 (fun W d0 d1=>by simp [results,Tryz.results147,go_sem,d0,d1]) rfl ?_
 exact ⟨_,rfl,H1.q1.keepT (H1.p0.2.1.keepT int_word' _ _),(H1.p0.st _ _).2.2⟩
theorem copy_f {w:World} {a:Value} {f:Fx} (ha:Fv w a f) (h1:f.xs.length<=274877906944) (h2:f.ds.length<=274877906944):
 Calls Tryz.prog 90 #[a] w fun e w'=>∃ v,e=.returned v/\Fw w w' v f:=by
 obtain ⟨s,d,rfl,hs,hd⟩:=ha
 obtain ⟨b,xs,ds⟩:=f
 dsimp only at hs hd h1 h2 ⊢
 have HL:=Yh2 h1 h2
 have S0:=Yh3 ((show Zl w (.agg #[.bool b,s]) b xs from ⟨s,rfl,hs⟩)) hd (Below.refl w.heap.size w)
 clear hs hd h1 h2
 go_enter Tryz.func90,Tryz.ntmps90
 go_upto_region 1 with (fail)
 have hb:=Yb (Ya w (.cells #[.bool b,s,d] 36)) (Ya _ (.cells #[.bool false,.slice none 0 0,.slice none 0 0] 36))
 have hX0:=(B3.new 36 w  (.bool b) s d).alloc (.cells #[.bool false,.slice none 0 0,.slice none 0 0] 36)
 have hX1:=B3.new1 36 w (.cells #[.bool b,s,d] 36) (.bool false) (.slice none 0 0) (.slice none 0 0)
 have S1:=Yh5 (S0.p0.keep hb) (S0.p1.keep hb) hX0 hX1 (Yb S0.q2 hb)
 clear hb hX0 hX1 S0
 generalize ((w.alloc _).alloc _)=W0 at S1 ⊢
 go_upto_region 1 with (fail)
 have S2:=Yh5 (S1.p0.keep (below_dr _ 1)) (S1.p1.keep (below_dr _ 1)) (S1.p2.keep (below_dr _ 1)) (S1.p3.keep (below_dr _ 1)) (Yb S1.q4 (below_dr _ 1))
 refine wp_region_held_drew (S:=fun W=>Ye3 W w.heap.size (.bool b) s d) (by kernel_rfl) ⟨S2.p2.facts.1,S2.p2.facts.2.1,S2.p2.facts.2.2.1⟩ (fun Hh=>?_)
 refine rgT 0 Hh ?_
 refine rgT 1 Hh ?_
 refine rgT 3 Hh ?_
 refine rgT 4 Hh ?_
 refine rgO 2 fun K hK=>?_
 go_simp
 go_at_call 147;refine (copy_zw S2.p0 HL.p0).mono ?_;rintro e w3 ⟨s1,rfl,h,hb⟩
 have h:=h.mono S2.q4.size
 obtain ⟨A1,c1,rfl,-⟩:=own_slice h.2
 obtain ⟨l1,hl1⟩:∃ l,l=xs.length:=⟨_,rfl⟩
 rw [<- hl1] at h ⊢
 clear hl1
 have S3:=Yh6 (S2.p0.keep hb) (S2.p1.keep hb) (S2.p2.keep hb) (S2.p3.keep hb) h (Yb S2.q4 hb)
 clear h hb Hh
 go_wp2_with fail
 refine rgK hK ⟨S3.p2.facts.1,S3.p2.facts.2.1,S3.p2.facts.2.2.1⟩ fun Hh=>?_;clear hK K
 refine rgO 5 fun K hK=>?_
 go_simp
 go_at_call 148;refine (copy_nl S3.p1 HL.q1).mono ?_;rintro e w4 ⟨v,rfl,h,hb⟩
 have h:=h.mono S3.q5.size
 obtain ⟨A2,c2,rfl,-⟩:=own_slice h.2
 obtain ⟨l2,hl2⟩:∃ l,l=ds.length:=⟨_,rfl⟩
 rw [<- hl2] at h ⊢
 clear hl2
 have S4:=Yh7 (S3.p0.keep hb) (S3.p1.keep hb) (S3.p2.keep hb) (S3.p3.keep hb) (S3.p4.keep hb) h (Yb S3.q5 hb)
 clear h hb Hh
 go_wp2_with fail
 refine rgK hK ⟨S4.p2.facts.1,S4.p2.facts.2.1,S4.p2.facts.2.2.1⟩ fun Hh=>?_;clear hK K
 refine rgT 6 Hh ?_
 obtain ⟨f0,f1,f2,f3,f4,f5⟩:=S4.p3.facts
 refine rgO 7 fun K hK=>?_
 go_simp;clear f0 f1 f2 f3 f4 f5
 refine rgK hK ⟨cell_st3 _ S4.p2.facts.1 Yo,cell_st3 _ S4.p2.facts.2.1 Yo,cell_st3 _ S4.p2.facts.2.2.1 Yo⟩ fun Hh=>?_;clear hK K
 refine Yw ?_
 clear Hh
 go_wp2_with fail
 refine ret_b3 S4.p3 (fun W d0 d1 d2=>by simp [results,Tryz.results90,go_sem,d0,d1,d2];try rfl) rfl ?_
 have k:=S4.p3.keepT rat_word (.bool b) (.slice A1 l1 c1) (.slice A2 l2 c2)
 exact ⟨_,rfl,⟨_,_,rfl,S4.p4.keepT k,S4.p5.keepT k⟩,S4.p3.below S4.q6 Yo _ _ _⟩
end
end
section
section
open Go Go.RowKit Go.Proofs Pl
structure Rm where
 b:Bool
 A:Option Addr
 l:Nat
 k:Nat
 B:Option Addr
 m:Nat
 d:Nat
def Rm.cs (x:Rm):List Value:=[.bool x.b,.slice x.A x.l x.k,.slice x.B x.m x.d]
def Rm.num (x:Rm):Value:=.agg #[.bool x.b,.slice x.A x.l x.k,.slice x.B x.m x.d]
theorem Rm.len (x:Rm):x.cs.length=3:=rfl
theorem Rm.one (x:Rm):∀ u∈x.cs,u.oneCell'=true:=fun u hu=>by
 simp only [Rm.cs,List.mem_cons,List.not_mem_nil,or_false] at hu
 rcases hu with rfl | rfl | rfl<;>rfl
def Tm.cs (x:Tm):List Value:=[.int .i64 x.c,.bool x.b,.slice x.A x.l x.k,.slice x.B x.m x.d]
theorem Tm.len (x:Tm):x.cs.length=4:=rfl
theorem Tm.one (x:Tm):∀ u∈x.cs,u.oneCell'=true:=fun u hu=>by
 simp only [Tm.cs,List.mem_cons,List.not_mem_nil,or_false] at hu
 rcases hu with rfl | rfl | rfl | rfl<;>rfl
theorem flatT_flat (xs:List Tm):flatT xs=flat Tm.cs xs:=by
 induction xs with
 | nil=>rfl
 | cons x xs ih=>show _::_::_::_::flatT xs=Tm.cs x++flat Tm.cs xs;rw [ih];rfl
theorem rat_info:(Tryz.prog.info? 36).map (fun i=>(i.zero,i.size,i.bytes))=some (some (.agg #[.bool false,.slice none 0 0,.slice none 0 0]),3,56):=by kernel_rfl
def Rx (w:World) (v:Value) (fs:List Fx):Prop:=∃ xs,Rv w Rm.cs v xs/\Zip2 (fun x f=>Fv w x.num f) xs fs
def Ro (w0 w:World) (v:Value) (fs:List Fx):Prop:=∃ xs,Rr w w0.heap.size 36 3 Rm.cs v xs/\Zip2 (fun x f=>Fw w0 w x.num f) xs fs/\Yg w0 w
def Tx (w:World) (v:Value) (ts:List (Int × Fx)):Prop:=∃ xs:List Tm,Rv w Tm.cs v xs/\Zip2 (fun x t=>x.c=t.1/\x.q=t.2.q/\Fv w x.num t.2) xs ts
def Tw (w0 w:World) (v:Value) (ts:List (Int × Fx)):Prop:=∃ xs:List Tm,Rr w w0.heap.size 63 4 Tm.cs v xs/\Zip2 (fun x t=>x.c=t.1/\x.q=t.2.q/\Fw w0 w x.num t.2) xs ts/\Yg w0 w
def qT (ts:List (Int × Fx)):Tms:=ts.map fun t=>(t.1,t.2.q)
def fqT (l:Tms):List (Int × Fx):=l.map fun t=>(t.1,fq t.2)
theorem qT_fq (l:Tms):qT (fqT l)=l:=by
 unfold qT fqT
 rw [List.map_map]
 conv=>rhs;rw [<- List.map_id l]
 exact List.map_congr_left fun t _=>by show (t.1,(fq t.2).q)=t;rw [fq_q]
section
variable {w w' w0 w1:World} {v:Value} {fs:List Fx} {f:Fx} {ts:List (Int × Fx)} {t:Int × Fx} {i n L:Nat}
theorem Rx.keep (h:Rx w v fs) (hb:Below w.heap.size w w'):Rx w' v fs:=by
 obtain ⟨xs,h1,h2⟩:=h
 exact ⟨xs,h1.keep hb,h2.imp fun x f hf=>hf.keep hb⟩
theorem Tx.keep (h:Tx w v ts) (hb:Below w.heap.size w w'):Tx w' v ts:=by
 obtain ⟨xs,h1,h2⟩:=h
 exact ⟨xs,h1.keep hb,h2.imp fun x f hf=>⟨hf.1,hf.2.1,hf.2.2.keep hb⟩⟩
theorem Ro.keep (h:Ro w0 w v fs) (hb:Below w.heap.size w w'):Ro w0 w' v fs:=by
 obtain ⟨xs,h1,h2,h3⟩:=h
 exact ⟨xs,h1.keep hb,h2.imp fun x f hf=>hf.keep hb,Yb h3 hb⟩
theorem Tw.keep (h:Tw w0 w v ts) (hb:Below w.heap.size w w'):Tw w0 w' v ts:=by
 obtain ⟨xs,h1,h2,h3⟩:=h
 exact ⟨xs,h1.keep hb,h2.imp fun x f hf=>⟨hf.1,hf.2.1,hf.2.2.keep hb⟩,Yb h3 hb⟩
theorem Ro.from (h:Ro w1 w v fs) (hb:Below w0.heap.size w0 w1):Ro w0 w v fs:=by
 obtain ⟨xs,h1,h2,h3⟩:=h
 exact ⟨xs,h1.mono hb.size,h2.imp fun x f hf=>hf.from hb,Yb hb h3⟩
theorem Tw.from (h:Tw w1 w v ts) (hb:Below w0.heap.size w0 w1):Tw w0 w v ts:=by
 obtain ⟨xs,h1,h2,h3⟩:=h
 exact ⟨xs,h1.mono hb.size,h2.imp fun x f hf=>⟨hf.1,hf.2.1,hf.2.2.from hb⟩,Yb hb h3⟩
theorem Ro.below (h:Ro w0 w v fs):Below w0.heap.size w0 w:=by obtain ⟨xs,h1,h2,h3⟩:=h;exact h3
theorem Tw.below (h:Tw w0 w v ts):Below w0.heap.size w0 w:=by obtain ⟨xs,h1,h2,h3⟩:=h;exact h3
theorem Ro.rx (h:Ro w0 w v fs):Rx w v fs:=by
 obtain ⟨xs,h1,h2,h3⟩:=h
 exact ⟨xs,h1.rv,h2.imp fun x f hf=>hf.fv⟩
theorem Tw.tx (h:Tw w0 w v ts):Tx w v ts:=by
 obtain ⟨xs,h1,h2,h3⟩:=h
 exact ⟨xs,h1.rv,h2.imp fun x f hf=>⟨hf.1,hf.2.1,hf.2.2.fv⟩⟩
theorem Ro.made (w:World):Ro w (w.alloc (.cells #[] 36)) (.slice (some ⟨w.heap.size,0,none⟩) 0 0) []:=
 ⟨[],World.ownsRow_made (base:=w.heap.size) (e:=36) (size:=3) w #[] 0 (Nat.le_refl _) Yd rfl,Zip2.nil,Ya _ _⟩
theorem Tw.made (w:World):Tw w (w.alloc (.cells #[] 63)) (.slice (some ⟨w.heap.size,0,none⟩) 0 0) []:=
 ⟨[],World.ownsRow_made (base:=w.heap.size) (e:=63) (size:=4) w #[] 0 (Nat.le_refl _) Yd rfl,Zip2.nil,Ya _ _⟩
theorem Rx.shape (h:Rx w v fs):∃ A cap,v=.slice A fs.length cap/\fs.length<=cap/\cap<=maxLen:=by
 obtain ⟨xs,⟨A,cap,e,h1,h2,-⟩,hz⟩:=h
 exact ⟨A,cap,by rw [<- hz.1];exact e,by rw [<- hz.1];exact h1,h2⟩
theorem Tx.shape (h:Tx w v ts):∃ A cap,v=.slice A ts.length cap/\ts.length<=cap/\cap<=maxLen:=by
 obtain ⟨xs,⟨A,cap,e,h1,h2,-⟩,hz⟩:=h
 exact ⟨A,cap,by rw [<- hz.1];exact e,by rw [<- hz.1];exact h1,h2⟩
theorem Ro.shape (h:Ro w0 w v fs):∃ A cap,v=.slice A fs.length cap:=by obtain ⟨A,cap,e,-⟩:=h.rx.shape;exact ⟨A,cap,e⟩
theorem Tw.shape (h:Tw w0 w v ts):∃ A cap,v=.slice A ts.length cap:=by obtain ⟨A,cap,e,-⟩:=h.tx.shape;exact ⟨A,cap,e⟩
theorem Rx.at_ (h:Rx w v fs) (hi:fs[i]?=some f):∃ g o cap,∃ x:Rm,v=.slice (some ⟨g,o,none⟩) fs.length cap/\g<w.heap.size/\Fv w x.num f/\
 w.cell? ⟨g,o+i*3,none⟩=some (.bool x.b)/\w.cell? ⟨g,o+i*3+1,none⟩=some (.slice x.A x.l x.k)/\w.cell? ⟨g,o+i*3+2,none⟩=some (.slice x.B x.m x.d):=by
 obtain ⟨xs,h1,h2⟩:=h
 obtain ⟨x,hx,hf⟩:=h2.left hi
 obtain ⟨g,o,cap,e,h3,h4,h5⟩:=h1.at_ Yd Rm.len hx
 exact ⟨g,o,cap,x,by rw [<- h2.1];exact e,h4,hf,h5 0 _ rfl,h5 1 _ rfl,h5 2 _ rfl⟩
theorem Tx.at_ (h:Tx w v ts) (hi:ts[i]?=some t):∃ g o cap,∃ x:Tm,v=.slice (some ⟨g,o,none⟩) ts.length cap/\g<w.heap.size/\x.c=t.1/\x.q=t.2.q/\Fv w x.num t.2/\
 w.cell? ⟨g,o+i*4,none⟩=some (.int .i64 t.1)/\w.cell? ⟨g,o+i*4+1,none⟩=some (.bool x.b)/\w.cell? ⟨g,o+i*4+2,none⟩=some (.slice x.A x.l x.k)/\w.cell? ⟨g,o+i*4+3,none⟩=some (.slice x.B x.m x.d):=by
 obtain ⟨xs,h1,h2⟩:=h
 obtain ⟨x,hx,hc,hq,hf⟩:=h2.left hi
 obtain ⟨g,o,cap,e,h3,h4,h5⟩:=h1.at_ Yd Tm.len hx
 exact ⟨g,o,cap,x,by rw [<- h2.1];exact e,h4,hc,hq,hf,by rw [<- hc];exact h5 0 _ rfl,h5 1 _ rfl,h5 2 _ rfl,h5 3 _ rfl⟩
theorem Tx.vt (h:Tx w v ts) (hL:∀ t∈ts,t.2.xs.length<=L/\t.2.ds.length<=L):Vt w L v (qT ts):=by
 obtain ⟨xs,⟨A,cap,e,h1,h2,h3,h4⟩,hz⟩:=h
 refine ⟨xs,⟨A,cap,e,h1,h2,h3,by rw [flatT_flat];exact h4,fun x hx=>?_⟩,?_⟩
 · obtain ⟨i,hi⟩:=List.getElem?_of_mem hx
   obtain ⟨t,ht,-,hq,hf⟩:=hz.right hi
   obtain ⟨l1,l2⟩:=hL t (List.mem_of_getElem? ht)
   rw [hq];exact hf.qv l1 l2
 · refine List.ext_getElem? fun i=>?_
   unfold qT
   rw [List.getElem?_map,List.getElem?_map]
   cases hx:xs[i]? with
   | none=>
    have:ts[i]?=none:=by rw [List.getElem?_eq_none_iff] at hx ⊢;rw [<- hz.1];exact hx
    rw [this];rfl
   | some x=>
    obtain ⟨t,ht,hc,hq,-⟩:=hz.right hx
    rw [ht]
    show some (x.c,x.q)=some (t.1,t.2.q)
    rw [hc,hq]
theorem app_r {o:Oper} {a:Act} {K:Act->World->Prop} {Q:Exit->Act->World->Prop} (sO xO:Operand)
 (ho:o.op=.call { callee:=.builtin .append,args:=#[sO,xO],argTypes:=#[24,24] }) {gn:Nat} {x:Rm} (hs:a.eval sO=v) (hx:a.eval xO=.slice (some ⟨gn,0,none⟩) 1 1)
 (h:Ro w0 w v fs) (hf:Fw w0 w x.num f) (hn:Bl w 36 gn x.cs) (hl:fs.length<=1048576)
 (hk:∀ v' w',Ro w0 w' v' (fs++[f])->(∀ T',36≠T'->KeepT T' w w')->(∀ g,g<w.heap.size->v.ownBlock≠some g->w'.heap[g]?=w.heap[g]?)->K (a.put o.dst v') w'):o.wp Tryz.prog a w K Q:=by
 obtain ⟨xs,h1,h2,h3⟩:=h
 refine app_el (f:=Rm.cs) (x:=x) Tryz.underlying24 rat_info ⟨Yd,rfl,Yd⟩ Rm.len Rm.one sO xO ho hs hx h1 hn (by rw [h2.1];exact hl) h3 ?_
 intro v' w' k1 k2 k3 k4
 have ku:=k3 125 rat_word
 exact hk v' w' ⟨_,k1,(h2.imp fun x f hf=>hf.keepT ku k2).app (hf.keepT ku k2),k2⟩ k3 k4
theorem app_rs {ops:Array Oper} {rest:List Oper} {o:Oper} {a:Act} {Q:Exit->Act->World->Prop} (hgd:o.guard=none) (sO xO:Operand)
 (ho:o.op=.call { callee:=.builtin .append,args:=#[sO,xO],argTypes:=#[24,24] }) {gn:Nat} {x:Rm} (hs:a.eval sO=v) (hx:a.eval xO=.slice (some ⟨gn,0,none⟩) 1 1)
 (h:Ro w0 w v fs) (hf:Fw w0 w x.num f) (hn:Bl w 36 gn x.cs) (hl:fs.length<=1048576)
 (hk:∀ v' w',Ro w0 w' v' (fs++[f])->(∀ T',36≠T'->KeepT T' w w')->(∀ g,g<w.heap.size->v.ownBlock≠some g->w'.heap[g]?=w.heap[g]?)->wpList Tryz.prog ops Q rest (a.put o.dst v') w'):wpList Tryz.prog ops Q (o::rest) a w:=
 wpList_plain hgd fun _ hK=>app_r sO xO ho hs hx h hf hn hl fun v' w' k1 k2 k3=>hK _ _ (hk v' w' k1 k2 k3)
theorem app_t {o:Oper} {a:Act} {K:Act->World->Prop} {Q:Exit->Act->World->Prop} (sO xO:Operand)
 (ho:o.op=.call { callee:=.builtin .append,args:=#[sO,xO],argTypes:=#[54,54] }) {gn:Nat} {x:Tm} (hs:a.eval sO=v) (hx:a.eval xO=.slice (some ⟨gn,0,none⟩) 1 1)
 (h:Tw w0 w v ts) (hc:x.c=t.1) (hq:x.q=t.2.q) (hf:Fw w0 w x.num t.2) (hn:Bl w 63 gn x.cs) (hl:ts.length<=1048576)
 (hk:∀ v' w',Tw w0 w' v' (ts++[t])->(∀ T',63≠T'->KeepT T' w w')->(∀ g,g<w.heap.size->v.ownBlock≠some g->w'.heap[g]?=w.heap[g]?)->K (a.put o.dst v') w'):o.wp Tryz.prog a w K Q:=by
 obtain ⟨xs,h1,h2,h3⟩:=h
 refine app_el (f:=Tm.cs) (x:=x) Tryz.underlying54 term_info ⟨Yd,rfl,Yd⟩ Tm.len Tm.one sO xO ho hs hx h1 hn (by rw [h2.1];exact hl) h3 ?_
 intro v' w' k1 k2 k3 k4
 have ku:=k3 125 (Ne.symm term_word)
 exact hk v' w' ⟨_,k1,(h2.imp fun x f hf=>⟨hf.1,hf.2.1,hf.2.2.keepT ku k2⟩).app ⟨hc,hq,hf.keepT ku k2⟩,k2⟩ k3 k4
theorem app_ts {ops:Array Oper} {rest:List Oper} {o:Oper} {a:Act} {Q:Exit->Act->World->Prop} (hgd:o.guard=none) (sO xO:Operand)
 (ho:o.op=.call { callee:=.builtin .append,args:=#[sO,xO],argTypes:=#[54,54] }) {gn:Nat} {x:Tm} (hs:a.eval sO=v) (hx:a.eval xO=.slice (some ⟨gn,0,none⟩) 1 1)
 (h:Tw w0 w v ts) (hc:x.c=t.1) (hq:x.q=t.2.q) (hf:Fw w0 w x.num t.2) (hn:Bl w 63 gn x.cs) (hl:ts.length<=1048576)
 (hk:∀ v' w',Tw w0 w' v' (ts++[t])->(∀ T',63≠T'->KeepT T' w w')->(∀ g,g<w.heap.size->v.ownBlock≠some g->w'.heap[g]?=w.heap[g]?)->wpList Tryz.prog ops Q rest (a.put o.dst v') w'):wpList Tryz.prog ops Q (o::rest) a w:=
 wpList_plain hgd fun _ hK=>app_t sO xO ho hs hx h hc hq hf hn hl fun v' w' k1 k2 k3=>hK _ _ (hk v' w' k1 k2 k3)
end
end
end
section
section
open Go Go.RowKit Go.Proofs Pl
theorem take_f {α:Type} {l:List α} {k:Nat} {x:α} (h:l[k]?=some x):l.take (k+1)=l.take k++[x]:=by
 obtain ⟨hk,rfl⟩:=List.getElem?_eq_some_iff.1 h
 exact List.take_succ_eq_append_getElem hk
theorem copyAll_r {w:World} {v:Value} {fs:List Fx} (h:Rx w v fs) (hl:fs.length<=1048576) (hs:∀ f∈fs,f.xs.length<=1048576/\f.ds.length<=1048576):
 Calls Tryz.prog 31 #[v] w fun e w'=>∃ u,e=.returned u/\Ro w w' u fs:=by
 obtain ⟨A,cap,rfl,-,-⟩:=h.shape
 obtain ⟨n,hn⟩:∃ n,fs.length=n:=⟨_,rfl⟩
 rw [hn] at h hl ⊢
 have HS:=Yh3 h hs hn
 clear h hs hn
 go_enter Tryz.func31,Tryz.ntmps31
 go_upto_region 2 with (fail)
 have R0:Hid (Ro w (w.alloc (.cells #[] 36)) (.slice (some ⟨w.heap.size,0,none⟩) 0 0) []):=Ro.made w
 generalize w.alloc _=W0 at R0 ⊢
 go_wp2_with fail
 go_loopw [3,4] (fun z1 z2 wr=>∃ (k:Nat) (u1:Value),u1=z1/\z2=.int .i64 (k:Int)/\k<=n/\Hid (Ro w wr u1 (fs.take k))) (fun _ z2 _=>n - (intOf z2).toNat)
 case atStart=>exact ⟨0,_,rfl,rfl,Nat.zero_le _,R0.out⟩
 case round=>
  clear R0
  obtain ⟨k,u1,rfl,rfl,hk,H⟩:=hrel
  by_cases hlt:k<n
  · have hkx:k<fs.length:=by rw [HS.q2];exact hlt
    obtain ⟨f,hf⟩:∃ f,fs[k]?=some f:=⟨_,List.getElem?_eq_getElem hkx⟩
    obtain ⟨g,off,cap',x,e,hgl,hFv,c0,c1,c2⟩:=(HS.p0.keep H.out.below).at_ hf
    injection e with e1 e2 e3
    subst e1
    have hfs:=HS.p1 f (List.mem_of_getElem? hf)
    have hnext:=take_f hf
    have HX:=Yh4 hFv hfs (take_f hf) (show (fs.take k).length<=1048576 by rw [List.length_take];omega)
    have d0:(k:Int)<(n:Int):=Yo
    clear hf hgl hkx e2 e3 hFv hfs hnext
    go_wp2_with fail
    refine (copy_f (a:=x.num) HX.p0 (by have:=HX.p1;omega) (by have:=HX.p1;omega)).mono ?_;rintro e w4 ⟨v4,rfl,h4⟩
    obtain ⟨A4,l4,k4,B4,m4,d4,rfl⟩:=h4.fv.parts
    have K:Hid (Ro w w4 u1 (fs.take k)/\Fw w w4 (.agg #[.bool f.b,.slice A4 l4 k4,.slice B4 m4 d4]) f):=⟨H.out.keep h4.below,h4.from H.out.below⟩
    clear h4 c0 c1 c2 H
    go_wp2_with (at_builtin;refine app_rs rfl (.tmp 12) (.tmp 18) rfl (x:=⟨f.b,A4,l4,k4,B4,m4,d4⟩) rfl rfl (K.p0.keep (Ya _ _)) (K.q1.keep (Ya _ _)) (Bl.new w4 _ _) HX.q3 ?_;intro u2 w2 k1 k2 k3)
    have K2:Hid (Ro w w2 u2 (fs.take (k+1))):=by show Ro w w2 u2 (fs.take (k+1));rw [HX.p2];exact k1
    clear k1 k2 k3
    go_wp2_with fail
    case roundEnd=>exact ⟨⟨k+1,u2,rfl,by go_num,Yo,K2.out⟩,by simp [intOf];omega⟩
  · have d0:¬ (k:Int)<(n:Int):=by omega
    have hf:Hid (Ro w wr u1 fs):=by
     have h:=H.out
     rw [List.take_of_length_le (by rw [HS.q2];omega)] at h
     exact h
    go_wp2_with fail
    go_ret
    exact ⟨_,rfl,hf.out⟩
theorem copy_t {w:World} {v:Value} {ts:List (Int × Fx)} (h:Tx w v ts) (hl:ts.length<=1048576) (hs:∀ t∈ts,t.2.xs.length<=1048576/\t.2.ds.length<=1048576):
 Calls Tryz.prog 48 #[v] w fun e w'=>∃ u,e=.returned u/\Tw w w' u ts:=by
 obtain ⟨A,cap,rfl,-,-⟩:=h.shape
 obtain ⟨n,hn⟩:∃ n,ts.length=n:=⟨_,rfl⟩
 rw [hn] at h hl ⊢
 have HS:=Yh3 h hs hn
 clear h hs hn
 go_enter Tryz.func48,Tryz.ntmps48
 go_upto_region 2 with (fail)
 have R0:Hid (Tw w (w.alloc (.cells #[] 63)) (.slice (some ⟨w.heap.size,0,none⟩) 0 0) []):=Tw.made w
 generalize w.alloc _=W0 at R0 ⊢
 go_wp2_with fail
 go_loopw [3,4] (fun z1 z2 wr=>∃ (k:Nat) (u1:Value),u1=z1/\z2=.int .i64 (k:Int)/\k<=n/\Hid (Tw w wr u1 (ts.take k))) (fun _ z2 _=>n - (intOf z2).toNat)
 case atStart=>exact ⟨0,_,rfl,rfl,Nat.zero_le _,R0.out⟩
 case round=>
  clear R0
  obtain ⟨k,u1,rfl,rfl,hk,H⟩:=hrel
  by_cases hlt:k<n
  · skip
    have hkx:k<ts.length:=by rw [HS.q2];exact hlt
    obtain ⟨t,ht⟩:∃ t,ts[k]?=some t:=⟨_,List.getElem?_eq_getElem hkx⟩
    obtain ⟨g,off,cap',x,e,hgl,hc,hq,hFv,c0,c1,c2,c3⟩:=HS.p0.at_ ht
    injection e with e1 e2 e3
    subst e1
    have HC:Hid (∀ W,Yg w W->W.cell? ⟨g,off+k*4,none⟩=some (.int .i64 t.1)/\W.cell? ⟨g,off+k*4+1,none⟩=some (.bool x.b)/\W.cell? ⟨g,off+k*4+2,none⟩=some (.slice x.A x.l x.k)/\W.cell? ⟨g,off+k*4+3,none⟩=some (.slice x.B x.m x.d)):=fun W hb=>⟨(hb.cell (p:=⟨g,_,none⟩) hgl).trans c0,(hb.cell (p:=⟨g,_,none⟩) hgl).trans c1,(hb.cell (p:=⟨g,_,none⟩) hgl).trans c2,(hb.cell (p:=⟨g,_,none⟩) hgl).trans c3⟩
    have HX:=Yh5 hFv (HS.p1 t (List.mem_of_getElem? ht)) (take_f ht) (show (ts.take k).length<=1048576 by rw [List.length_take];omega) hq
    have d0:(k:Int)<(n:Int):=Yo
    clear ht hkx e2 e3 hFv hq hc c0 c1 c2 c3 cap'
    obtain ⟨c0,c1,c2,c3⟩:=HC.out _ H.out.below
    go_upto_region 5 with (fail)
    refine wp_region_held_drew (S:=fun W=>W.cell? ⟨g,off+k*4,none⟩=some (.int .i64 t.1)/\W.cell? ⟨g,off+k*4+1,none⟩=some (.bool x.b)/\W.cell? ⟨g,off+k*4+2,none⟩=some (.slice x.A x.l x.k)/\W.cell? ⟨g,off+k*4+3,none⟩=some (.slice x.B x.m x.d)) (by kernel_rfl) ⟨c0,c1,c2,c3⟩ (fun Hh=>?_)
    refine rgRun 11 [0,1,2,3,4,5,6,7,8,9,10] Hh fun K hK=>?_
    repeat refine rgA ?_
    refine hK _ _ ?_;clear hK K
    have T0:Hid (Tw w wr.drew u1 (ts.take k)):=H.out.keep (below_dr _ 1)
    generalize wr.drew=Wd at T0 Hh ⊢
    clear H c0 c1 c2 c3
    refine rgO 11 fun K hK=>?_
    go_simp
    go_at_call 90;refine (copy_f (a:=x.num) (HX.p0.keep T0.out.below) (by have:=HX.p1;omega) (by have:=HX.p1;omega)).mono ?_;rintro e w4 ⟨v4,rfl,h4⟩
    obtain ⟨A4,l4,k4,B4,m4,d4,rfl⟩:=h4.fv.parts
    have T1:Hid (Tw w w4 u1 (ts.take k)/\Fw w w4 (.agg #[.bool t.2.b,.slice A4 l4 k4,.slice B4 m4 d4]) t.2):=⟨T0.out.keep h4.below,h4.from T0.out.below⟩
    clear h4 Hh T0
    go_wp2_with fail
    refine rgK hK (HC.out _ T1.p0.below) fun Hh=>?_;clear hK K
    refine rgT 12 Hh ?_
    refine rgO 13 fun K hK=>?_
    go_simp
    have T2:Hid (Tw w (w4.alloc (.cells #[.int .i64 t.1,.bool t.2.b,.slice A4 l4 k4,.slice B4 m4 d4] 63)) u1 (ts.take k)/\Fw w (w4.alloc (.cells #[.int .i64 t.1,.bool t.2.b,.slice A4 l4 k4,.slice B4 m4 d4] 63)) (.agg #[.bool t.2.b,.slice A4 l4 k4,.slice B4 m4 d4]) t.2/\Bl (w4.alloc (.cells #[.int .i64 t.1,.bool t.2.b,.slice A4 l4 k4,.slice B4 m4 d4] 63)) 63 w4.heap.size [.int .i64 t.1,.bool t.2.b,.slice A4 l4 k4,.slice B4 m4 d4]):=⟨T1.p0.keep (Ya _ _),T1.q1.keep (Ya _ _),Bl.new w4 _ _⟩
    refine rgK hK (HC.out _ T2.p0.below) fun Hh=>?_;clear hK K
    clear T1
    obtain ⟨gn,hgn⟩:∃ k,w4.heap.size=k:=⟨_,rfl⟩
    rw [hgn] at T2 ⊢
    generalize w4.alloc _=W5 at T2 Hh ⊢
    clear hgn
    refine rgO 14 fun K hK=>?_
    rw [if_pos (by rfl)]
    refine app_t (.tmp 12) (.tmp 25) rfl (x:=⟨t.1,t.2.b,A4,l4,k4,B4,m4,d4,t.2.q⟩) rfl rfl T2.p0 rfl rfl T2.p1 T2.q2 HX.p3 ?_
    intro u2 w2 k1 k2 k3
    have K2:Hid (Tw w w2 u2 (ts.take (k+1))):=by show Tw w w2 u2 (ts.take (k+1));rw [HX.p2];exact k1
    clear k1 k2 k3
    refine rgK hK (HC.out _ K2.out.below) fun Hh=>?_;clear hK K
    refine rgT 15 Hh ?_
    refine Yw ?_
    clear Hh
    clear T2
    go_wp2_with fail
    case roundEnd=>exact ⟨⟨k+1,u2,rfl,by go_num,Yo,K2.out⟩,by simp [intOf];omega⟩
  · have d0:¬ (k:Int)<(n:Int):=by omega
    have hf:Hid (Tw w wr u1 ts):=by
     have h:=H.out
     rw [List.take_of_length_le (by rw [HS.q2];omega)] at h
     exact h
    go_wp2_with fail
    go_ret
    exact ⟨_,rfl,hf.out⟩
end
end
section
section
open Go Go.RowKit Go.Proofs Pl
theorem ne_at {α:Type} {xs ys:List α} {k:Nat} {x y:α} (hx:xs[k]?=some x) (hy:ys[k]?=some y) (h:x≠y):xs≠ys:=fun e=>by
 rw [e,hy] at hx;injection hx with hx;exact h hx.symm
theorem take_eq {α:Type} {xs ys:List α} {k:Nat} {x:α} (h:xs.take k=ys.take k) (hx:xs[k]?=some x) (hy:ys[k]?=some x):xs.take (k+1)=ys.take (k+1):=by
 rw [take_f hx,take_f hy,h]
theorem same_t {w:World} {a c:Value} {ts us:List (Int × Fx)} (ha:Tx w a ts) (hc:Tx w c us):
 Calls Tryz.prog 75 #[a,c] w fun e w'=>e=.returned (.bool (decide (ts=us)))/\Yg w w':=by
 obtain ⟨A,cap,rfl,q1,q2⟩:=ha.shape
 obtain ⟨B,cap2,rfl,q3,q4⟩:=hc.shape
 obtain ⟨n,hn⟩:∃ n,ts.length=n:=⟨_,rfl⟩
 obtain ⟨m,hm⟩:∃ m,us.length=m:=⟨_,rfl⟩
 rw [hn] at ha q1 ⊢
 rw [hm] at hc q3 ⊢
 have hbig:n<=9223372036854775807:=by unfold maxLen at q2;omega
 obtain ⟨D,hD⟩:∃ D,D=decide (ts=us):=⟨_,rfl⟩
 rw [<- hD]
 have HD:=Lib.hid hD
 have HS:=Yh4 ha hc hn hm
 clear ha hc hn hm q1 q2 q3 q4 hD
 by_cases hnm:n=m
 · subst hnm
   have e0:(((n:Nat):Int)==(n:Int))=true:=beq_self_eq_true _
   go_enter Tryz.func75,Tryz.ntmps75
   go_upto_region 3 with (fail)
   clear e0
   go_wp2_with fail
   go_loopw [5] (fun i wr=>∃ (k:Nat),i=.int .i64 (k:Int)/\k<=n/\Hid (ts.take k=us.take k/\Yg w wr)) (fun i _=>n - (intOf i).toNat)
   case atStart=>exact ⟨0,rfl,Nat.zero_le _,by simp,by go_grown⟩
   case round=>
    obtain ⟨k,rfl,hk,H⟩:=hrel
    by_cases hlt:k<n
    · skip
      have hkx:k<ts.length:=by rw [HS.p2];exact hlt
      have hkm:k<us.length:=by rw [HS.q3];exact hlt
      obtain ⟨t,ht⟩:∃ t,ts[k]?=some t:=⟨_,List.getElem?_eq_getElem hkx⟩
      obtain ⟨u,hu⟩:∃ u,us[k]?=some u:=⟨_,List.getElem?_eq_getElem hkm⟩
      obtain ⟨g,off,cap5,x,e,hgl,-,-,hFx,c0,c1,c2,c3⟩:=HS.p0.at_ ht
      injection e with e1 e2 e3
      subst e1
      obtain ⟨g2,off2,cap6,y,e,hgl2,-,-,hFy,d0,d1,d2,d3⟩:=HS.p1.at_ hu
      injection e with e4 e5 e6
      subst e4
      have HC:Hid (∀ W,Yg w W->W.cell? ⟨g,off+k*4,none⟩=some (.int .i64 t.1)/\W.cell? ⟨g,off+k*4+1,none⟩=some (.bool x.b)/\W.cell? ⟨g,off+k*4+2,none⟩=some (.slice x.A x.l x.k)/\W.cell? ⟨g,off+k*4+3,none⟩=some (.slice x.B x.m x.d)/\W.cell? ⟨g2,off2+k*4,none⟩=some (.int .i64 u.1)/\W.cell? ⟨g2,off2+k*4+1,none⟩=some (.bool y.b)/\W.cell? ⟨g2,off2+k*4+2,none⟩=some (.slice y.A y.l y.k)/\W.cell? ⟨g2,off2+k*4+3,none⟩=some (.slice y.B y.m y.d)):=fun W hb=>⟨(hb.cell (p:=⟨g,_,none⟩) hgl).trans c0,(hb.cell (p:=⟨g,_,none⟩) hgl).trans c1,(hb.cell (p:=⟨g,_,none⟩) hgl).trans c2,(hb.cell (p:=⟨g,_,none⟩) hgl).trans c3,(hb.cell (p:=⟨g2,_,none⟩) hgl2).trans d0,(hb.cell (p:=⟨g2,_,none⟩) hgl2).trans d1,(hb.cell (p:=⟨g2,_,none⟩) hgl2).trans d2,(hb.cell (p:=⟨g2,_,none⟩) hgl2).trans d3⟩
      have HX:=Yh4 hFx hFy ht hu
      have dk:(k:Int)<(n:Int):=Yo
      clear ht hu hkx hkm e2 e3 e5 e6 hFx hFy c0 c1 c2 c3 d0 d1 d2 d3 cap5 cap6
      by_cases hcol:t.1=u.1
      · skip
        have e1:(t.1==u.1)=true:=by rw [hcol];exact beq_self_eq_true _
        have HCOL:=Lib.hid hcol
        clear hcol
        obtain ⟨c0,c1,c2,c3,d0,d1,d2,d3⟩:=HC.out _ H.q1
        go_upto_region 6 with (fail)
        refine wp_region_held_drew (S:=fun W=>W.cell? ⟨g,off+k*4,none⟩=some (.int .i64 t.1)/\W.cell? ⟨g,off+k*4+1,none⟩=some (.bool x.b)/\W.cell? ⟨g,off+k*4+2,none⟩=some (.slice x.A x.l x.k)/\W.cell? ⟨g,off+k*4+3,none⟩=some (.slice x.B x.m x.d)/\W.cell? ⟨g2,off2+k*4,none⟩=some (.int .i64 u.1)/\W.cell? ⟨g2,off2+k*4+1,none⟩=some (.bool y.b)/\W.cell? ⟨g2,off2+k*4+2,none⟩=some (.slice y.A y.l y.k)/\W.cell? ⟨g2,off2+k*4+3,none⟩=some (.slice y.B y.m y.d)) (by kernel_rfl) ⟨c0,c1,c2,c3,d0,d1,d2,d3⟩ (fun Hh=>?_)
        clear c0 c1 c2 c3 d0 d1 d2 d3
        refine rgRun 10 [0,1,2,3,4,5,6,7,8,9] Hh fun K hK=>?_
        repeat refine rgA ?_
        refine hK _ _ ?_;clear hK K
        refine rgTake (v:=.bool false) 10 Hh ?_ (hy:=by intro W hSw;go_simp;try simp [HCOL.out]);try simp only [Yp]
        refine rgT 11 Hh ?_
        have hb0:Hid (Yg w wr.drew):=Yb H.q1 (below_dr _ 1)
        have HE:=Lib.hid H.p0
        generalize wr.drew=Wd at hb0 Hh ⊢
        clear H e1
        refine rgRun 10 [12,13,14,15,16,17,18,19,20,21] Hh fun K hK=>?_
        repeat refine rgA ?_
        refine hK _ _ ?_;clear hK K
        refine rgO 22 fun K hK=>?_
        go_simp
        go_at_call 44;refine (same_f (a:=x.num) (c:=y.num) (HX.p0.keep hb0.out) (HX.p1.keep hb0.out)).mono ?_;rintro e w4 ⟨rfl,hb⟩
        have hb1:=Lib.hid (Yb hb0.out hb)
        clear hb Hh hb0
        obtain ⟨r,hr⟩:∃ r,r=decide (t.2=u.2):=⟨_,rfl⟩
        rw [<- hr]
        have HR:=Lib.hid hr
        clear hr
        go_wp2_with fail
        refine rgK hK (HC.out _ hb1.out) fun Hh=>?_;clear hK K
        refine rgT 23 Hh ?_
        refine rgT 24 Hh ?_
        refine Yw ?_
        clear Hh
        cases r with
        | true=>
         have htu:t=u:=Prod.ext HCOL.out (of_decide_eq_true HR.out.symm)
         have HN:=Yh2 (take_eq HE.out HX.p2 (by rw [htu];exact HX.q3)) hb1.out
         clear htu hb1 HE
         go_wp2_with fail
         case roundEnd=>exact ⟨⟨k+1,by go_num,Yo,HN.out⟩,by simp [intOf];omega⟩
        | false=>
         have htu:t≠u:=fun e=>of_decide_eq_false HR.out.symm (by rw [e])
         have HN:=Yh2 (decide_eq_false (ne_at HX.p2 HX.q3 htu)) hb1.out
         clear htu hb1 HE
         go_wp2_with fail
         go_ret
         obtain rfl:D=false:=HD.out.trans HN.p0
         exact ⟨rfl,HN.q1⟩
      have e1:(t.1==u.1)=false:=beq_eq_false_iff_ne.2 hcol
      have HCOL:=Lib.hid hcol
      clear hcol
      obtain ⟨c0,c1,c2,c3,d0,d1,d2,d3⟩:=HC.out _ H.q1
      go_upto_region 6 with (fail)
      refine wp_region_held_drew (S:=fun W=>W.cell? ⟨g,off+k*4,none⟩=some (.int .i64 t.1)/\W.cell? ⟨g,off+k*4+1,none⟩=some (.bool x.b)/\W.cell? ⟨g,off+k*4+2,none⟩=some (.slice x.A x.l x.k)/\W.cell? ⟨g,off+k*4+3,none⟩=some (.slice x.B x.m x.d)/\W.cell? ⟨g2,off2+k*4,none⟩=some (.int .i64 u.1)/\W.cell? ⟨g2,off2+k*4+1,none⟩=some (.bool y.b)/\W.cell? ⟨g2,off2+k*4+2,none⟩=some (.slice y.A y.l y.k)/\W.cell? ⟨g2,off2+k*4+3,none⟩=some (.slice y.B y.m y.d)) (by kernel_rfl) ⟨c0,c1,c2,c3,d0,d1,d2,d3⟩ (fun Hh=>?_)
      clear c0 c1 c2 c3 d0 d1 d2 d3
      refine rgRun 10 [0,1,2,3,4,5,6,7,8,9] Hh fun K hK=>?_
      repeat refine rgA ?_
      refine hK _ _ ?_;clear hK K
      refine rgTake (v:=.bool true) 10 Hh ?_ (hy:=by intro W hSw;go_simp;try simp [HCOL.out]);try simp only [Yp]
      refine rgT 11 Hh ?_
      have hb0:Hid (Yg w wr.drew):=Yb H.q1 (below_dr _ 1)
      have HE:=Lib.hid H.p0
      generalize wr.drew=Wd at hb0 Hh ⊢
      clear H e1
      refine rgRun 13 [12,13,14,15,16,17,18,19,20,21,22,23,24] Hh fun K hK=>?_
      repeat first|refine rgA ?_|refine rgB ?_
      refine hK _ _ ?_;clear hK K
      refine Yw ?_
      clear Hh
      have htu:t≠u:=fun e=>HCOL.out (by rw [e])
      have HN:=Yh2 (decide_eq_false (ne_at HX.p2 HX.q3 htu)) hb0.out
      clear htu hb0 HE
      go_wp2_with fail
      go_ret
      obtain rfl:D=false:=HD.out.trans HN.p0
      exact ⟨rfl,HN.q1⟩
    · have dk:¬ (k:Int)<(n:Int):=by omega
      have he:Hid (ts=us/\Yg w wr):=by
       have h:=H.p0
       rw [List.take_of_length_le (by rw [HS.p2];omega),List.take_of_length_le (by rw [HS.q3];omega)] at h
       exact ⟨h,H.q1⟩
      go_wp2_with fail
      go_ret
      obtain rfl:D=true:=HD.out.trans (decide_eq_true he.p0)
      exact ⟨rfl,he.q1⟩
 · have e0:(((n:Nat):Int)==(m:Int))=false:=beq_eq_false_iff_ne.2 Yo
   have hne:ts≠us:=fun e=>hnm (by rw [<- HS.p2,<- HS.q3,e])
   obtain rfl:D=false:=HD.out.trans (decide_eq_false hne)
   clear hne hnm
   go_enter Tryz.func75,Tryz.ntmps75
   go_wp2_with fail
   go_ret
   exact ⟨rfl,by go_grown⟩
end
end
section
section
open Go Go.RowKit Go.Proofs Pl
theorem sameAll_r {w:World} {a c:Value} {ts us:List Fx} (ha:Rx w a ts) (hc:Rx w c us):
 Calls Tryz.prog 76 #[a,c] w fun e w'=>e=.returned (.bool (decide (ts=us)))/\Yg w w':=by
 obtain ⟨A,cap,rfl,q1,q2⟩:=ha.shape
 obtain ⟨B,cap2,rfl,q3,q4⟩:=hc.shape
 obtain ⟨n,hn⟩:∃ n,ts.length=n:=⟨_,rfl⟩
 obtain ⟨m,hm⟩:∃ m,us.length=m:=⟨_,rfl⟩
 rw [hn] at ha q1 ⊢
 rw [hm] at hc q3 ⊢
 have hbig:n<=9223372036854775807:=by unfold maxLen at q2;omega
 obtain ⟨D,hD⟩:∃ D,D=decide (ts=us):=⟨_,rfl⟩
 rw [<- hD]
 have HD:=Lib.hid hD
 have HS:=Yh4 ha hc hn hm
 clear ha hc hn hm q1 q2 q3 q4 hD
 by_cases hnm:n=m
 · subst hnm
   have e0:(((n:Nat):Int)==(n:Int))=true:=beq_self_eq_true _
   go_enter Tryz.func76,Tryz.ntmps76
   go_upto_region 3 with (fail)
   clear e0
   go_wp2_with fail
   go_loopw [5] (fun i wr=>∃ (k:Nat),i=.int .i64 (k:Int)/\k<=n/\Hid (ts.take k=us.take k/\Yg w wr)) (fun i _=>n - (intOf i).toNat)
   case atStart=>exact ⟨0,rfl,Nat.zero_le _,by simp,by go_grown⟩
   case round=>
    obtain ⟨k,rfl,hk,H⟩:=hrel
    by_cases hlt:k<n
    · skip
      have hkx:k<ts.length:=by rw [HS.p2];exact hlt
      have hkm:k<us.length:=by rw [HS.q3];exact hlt
      obtain ⟨t,ht⟩:∃ t,ts[k]?=some t:=⟨_,List.getElem?_eq_getElem hkx⟩
      obtain ⟨u,hu⟩:∃ u,us[k]?=some u:=⟨_,List.getElem?_eq_getElem hkm⟩
      obtain ⟨g,off,cap5,x,e,hg,hFx,c0,c1,c2⟩:=HS.p0.at_ ht
      injection e with e1 e2 e3
      subst e1
      obtain ⟨g2,off2,cap6,y,e,hg2,hFy,d0,d1,d2⟩:=HS.p1.at_ hu
      injection e with e4 e5 e6
      subst e4
      have HC:Hid (∀ W,Yg w W->W.cell? ⟨g,off+k*3,none⟩=some (.bool x.b)/\W.cell? ⟨g,off+k*3+1,none⟩=some (.slice x.A x.l x.k)/\W.cell? ⟨g,off+k*3+2,none⟩=some (.slice x.B x.m x.d)/\W.cell? ⟨g2,off2+k*3,none⟩=some (.bool y.b)/\W.cell? ⟨g2,off2+k*3+1,none⟩=some (.slice y.A y.l y.k)/\W.cell? ⟨g2,off2+k*3+2,none⟩=some (.slice y.B y.m y.d)):=fun W hb=>⟨(hb.cell (p:=⟨g,_,none⟩) hg).trans c0,(hb.cell (p:=⟨g,_,none⟩) hg).trans c1,(hb.cell (p:=⟨g,_,none⟩) hg).trans c2,(hb.cell (p:=⟨g2,_,none⟩) hg2).trans d0,(hb.cell (p:=⟨g2,_,none⟩) hg2).trans d1,(hb.cell (p:=⟨g2,_,none⟩) hg2).trans d2⟩
      have HX:=Yh4 hFx hFy ht hu
      have dk:(k:Int)<(n:Int):=Yo
      clear ht hu hkx hkm e2 e3 e5 e6 hFx hFy c0 c1 c2 d0 d1 d2 cap5 cap6
      obtain ⟨c0,c1,c2,d0,d1,d2⟩:=HC.out _ H.q1
      go_upto_region 6 with (fail)
      refine wp_region_held_drew (S:=fun W=>W.cell? ⟨g,off+k*3,none⟩=some (.bool x.b)/\W.cell? ⟨g,off+k*3+1,none⟩=some (.slice x.A x.l x.k)/\W.cell? ⟨g,off+k*3+2,none⟩=some (.slice x.B x.m x.d)/\W.cell? ⟨g2,off2+k*3,none⟩=some (.bool y.b)/\W.cell? ⟨g2,off2+k*3+1,none⟩=some (.slice y.A y.l y.k)/\W.cell? ⟨g2,off2+k*3+2,none⟩=some (.slice y.B y.m y.d)) (by kernel_rfl) ⟨c0,c1,c2,d0,d1,d2⟩ (fun Hh=>?_)
      clear c0 c1 c2 d0 d1 d2
      refine rgRun 8 [0,1,2,3,4,5,6,7] Hh fun K hK=>?_
      repeat refine rgA ?_
      refine hK _ _ ?_;clear hK K
      have hb0:Hid (Yg w wr.drew):=Yb H.q1 (below_dr _ 1)
      have HE:=Lib.hid H.p0
      generalize wr.drew=Wd at hb0 Hh ⊢
      clear H
      refine rgO 8 fun K hK=>?_
      go_simp
      go_at_call 44;refine (same_f (a:=x.num) (c:=y.num) (HX.p0.keep hb0.out) (HX.p1.keep hb0.out)).mono ?_;rintro e w4 ⟨rfl,hb⟩
      have hb1:=Lib.hid (Yb hb0.out hb)
      clear hb Hh hb0
      obtain ⟨r,hr⟩:∃ r,r=decide (t=u):=⟨_,rfl⟩
      rw [<- hr]
      have HR:=Lib.hid hr
      clear hr
      go_wp2_with fail
      refine rgK hK (HC.out _ hb1.out) fun Hh=>?_;clear hK K
      refine rgT 9 Hh ?_
      refine Yw ?_
      clear Hh
      cases r with
      | true=>
       have htu:t=u:=of_decide_eq_true HR.out.symm
       have HN:=Yh2 (take_eq HE.out HX.p2 (by rw [htu];exact HX.q3)) hb1.out
       clear htu hb1 HE
       go_wp2_with fail
       case roundEnd=>exact ⟨⟨k+1,by go_num,Yo,HN.out⟩,by simp [intOf];omega⟩
      | false=>
       have htu:t≠u:=of_decide_eq_false HR.out.symm
       have HN:=Yh2 (decide_eq_false (ne_at HX.p2 HX.q3 htu)) hb1.out
       clear htu hb1 HE
       go_wp2_with fail
       go_ret
       obtain rfl:D=false:=HD.out.trans HN.p0
       exact ⟨rfl,HN.q1⟩
    · have dk:¬ (k:Int)<(n:Int):=by omega
      have he:Hid (ts=us/\Yg w wr):=by
       have h:=H.p0
       rw [List.take_of_length_le (by rw [HS.p2];omega),List.take_of_length_le (by rw [HS.q3];omega)] at h
       exact ⟨h,H.q1⟩
      go_wp2_with fail
      go_ret
      obtain rfl:D=true:=HD.out.trans (decide_eq_true he.p0)
      exact ⟨rfl,he.q1⟩
 · have e0:(((n:Nat):Int)==(m:Int))=false:=beq_eq_false_iff_ne.2 Yo
   have hne:ts≠us:=fun e=>hnm (by rw [<- HS.p2,<- HS.q3,e])
   obtain rfl:D=false:=HD.out.trans (decide_eq_false hne)
   clear hne hnm
   go_enter Tryz.func76,Tryz.ntmps76
   go_wp2_with fail
   go_ret
   exact ⟨rfl,by go_grown⟩
end
end
section
section
open Go Go.RowKit Go.Proofs Pl
def Saysb (P:Bool->Prop) (e:Ending):Prop:=∃ r,e=.returned (.bool r)/\P r
def Saysi (e:Ending):Prop:=∃ n:Int,e=.returned (.int .i64 n)
theorem below_nil {w:World}:Below w.heap.size w w:=Below.refl _ _
theorem light_n {w:World} {v:Value} {xs:List Nat} (h:Nl w v xs):
 Calls Tryz.prog 111 #[v] w fun e w'=>∃ r,e=.returned (.bool r)/\Yg w w':=by
 obtain ⟨A,c,rfl,h1,h2,h3,h4⟩:=h
 obtain ⟨n,hn⟩:∃ n,xs.length=n:=⟨_,rfl⟩
 rw [hn] at h2 ⊢
 have hbig:n<=9223372036854775807:=by unfold maxLen at h3;omega
 by_cases h0:n=0
 · subst h0
   have e0:(((0:Nat):Int)==0)=true:=rfl
   clear h1 h2 h3 h4 hn
   go_enter Tryz.func111,Tryz.ntmps111
   go_wp2_with fail
   go_ret
   exact ⟨_,rfl,below_nil⟩
 · have e0:((n:Int)==0)=false:=beq_eq_false_iff_ne.2 Yo
   by_cases h5:n=1
   · have e1:((n:Int)==1)=true:=by rw [h5];rfl
     obtain ⟨g,o,rfl,hc⟩:=h1.at_ (j:=0) Yo
     have hm:=hc 0 _ (atD_some Yo)
     obtain ⟨d,hd⟩:∃ d,d=atD xs 0:=⟨_,rfl⟩
     rw [<- hd,Nat.add_zero] at hm
     subst h5
     clear h1 h2 h3 h4 hn h0 hd hc
     go_enter Tryz.func111,Tryz.ntmps111
     go_wp2_with fail
     go_ret
     exact ⟨_,rfl,below_nil⟩
   · have e1:((n:Int)==1)=false:=beq_eq_false_iff_ne.2 Yo
     clear h1 h2 h3 h4 hn h0 h5
     go_enter Tryz.func111,Tryz.ntmps111
     go_wp2_with fail
     go_ret
     exact ⟨_,rfl,below_nil⟩
theorem words_qb {w:World} {a:Value} {b:Bool} {xs ds:List Nat} (ha:Ql w a b xs ds) (hl:xs.length+ds.length<=4611686018427387903):
 Calls Tryz.prog 34 #[a] w fun e w'=>e=.returned (.int .i64 ((xs.length+ds.length:Nat):Int))/\Yg w w':=by
 obtain ⟨A,n,c,A2,n2,c2,rfl,e1,e2,-⟩:=ha.parts
 obtain ⟨k,hk⟩:∃ k:Nat,k=xs.length+ds.length:=⟨_,rfl⟩
 rw [<- hk]
 have hw:IntKind.i64.wrap ((n:Int)+(n2:Int))=(k:Int):=by rw [show (n:Int)+(n2:Int)=(k:Int) by omega];exact IntWalk.i64_in _ Yo
 clear ha e1 e2 hk hl
 go_enter Tryz.func34,Tryz.ntmps34
 go_wp2_with fail
 go_ret
 exact ⟨rfl,Ya w _⟩
theorem Fv.nl {w:World} {b:Bool} {s d:Value} {f:Fx} (h:Fv w (.agg #[.bool b,s,d]) f):Nl w s f.xs/\Nl w d f.ds:=by
 obtain ⟨s',d',e,h1,h2⟩:=h
 injection e with e;injection e with e
 simp only [List.cons.injEq,and_true] at e
 obtain ⟨-,rfl,rfl⟩:=e
 exact ⟨h1,h2⟩
theorem weight_r {w:World} {v:Value} {fs:List Fx} (h:Rx w v fs) (hs:∀ f∈fs,f.xs.length<=2305843009213693951/\f.ds.length<=2305843009213693951):
 Calls Tryz.prog 45 #[v] w fun e w'=>Saysi e/\Yg w w':=by
 obtain ⟨A,cap,rfl,q1,q2⟩:=h.shape
 obtain ⟨n,hn⟩:∃ n,fs.length=n:=⟨_,rfl⟩
 rw [hn] at h q1 ⊢
 have hbig:n<=9223372036854775807:=by unfold maxLen at q2;omega
 have HS:=Yh3 h hs hn
 clear h hs hn q1 q2
 go_enter Tryz.func45,Tryz.ntmps45
 go_wp2_with fail
 go_loopw [3,4] (fun z1 z2 wr=>∃ (k:Nat) (m:Int),z1=.int .i64 m/\z2=.int .i64 (k:Int)/\k<=n/\Hid (Yg w wr)) (fun _ z2 _=>n - (intOf z2).toNat)
 case atStart=>exact ⟨0,0,rfl,rfl,Nat.zero_le _,below_nil⟩
 case round=>
  obtain ⟨k,m,rfl,rfl,hk,H⟩:=hrel
  by_cases hlt:k<n
  · skip
    have hkx:k<fs.length:=by rw [HS.q2];exact hlt
    obtain ⟨f,hf⟩:∃ f,fs[k]?=some f:=⟨_,List.getElem?_eq_getElem hkx⟩
    obtain ⟨g,off,cap',x,e,hgl,hFv,c0,c1,c2⟩:=HS.p0.at_ hf
    injection e with e1 e2 e3
    subst e1
    have hfs:=HS.p1 f (List.mem_of_getElem? hf)
    have HC:Hid (∀ W,Yg w W->W.cell? ⟨g,off+k*3,none⟩=some (.bool x.b)/\W.cell? ⟨g,off+k*3+1,none⟩=some (.slice x.A x.l x.k)/\W.cell? ⟨g,off+k*3+2,none⟩=some (.slice x.B x.m x.d)):=fun W hb=>⟨(hb.cell (p:=⟨g,_,none⟩) hgl).trans c0,(hb.cell (p:=⟨g,_,none⟩) hgl).trans c1,(hb.cell (p:=⟨g,_,none⟩) hgl).trans c2⟩
    have HX:=Yh3 hFv hFv.nl hfs
    have dk:(k:Int)<(n:Int):=Yo
    clear hf hkx e2 e3 hFv hfs cap' c0 c1 c2
    obtain ⟨c0,c1,c2⟩:=HC.out _ H.out
    go_wp2_with fail
    refine (light_n (HX.p1.1.keep H.out)).mono ?_;rintro e w4 ⟨r1,rfl,hb⟩
    have H4:=Lib.hid (Yb H.out hb)
    clear hb c0 c1 c2 H
    obtain ⟨c0,c1,c2⟩:=HC.out _ H4.out
    cases r1 with
    | false=>
     go_wp2_with fail
     refine (words_qb (a:=x.num) (HX.p0.keep H4.out) (by have:=HX.q2;omega)).mono ?_;rintro e w7 ⟨rfl,hb⟩
     have H7:=Lib.hid (Yb H4.out hb)
     clear hb
     go_wp2_with fail
     case roundEnd=>exact ⟨⟨k+1,_,rfl,by go_num,Yo,H7.out⟩,by simp [intOf];omega⟩
    | true=>
     go_wp2_with fail
     refine (light_n (HX.p1.2.keep H4.out)).mono ?_;rintro e w5 ⟨r2,rfl,hb⟩
     have H5:=Lib.hid (Yb H4.out hb)
     clear hb c0 c1 c2 H4
     obtain ⟨c0,c1,c2⟩:=HC.out _ H5.out
     cases r2 with
     | false=>
      go_wp2_with fail
      refine (words_qb (a:=x.num) (HX.p0.keep H5.out) (by have:=HX.q2;omega)).mono ?_;rintro e w7 ⟨rfl,hb⟩
      have H7:=Lib.hid (Yb H5.out hb)
      clear hb
      go_wp2_with fail
      case roundEnd=>exact ⟨⟨k+1,_,rfl,by go_num,Yo,H7.out⟩,by simp [intOf];omega⟩
     | true=>
      go_wp2_with fail
      case roundEnd=>exact ⟨⟨k+1,_,rfl,by go_num,Yo,H5.out⟩,by simp [intOf];omega⟩
  · have dk:¬ (k:Int)<(n:Int):=by omega
    go_wp2_with fail
    go_ret
    exact ⟨⟨_,rfl⟩,H.out⟩
theorem weights_t {w:World} {v:Value} {ts:List (Int × Fx)} (h:Tx w v ts) (hl:ts.length<=1048576) (hs:∀ t∈ts,t.2.xs.length<=2305843009213693951/\t.2.ds.length<=2305843009213693951):
 Calls Tryz.prog 47 #[v] w fun e w'=>Saysi e/\Yg w w':=by
 obtain ⟨A,cap,rfl,q1,q2⟩:=h.shape
 obtain ⟨n,hn⟩:∃ n,ts.length=n:=⟨_,rfl⟩
 rw [hn] at h hl ⊢
 have HS:=Yh3 h hs hn
 clear h hs hn q1 q2
 go_enter Tryz.func47,Tryz.ntmps47
 go_wp2_with fail
 go_loopw [3,4] (fun z1 z2 wr=>∃ (k:Nat) (u1:Value) (xs:List Rm),u1=z1/\z2=.int .i64 (k:Int)/\k<=n/\Hid (Rr wr w.heap.size 36 3 Rm.cs u1 xs/\Zip2 (fun x f=>Fv w x.num f) xs ((ts.map Prod.snd).take k)/\Yg w wr)) (fun _ z2 _=>n - (intOf z2).toNat)
 case atStart=>exact ⟨0,_,[],rfl,rfl,Nat.zero_le _,Rr.nil _ _ _ _ _,by simpa using Zip2.nil,below_nil⟩
 case round=>
  obtain ⟨k,u1,xs,rfl,rfl,hk,H⟩:=hrel
  by_cases hlt:k<n
  · skip
    have hkx:k<ts.length:=by rw [HS.q2];exact hlt
    obtain ⟨t,ht⟩:∃ t,ts[k]?=some t:=⟨_,List.getElem?_eq_getElem hkx⟩
    obtain ⟨g,off,cap',x,e,hgl,-,-,hFv,-,c1,c2,c3⟩:=HS.p0.at_ ht
    injection e with e1 e2 e3
    subst e1
    have hfs:=HS.p1 t (List.mem_of_getElem? ht)
    have HC:Hid (∀ W,Yg w W->W.cell? ⟨g,off+k*4+1,none⟩=some (.bool x.b)/\W.cell? ⟨g,off+k*4+2,none⟩=some (.slice x.A x.l x.k)/\W.cell? ⟨g,off+k*4+3,none⟩=some (.slice x.B x.m x.d)):=fun W hb=>⟨(hb.cell (p:=⟨g,_,none⟩) hgl).trans c1,(hb.cell (p:=⟨g,_,none⟩) hgl).trans c2,(hb.cell (p:=⟨g,_,none⟩) hgl).trans c3⟩
    have hnx:=take_f (l:=ts.map Prod.snd) (k:=k) (x:=t.2) (by rw [List.getElem?_map,ht];rfl)
    have HX:=Yh3 hFv hnx (show xs.length<=1048576 by rw [H.p1.1,List.length_take];omega)
    have dk:(k:Int)<(n:Int):=Yo
    clear ht hkx e2 e3 hFv hfs cap' c1 c2 c3 hnx
    obtain ⟨c1,c2,c3⟩:=HC.out _ H.q2
    go_wp2_with (at_builtin;refine app_els (f:=Rm.cs) (x:=⟨x.b,x.A,x.l,x.k,x.B,x.m,x.d⟩) Tryz.underlying24 rat_info ⟨Yd,rfl,Yd⟩ Rm.len Rm.one rfl (.tmp 11) (.tmp 17) rfl rfl rfl (H.p0.keep (Ya _ _)) (Bl.new wr _ _) HX.q2 (Yb H.q2 (Ya _ _)) ?_;intro u2 w2 k1 k2 k3 k4)
    have K:=Yh3 k1 (H.p1.app (y:=t.2) (x:=Rm.mk x.b x.A x.l x.k x.B x.m x.d) HX.p0) k2
    clear k1 k2 k3 k4
    go_wp2_with fail
    case roundEnd=>exact ⟨⟨k+1,_,_,rfl,by go_num,Yo,K.p0,by rw [HX.p1];exact K.p1,K.q2⟩,by simp [intOf];omega⟩
  have hrx:Rx wr u1 (ts.map Prod.snd):=⟨xs,H.p0.rv,by
   have h:=H.p1
   rw [List.take_of_length_le (by rw [List.length_map,HS.q2];omega)] at h
   exact h.imp fun x f hf=>hf.keep H.q2⟩
  have HR:=Lib.hid hrx
  have dk:¬ (k:Int)<(n:Int):=Yo
  clear hrx
  go_wp2_with fail
  refine (weight_r HR.out (fun f hf=>by obtain ⟨t,ht,rfl⟩:=List.mem_map.1 hf;exact HS.p1 t ht)).mono ?_;rintro e w4 ⟨⟨m,rfl⟩,hb⟩
  have H4:=Lib.hid (Yb H.q2 hb)
  clear hb
  go_wp2_with fail
  go_ret
  exact ⟨⟨_,rfl⟩,H4.out⟩
theorem great_t {w:World} {v:Value} {ts:List (Int × Fx)} (h:Tx w v ts) (hs:∀ t∈ts,t.2.xs.length<=2305843009213693951/\t.2.ds.length<=2305843009213693951):
 Calls Tryz.prog 46 #[v] w fun e w'=>Saysb (fun r=>r=false->ts.length<=30/\∀ t∈ts,t.2.xs.length+t.2.ds.length<=6) e/\Yg w w':=by
 obtain ⟨A,cap,rfl,q1,q2⟩:=h.shape
 obtain ⟨n,hn⟩:∃ n,ts.length=n:=⟨_,rfl⟩
 rw [hn] at h q1 ⊢
 have hbig:n<=9223372036854775807:=by unfold maxLen at q2;omega
 have HS:=Yh3 h hs hn
 clear h hs hn q1 q2
 go_enter Tryz.func46,Tryz.ntmps46
 go_wp2_with fail
 go_loopw [3] (fun z2 wr=>∃ (k:Nat),z2=.int .i64 (k:Int)/\k<=n/\Hid ((∀ t∈ts.take k,t.2.xs.length+t.2.ds.length<=6)/\Yg w wr)) (fun z2 _=>n - (intOf z2).toNat)
 case atStart=>exact ⟨0,rfl,Nat.zero_le _,by simp,below_nil⟩
 case round=>
  obtain ⟨k,rfl,hk,H⟩:=hrel
  by_cases hlt:k<n
  · skip
    have hkx:k<ts.length:=by rw [HS.q2];exact hlt
    obtain ⟨t,ht⟩:∃ t,ts[k]?=some t:=⟨_,List.getElem?_eq_getElem hkx⟩
    obtain ⟨g,off,cap',x,e,hgl,-,-,hFv,-,c1,c2,c3⟩:=HS.p0.at_ ht
    injection e with e1 e2 e3
    subst e1
    have hfs:=HS.p1 t (List.mem_of_getElem? ht)
    have HC:Hid (∀ W,Yg w W->W.cell? ⟨g,off+k*4+1,none⟩=some (.bool x.b)/\W.cell? ⟨g,off+k*4+2,none⟩=some (.slice x.A x.l x.k)/\W.cell? ⟨g,off+k*4+3,none⟩=some (.slice x.B x.m x.d)):=fun W hb=>⟨(hb.cell (p:=⟨g,_,none⟩) hgl).trans c1,(hb.cell (p:=⟨g,_,none⟩) hgl).trans c2,(hb.cell (p:=⟨g,_,none⟩) hgl).trans c3⟩
    have hnx:=take_f ht
    have HX:=Yh3 hFv hnx hfs
    obtain ⟨s,hse⟩:∃ s,s=t.2.xs.length+t.2.ds.length:=⟨_,rfl⟩
    have HSE:=Lib.hid hse
    have dk:(k:Int)<(n:Int):=Yo
    clear ht hkx e2 e3 hFv hfs cap' c1 c2 c3 hnx hse
    obtain ⟨c1,c2,c3⟩:=HC.out _ H.q1
    go_wp2_with fail
    refine (words_qb (a:=x.num) (HX.p0.keep H.q1) (by have:=HX.q2;omega)).mono ?_;rintro e w4 ⟨rfl,hb⟩
    rw [show t.2.xs.length+t.2.ds.length=s from HSE.out.symm]
    have H4:=Yh2 H.p0 (Yb H.q1 hb)
    clear hb H c1 c2 c3
    by_cases h6:s<=6
    · have d6:¬ (6:Int)<(s:Int):=by omega
      go_wp2_with fail
      case roundEnd=>
       refine ⟨⟨k+1,by go_num,Yo,fun t ht=>?_,H4.q1⟩,by simp [intOf];omega⟩
       rw [HX.p1] at ht
       rcases List.mem_append.1 ht with ht | ht
       · exact H4.p0 t ht
       · rw [List.mem_singleton.1 ht];rw [HSE.out] at h6;exact h6
    · have d6:(6:Int)<(s:Int):=by omega
      go_wp2_with fail
      go_ret
      exact ⟨⟨true,rfl,by simp⟩,H4.q1⟩
  have dk:¬ (k:Int)<(n:Int):=Yo
  have hall:Hid (∀ t∈ts,t.2.xs.length+t.2.ds.length<=6):=by
   have h:=H.p0
   rw [List.take_of_length_le (by rw [HS.q2];omega)] at h
   exact h
  by_cases h30:n<=30
  · have d3:¬ (30:Int)<(n:Int):=by omega
    go_wp2_with fail
    refine (weights_t (HS.p0.keep H.q1) (by rw [HS.q2];omega) HS.p1).mono ?_;rintro e w4 ⟨⟨m,rfl⟩,hb⟩
    have H4:=Lib.hid (Yb H.q1 hb)
    clear hb
    go_wp2_with fail
    go_ret
    exact ⟨⟨_,rfl,fun _=>⟨Yo,hall.out⟩⟩,H4.out⟩
  · have d3:(30:Int)<(n:Int):=by omega
    go_wp2_with fail
    go_ret
    exact ⟨⟨true,rfl,by simp⟩,H.q1⟩
theorem greatAll_r {w:World} {v:Value} {ts:List (Fx)} (h:Rx w v ts) (hs:∀ t∈ts,t.xs.length<=2305843009213693951/\t.ds.length<=2305843009213693951):
 Calls Tryz.prog 18 #[v] w fun e w'=>Saysb (fun r=>r=false->ts.length<=30/\∀ t∈ts,t.xs.length+t.ds.length<=6) e/\Yg w w':=by
 obtain ⟨A,cap,rfl,q1,q2⟩:=h.shape
 obtain ⟨n,hn⟩:∃ n,ts.length=n:=⟨_,rfl⟩
 rw [hn] at h q1 ⊢
 have hbig:n<=9223372036854775807:=by unfold maxLen at q2;omega
 have HS:=Yh3 h hs hn
 clear h hs hn q1 q2
 go_enter Tryz.func18,Tryz.ntmps18
 go_wp2_with fail
 go_loopw [3] (fun z2 wr=>∃ (k:Nat),z2=.int .i64 (k:Int)/\k<=n/\Hid ((∀ t∈ts.take k,t.xs.length+t.ds.length<=6)/\Yg w wr)) (fun z2 _=>n - (intOf z2).toNat)
 case atStart=>exact ⟨0,rfl,Nat.zero_le _,by simp,below_nil⟩
 case round=>
  obtain ⟨k,rfl,hk,H⟩:=hrel
  by_cases hlt:k<n
  · skip
    have hkx:k<ts.length:=by rw [HS.q2];exact hlt
    obtain ⟨t,ht⟩:∃ t,ts[k]?=some t:=⟨_,List.getElem?_eq_getElem hkx⟩
    obtain ⟨g,off,cap',x,e,hgl,hFv,c0,c1,c2⟩:=HS.p0.at_ ht
    injection e with e1 e2 e3
    subst e1
    have hfs:=HS.p1 t (List.mem_of_getElem? ht)
    have HC:Hid (∀ W,Yg w W->W.cell? ⟨g,off+k*3,none⟩=some (.bool x.b)/\W.cell? ⟨g,off+k*3+1,none⟩=some (.slice x.A x.l x.k)/\W.cell? ⟨g,off+k*3+2,none⟩=some (.slice x.B x.m x.d)):=fun W hb=>⟨(hb.cell (p:=⟨g,_,none⟩) hgl).trans c0,(hb.cell (p:=⟨g,_,none⟩) hgl).trans c1,(hb.cell (p:=⟨g,_,none⟩) hgl).trans c2⟩
    have hnx:=take_f ht
    have HX:=Yh3 hFv hnx hfs
    obtain ⟨s,hse⟩:∃ s,s=t.xs.length+t.ds.length:=⟨_,rfl⟩
    have HSE:=Lib.hid hse
    have dk:(k:Int)<(n:Int):=Yo
    clear ht hkx e2 e3 hFv hfs cap' c0 c1 c2 hnx hse
    obtain ⟨c0,c1,c2⟩:=HC.out _ H.q1
    go_wp2_with fail
    refine (words_qb (a:=x.num) (HX.p0.keep H.q1) (by have:=HX.q2;omega)).mono ?_;rintro e w4 ⟨rfl,hb⟩
    rw [show t.xs.length+t.ds.length=s from HSE.out.symm]
    have H4:=Yh2 H.p0 (Yb H.q1 hb)
    clear hb H c0 c1 c2
    by_cases h6:s<=6
    · have d6:¬ (6:Int)<(s:Int):=by omega
      go_wp2_with fail
      case roundEnd=>
       refine ⟨⟨k+1,by go_num,Yo,fun t ht=>?_,H4.q1⟩,by simp [intOf];omega⟩
       rw [HX.p1] at ht
       rcases List.mem_append.1 ht with ht | ht
       · exact H4.p0 t ht
       · rw [List.mem_singleton.1 ht];rw [HSE.out] at h6;exact h6
    · have d6:(6:Int)<(s:Int):=by omega
      go_wp2_with fail
      go_ret
      exact ⟨⟨true,rfl,by simp⟩,H4.q1⟩
  have dk:¬ (k:Int)<(n:Int):=Yo
  have hall:Hid (∀ t∈ts,t.xs.length+t.ds.length<=6):=by
   have h:=H.p0
   rw [List.take_of_length_le (by rw [HS.q2];omega)] at h
   exact h
  by_cases h30:n<=30
  · have d3:¬ (30:Int)<(n:Int):=by omega
    go_wp2_with fail
    refine (weight_r (HS.p0.keep H.q1) HS.p1).mono ?_;rintro e w4 ⟨⟨m,rfl⟩,hb⟩
    have H4:=Lib.hid (Yb H.q1 hb)
    clear hb
    go_wp2_with fail
    go_ret
    exact ⟨⟨_,rfl,fun _=>⟨Yo,hall.out⟩⟩,H4.out⟩
  · have d3:(30:Int)<(n:Int):=by omega
    go_wp2_with fail
    go_ret
    exact ⟨⟨true,rfl,by simp⟩,H.q1⟩
end
end
end Go.Proofs.YtaajajngnmaggaaGreat
