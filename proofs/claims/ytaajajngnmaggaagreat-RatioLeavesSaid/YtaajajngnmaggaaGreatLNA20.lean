import Derived.Test.YtaajajngnmaggaaGreatLNA19
set_option maxRecDepth 100000
set_option maxHeartbeats 8000000
set_option linter.unusedVariables false
set_option linter.unusedSimpArgs false
namespace Go.Proofs.YtaajajngnmaggaaGreat
section
section
open Go Go.RowKit Go.Proofs Pl
def ics (z:Int):List Value:=[.int .i64 z]
theorem ics_len (z:Int):(ics z).length=1:=rfl
theorem ics_one (z:Int):∀ u∈ics z,u.oneCell'=true:=fun u hu=>by
 simp only [ics,List.mem_cons,List.not_mem_nil,or_false] at hu
 rw [hu];rfl
def Iv (w:World) (v:Value) (ks:List Int):Prop:=Rv w ics v ks
theorem Iv.keep {w w':World} {v:Value} {ks:List Int} (h:Iv w v ks) (hb:Below w.heap.size w w'):Iv w' v ks:=Rv.keep h hb
theorem Iv.shape {w:World} {v:Value} {ks:List Int} (h:Iv w v ks):∃ A cap,v=.slice A ks.length cap/\ks.length<=cap/\cap<=maxLen:=by
 obtain ⟨A,cap,e,h1,h2,-⟩:=h
 exact ⟨A,cap,e,h1,h2⟩
theorem Iv.at_ {w:World} {v:Value} {ks:List Int} {i:Nat} {z:Int} (h:Iv w v ks) (hi:ks[i]?=some z):∃ g o cap,v=.slice (some ⟨g,o,none⟩) ks.length cap/\g<w.heap.size/\w.cell? ⟨g,o+i,none⟩=some (.int .i64 z):=by
 obtain ⟨g,o,cap,e,h3,h4,h5⟩:=Rv.at_ Yd ics_len h hi
 exact ⟨g,o,cap,e,h4,by have:=h5 0 _ rfl;simpa using this⟩
theorem int_info:(Tryz.prog.info? 3).map (fun i=>(i.zero,i.size,i.bytes))=some (some (.int .i64 0),1,8):=by kernel_rfl
theorem Bl.iv {w:World} {g n:Nat} {ks:List Int} (X:Bl w 3 g (flat ics ks)) (hn:ks.length=n) (hs:n<=maxLen):Iv w (.slice (some ⟨g,0,none⟩) n n) ks:=
 ⟨some ⟨g,0,none⟩,n,by rw [hn],Yo,hs,by simp,.inr ⟨g,0,rfl,X.lt,fun i u hi=>by rw [Nat.zero_add];exact X.ld i hi⟩⟩
section
variable {α:Type} {f:α->List Value} {xs ys:List α} {s:Nat} {w:World} {T:TypeId} {u:Value}
theorem app_full {S:TypeId} {bytes:Nat} {z:Value} (hS:Tryz.prog.underlying S=some (.slice T)) (hI:(Tryz.prog.info? T).map (fun i=>(i.zero,i.size,i.bytes))=some (some z,s,bytes))
 (hby:0<s/\z.cells.size=s) (hf:∀ x,(f x).length=s) (hf1:∀ x,∀ u∈f x,u.oneCell'=true) {o:Oper} {a:Act} {K:Act->World->Prop} {Q:Exit->Act->World->Prop} (sO xO:Operand)
 (ho:o.op=.call { callee:=.builtin .append,args:=#[sO,xO],argTypes:=#[S,S] }) {g n:Nat} (hs:a.eval sO=.slice (some ⟨g,0,none⟩) n n) (hx:a.eval xO=u)
 (X:Bl w T g (flat f xs)) (hn:xs.length=n) (hu:Rv w f u ys) (hy:0<ys.length) (hl:(n+ys.length)*bytes<=140737488355328) (hl2:n+ys.length<=maxLen)
 (h:∀ A c w',Rv w' f (.slice A (n+ys.length) c) (xs++ys)->Yg w w'->K (a.put o.dst (.slice A (n+ys.length) c)) w'):o.wp Tryz.prog a w K Q:=by
 obtain ⟨i,hi,hz0,hz1,hz2⟩:=info_parts hI
 obtain ⟨A,cap,rfl,h1,h2,h3,h4⟩:=hu
 subst hz1;subst hz2
 subst hn
 have hown:w.ownsRow 0 T i.size (.slice (some ⟨g,0,none⟩) xs.length xs.length) xs.length (flat f xs):=⟨flat_len hf _,.inr ⟨g,xs.length,(flat f xs).toArray,rfl,Nat.zero_le _,X,Nat.le_refl _,Yo,by rw [List.size_toArray,flat_len hf],by rw [<- flat_len hf xs,List.take_length]⟩⟩
 rcases h4 with h4 | ⟨b,off,rfl,hb,hc⟩
 · have:=flat_len hf ys
   rw [h4] at this
   have h:=Nat.mul_pos hy hby.1
   simp only [List.length_nil] at this
   omega
 · have hnews:∀ (j:Nat) (u:Value),(flat f ys)[j]?=some u->w.cell? ((⟨b,off,none⟩:Addr).add j)=some u:=fun j u hj=>by
    have e:(⟨b,off,none⟩:Addr).add j=⟨b,off+j,none⟩:=by unfold Addr.add;split<;>simp_all
    rw [e];exact hc j u hj
   have hr:=run_append_grow (P:=Tryz.prog) w S o.type T i z hS hi hz0 ⟨g,0,none⟩ xs.length xs.length (flat f xs) (flat_len hf _) (fun j v h=>by
    have e:(⟨g,0,none⟩:Addr).add j=⟨g,j,none⟩:=by unfold Addr.add;split<;>simp_all
    rw [e];exact X.ld j h) ⟨b,off,none⟩ ys.length cap (flat f ys) (flat_len hf _) hnews Yo (by unfold maxLen at hl2;omega) (growslice_fits Yo hl)
   obtain ⟨v',w',hr',hown',-,-⟩:=run_append_own (P:=Tryz.prog) (w:=w) 0 S o.type T i z i.size i.bytes hS hi hz0 rfl rfl hby.2 hby.1 _ xs.length (flat f xs) hown ⟨b,off,none⟩ ys.length cap (flat f ys) (flat_len hf _) hnews (flat_cell hf1) hl2 hl (Nat.zero_le _)
   rw [hr] at hr'
   injection hr' with e1 e2
   subst e1;subst e2
   rw [<- flat_app] at hown'
   unfold Oper.wp execOp
   simp only [ho,resolve,invoke,builtin,Sem.run_bind,Sem.run_pure,Result.andThen_ok,List.map_toArray,List.map_cons,List.map_nil,hs,hx,hr]
   have hrv:=Rr.rv (α:=α) (f:=f) (xs:=xs++ys) (T:=T) (B:=0) (s:=i.size) (by rw [Rr,List.length_append];exact hown')
   exact h _ _ _ hrv ⟨rfl,rfl,rfl,by show w.heap.size<=(w.heap.push _).size;simp,fun k hk=>Go.heap_alloc_old w.drew _ hk⟩
theorem app_fulls {S:TypeId} {bytes:Nat} {z:Value} (hS:Tryz.prog.underlying S=some (.slice T)) (hI:(Tryz.prog.info? T).map (fun i=>(i.zero,i.size,i.bytes))=some (some z,s,bytes))
 (hby:0<s/\z.cells.size=s) (hf:∀ x,(f x).length=s) (hf1:∀ x,∀ u∈f x,u.oneCell'=true) {ops:Array Oper} {rest:List Oper} {o:Oper} {a:Act} {Q:Exit->Act->World->Prop} (hgd:o.guard=none) (sO xO:Operand)
 (ho:o.op=.call { callee:=.builtin .append,args:=#[sO,xO],argTypes:=#[S,S] }) {g n:Nat} (hs:a.eval sO=.slice (some ⟨g,0,none⟩) n n) (hx:a.eval xO=u)
 (X:Bl w T g (flat f xs)) (hn:xs.length=n) (hu:Rv w f u ys) (hy:0<ys.length) (hl:(n+ys.length)*bytes<=140737488355328) (hl2:n+ys.length<=maxLen)
 (h:∀ A c w',Rv w' f (.slice A (n+ys.length) c) (xs++ys)->Yg w w'->wpList Tryz.prog ops Q rest (a.put o.dst (.slice A (n+ys.length) c)) w'):wpList Tryz.prog ops Q (o::rest) a w:=
 wpList_plain hgd fun _ hK=>app_full hS hI hby hf hf1 sO xO ho hs hx X hn hu hy hl hl2 fun A c w' h1 h2=>hK _ _ (h A c w' h1 h2)
end
def allIs (n:Int) (ks:List Int):Bool:=ks.all (·==n)
theorem allIs_take {n:Int} {ks:List Int} {i:Nat} (h:allIs n (ks.take i)=true) {z:Int} (hz:ks[i]?=some z) (he:z=n):allIs n (ks.take (i+1))=true:=by
 rw [List.take_add_one,hz]
 simp only [allIs,List.all_append,Option.toList,List.all_cons,List.all_nil,Bool.and_true,Bool.and_eq_true,beq_iff_eq] at h ⊢
 exact ⟨h,he⟩
theorem allIs_no {n:Int} {ks:List Int} {i:Nat} {z:Int} (hz:ks[i]?=some z) (he:z≠n):allIs n ks=false:=by
 cases h:allIs n ks with
 | false=>rfl
 | true=>
  simp only [allIs,List.all_eq_true,beq_iff_eq] at h
  exact absurd (h z (List.mem_of_getElem? hz)) he
theorem fits1_r {w:World} {gn:Nat} {k n:Int} (h:w.cell? ⟨gn,0,none⟩=some (.int .i64 n)):
 Calls Tryz.prog 145 #[.int .i64 k,.pointer (some ⟨gn,0,none⟩)] w fun e w'=>e=.returned (.bool (k !=n))/\Yg w w':=by
 go_enter Tryz.func145,Tryz.ntmps145
 go_wp2_with fail
 go_ret
 exact ⟨rfl,Below.refl _ _⟩
theorem idx_i {w:World} {v:Value} {ks:List Int} {gn:Nat} {m:Int} (h:Iv w v ks) (hc:w.cell? ⟨gn,0,none⟩=some (.int .i64 m)) (hg:gn<w.heap.size) (h40:ks.length<=1000):
 Calls Tryz.prog 178 #[v,.func (.func 145) #[] #[.pointer (some ⟨gn,0,none⟩)]] w fun e w'=>∃ r:Int,e=.returned (.int .i64 r)/\decide (0<=r)=(!(allIs m ks))/\Yg w w':=by
 obtain ⟨A,cap,rfl,-,-⟩:=h.shape
 obtain ⟨n,hn⟩:∃ n,ks.length=n:=⟨_,rfl⟩
 rw [hn] at h40 ⊢
 have HSV:=Lib.hid h
 rw [hn] at HSV
 have HN:=Lib.hid hn
 have HC:=Yh2 hc hg
 clear h hn hc hg
 go_enter Tryz.func178,Tryz.ntmps178
 go_wp2_with fail
 go_loopw [8] (fun z wr=>∃ i:Nat,z=.int .i64 (i:Int)/\i<=n/\Hid (allIs m (ks.take i)=true/\Yg w wr)) (fun z _=>n - (intOf z).toNat)
 case atStart=>exact ⟨0,rfl,Nat.zero_le _,rfl,Below.refl _ _⟩
 case round=>
  obtain ⟨i,rfl,hi,H⟩:=hrel
  by_cases hlt:i<n
  · skip
    have hix:i<ks.length:=by rw [HN.out];exact hlt
    obtain ⟨x,hx⟩:∃ x,ks[i]?=some x:=⟨_,List.getElem?_eq_getElem hix⟩
    obtain ⟨g,off,_,e,hgl,c0⟩:=(HSV.out.keep H.q1).at_ hx
    injection e with e1 e2 e3
    subst e1
    clear e2 e3 hgl hix
    have HX:=Lib.hid hx
    have HCW:=Lib.hid ((H.q1.cell (p:=⟨gn,0,none⟩) HC.q1).trans HC.p0)
    clear hx
    go_wp2_with fail
    refine (fits1_r HCW.out).mono ?_;rintro e w2 ⟨rfl,hb⟩
    have R:=Lib.hid (Yb H.q1 hb)
    clear hb c0 HCW
    obtain ⟨b,hbb⟩:∃ b,(x !=m)=b:=⟨_,rfl⟩
    rw [hbb]
    have HB:=Lib.hid hbb
    clear hbb
    cases b with
    | true=>
     go_wp2_with fail
     go_ret
     refine ⟨_,rfl,?_,R.out⟩
     rw [allIs_no HX.out (by have:=HB.out;simpa using this)]
     simp
    | false=>
     go_wp2_with fail
     go_roundw
     case rel=>exact ⟨i+1,by go_num,Yo,allIs_take H.p0 HX.out (by have:=HB.out;simpa using this),R.out⟩
     case measure=>simp [intOf];omega
  obtain rfl:i=n:=by omega
  have HA:Hid (allIs m ks=true):=by have:=H.p0;rw [<- HN.out,List.take_length] at this;exact this
  go_wp2_with fail
  go_ret
  exact ⟨_,rfl,by rw [HA.out];rfl,H.q1⟩
theorem con_i {w:World} {v:Value} {ks:List Int} {gn:Nat} {m:Int} (h:Iv w v ks) (hc:w.cell? ⟨gn,0,none⟩=some (.int .i64 m)) (hg:gn<w.heap.size) (h40:ks.length<=1000):
 Calls Tryz.prog 144 #[v,.func (.func 145) #[] #[.pointer (some ⟨gn,0,none⟩)]] w fun e w'=>e=.returned (.bool (!(allIs m ks)))/\Yg w w':=by
 have HS:=Yh4 h hc hg h40
 clear h hc hg h40
 go_enter Tryz.func144,Tryz.ntmps144
 go_wp2_with fail
 refine (idx_i HS.p0 HS.p1 HS.p2 HS.q3).mono ?_;rintro e w2 ⟨r,rfl,hr,hb⟩
 have HR:=Yh2 hr hb
 clear hr hb
 go_wp2_with fail
 go_ret
 exact ⟨congrArg (fun b=>Ending.returned (.bool b)) HR.p0,HR.q1⟩
def fitsX (l:LPx) (ks:List Int):Bool:=allIs (l.cols.length:Int) (ks++[(l.lo.length:Int),(l.hi.length:Int),(l.hasLo.length:Int),(l.hasHi.length:Int)])
theorem fits_r {w:World} {v:Value} {l:LPx} {ks:List Int} {g n:Nat} (h:LPv w v l) (hX:Bl w 3 g (flat ics ks)) (hn:ks.length=n) (hn3:n<=3):
 Calls Tryz.prog 87 #[v,.slice (some ⟨g,0,none⟩) n n] w fun e w'=>e=.returned (.bool (fitsX l ks))/\Yg w w':=by
 obtain ⟨aA,an,ac,bA,bn,bc,cA,cn,cc,dA,dn,dc,eA,en,ec,fA,fn,fc,rfl,hP,hla,hlb,hlc,hld,hle,hlf,hma,hmb,hmc,hmd,hme,hmf⟩:=h.open
 have HK:=Yh3 hX hn hn3
 have HL:=Yh5 hla hlb hlc hld hle
 clear hP hX hla hlb hlc hld hle hlf hma hmb hmc hmd hme hmf h
 change Calls Tryz.prog 87 #[.agg #[.int .i64 l.n,.slice aA an ac,.slice bA bn bc,.slice cA cn cc,.slice dA dn dc,.slice eA en ec,.slice fA fn fc],.slice (some ⟨g,0,none⟩) n n] w _
 go_enter Tryz.func87,Tryz.ntmps87
 go_upto_region 1 with (fail)
 obtain ⟨hX,hB⟩:=box1 w 26 [.int .i64 l.n,.slice aA an ac,.slice bA bn bc,.slice cA cn cc,.slice dA dn dc,.slice eA en ec,.slice fA fn fc]
 have HX:=Yh2 hX hB
 clear hX hB
 generalize w.alloc _=W0 at HX ⊢
 have l0:=Bl.ld HX.p0 0 rfl
 have l1:=Bl.ld HX.p0 1 rfl
 have l2:=Bl.ld HX.p0 2 rfl
 have l3:=Bl.ld HX.p0 3 rfl
 have l4:=Bl.ld HX.p0 4 rfl
 have l5:=Bl.ld HX.p0 5 rfl
 have l6:=Bl.ld HX.p0 6 rfl
 go_upto_region 2 with (fail)
 have hal:=Ya W0 (.cells #[.int .i64 (an:Int)] 3)
 have H1:=Yh4 (HX.p0.keep hal) (Yb HX.q1 hal) (Bl.new W0 3 [.int .i64 (an:Int)]) ((HK.p0.keep HX.q1).keep hal)
 obtain ⟨gn,hgn⟩:∃ g,g=W0.heap.size:=⟨_,rfl⟩
 rw [<- hgn] at H1 ⊢
 clear HX hal hgn l0 l1 l2 l3 l4 l5 l6
 generalize W0.alloc _=W1 at H1 ⊢
 have l0:=Bl.ld H1.p0 0 rfl
 have l1:=Bl.ld H1.p0 1 rfl
 have l2:=Bl.ld H1.p0 2 rfl
 have l3:=Bl.ld H1.p0 3 rfl
 have l4:=Bl.ld H1.p0 4 rfl
 have l5:=Bl.ld H1.p0 5 rfl
 have l6:=Bl.ld H1.p0 6 rfl
 have hal:=Ya W1 (.cells #[.int .i64 (dn:Int),.int .i64 (en:Int),.int .i64 (bn:Int),.int .i64 (cn:Int)] 3)
 go_wp2_with (at_builtin;refine app_fulls (f:=ics) (xs:=ks) (ys:=[(dn:Int),(en:Int),(bn:Int),(cn:Int)]) Tryz.underlying73 int_info ⟨Yd,rfl⟩ ics_len ics_one rfl (.tmp 9) (.tmp 22) rfl rfl rfl (H1.q3.keep hal) HK.p1 (Bl.iv (ks:=[(dn:Int),(en:Int),(bn:Int),(cn:Int)]) (Bl.new W1 3 [.int .i64 (dn:Int),.int .i64 (en:Int),.int .i64 (bn:Int),.int .i64 (cn:Int)]) rfl Yd) (Nat.succ_pos _) (by have:=HK.q2;simp only [List.length_cons,List.length_nil];omega) (by have:=HK.q2;unfold maxLen;simp only [List.length_cons,List.length_nil];omega) ?_;intro A9 c9 w2 h9 hb9)
 have H2:=Yh4 (Yb H1.p1 (Yb hal hb9)) h9 ((H1.p2.keep hal).keep hb9) HK.q1
 clear hal h9 hb9 H1 l0 l1 l2 l3 l4 l5 l6
 go_wp2_with fail
 refine (con_i (ks:=ks++[(dn:Int),(en:Int),(bn:Int),(cn:Int)]) (m:=(an:Int)) H2.p1 (Bl.ld H2.p2 0 rfl) H2.p2.lt (by have:=H2.q3;rw [List.length_append];simp only [List.length_cons,List.length_nil];omega)).mono ?_;rintro e w3 ⟨rfl,hb⟩
 have H3:=Lib.hid (Yb H2.p0 hb)
 clear hb
 go_wp2_with fail
 go_ret
 obtain ⟨e1,e2,e3,e4,e5⟩:=HL.out
 have HE:fitsX l ks=allIs (an:Int) (ks++[(dn:Int),(en:Int),(bn:Int),(cn:Int)]):=by unfold fitsX;rw [e1,e2,e3,e4,e5]
 rw [HE]
 exact ⟨rfl,H3.out⟩
end
end
section
section
open Go Go.RowKit Go.Proofs Pl
theorem lack_v {w:World} {v u:Value} {l:LPx} {k L:Nat} {f g:Fx} {bl bh:Bool} {x:Rat} (h:LPv w v l) (hbl:l.hasLo[k]?=some bl) (hbh:l.hasHi[k]?=some bh) (hf:l.lo[k]?=some f) (hg:l.hi[k]?=some g) (hx:Qv w L u x) (h0:0<L/\L<=17179869184) (h1:0<6) (h6:f.xs.length<=6) (h7:f.ds.length<=6) (h8:g.xs.length<=6) (h9:g.ds.length<=6):
 Calls Tryz.prog 88 #[v,.int .i64 (k:Int),u] w fun e w'=>∃ r,e=.returned (.tuple #[r,.bool (lackQ bl bh f.q g.q x).2])/\Qr w w' r (lackQ bl bh f.q g.q x).1:=by
 obtain ⟨aA,an,ac,bA,bn,bc,cA,cn,cc,dA,dn,dc,eA,en,ec,fA,fn,fc,rfl,hP,hla,hlb,hlc,hld,hle,hlf,hma,hmb,hmc,hmd,hme,hmf⟩:=h.open
 have HU:=Lib.hid hx
 obtain ⟨bx,Ax,lx,cx,Bx,kx,dx,rfl⟩:=hx.parts
 have HS:=Lib.hid hP
 clear hP hma hmb hmc hmd hme hmf
 obtain ⟨gb,ob,qb,e,hgb,zb0⟩:=HS.p1.at_ hbl
 rw [hlb] at e
 injection e with e1 e2 e3
 subst e1
 clear e2 e3 qb
 have kb:k<bn:=by rw [<- hlb];exact (List.getElem?_eq_some_iff.1 hbl).1
 have ixb:(k:Int)<(bn:Int):=Yo
 obtain ⟨gc,oc,qc,e,hgc,zc0⟩:=HS.p2.at_ hbh
 rw [hlc] at e
 injection e with e1 e2 e3
 subst e1
 clear e2 e3 qc
 have kc:k<cn:=by rw [<- hlc];exact (List.getElem?_eq_some_iff.1 hbh).1
 have ixc:(k:Int)<(cn:Int):=Yo
 obtain ⟨gd,od,qd,xd,e,hgd,hvd,zd0,zd1,zd2⟩:=HS.p3.at_ hf
 rw [hld] at e
 injection e with e1 e2 e3
 subst e1
 clear e2 e3 qd
 have kd:k<dn:=by rw [<- hld];exact (List.getElem?_eq_some_iff.1 hf).1
 have ixd:(k:Int)<(dn:Int):=Yo
 obtain ⟨ge,oe,qe,xe,e,hge,hve,ze0,ze1,ze2⟩:=HS.p4.at_ hg
 rw [hle] at e
 injection e with e1 e2 e3
 subst e1
 clear e2 e3 qe
 have ke:k<en:=by rw [<- hle];exact (List.getElem?_eq_some_iff.1 hg).1
 have ixe:(k:Int)<(en:Int):=Yo
 have HC:Hid (∀ W,Yg w W->W.cell? ⟨gb,ob+k,none⟩=some (.bool bl)/\W.cell? ⟨gc,oc+k,none⟩=some (.bool bh)/\W.cell? ⟨gd,od+k*3,none⟩=some (.bool xd.b)/\W.cell? ⟨gd,od+k*3+1,none⟩=some (.slice xd.A xd.l xd.k)/\W.cell? ⟨gd,od+k*3+2,none⟩=some (.slice xd.B xd.m xd.d)/\W.cell? ⟨ge,oe+k*3,none⟩=some (.bool xe.b)/\W.cell? ⟨ge,oe+k*3+1,none⟩=some (.slice xe.A xe.l xe.k)/\W.cell? ⟨ge,oe+k*3+2,none⟩=some (.slice xe.B xe.m xe.d)):=fun W b=>⟨(b.cell (p:=⟨gb,_,none⟩) hgb).trans zb0,(b.cell (p:=⟨gc,_,none⟩) hgc).trans zc0,(b.cell (p:=⟨gd,_,none⟩) hgd).trans zd0,(b.cell (p:=⟨gd,_,none⟩) hgd).trans zd1,(b.cell (p:=⟨gd,_,none⟩) hgd).trans zd2,(b.cell (p:=⟨ge,_,none⟩) hge).trans ze0,(b.cell (p:=⟨ge,_,none⟩) hge).trans ze1,(b.cell (p:=⟨ge,_,none⟩) hge).trans ze2⟩
 clear zb0 hgb
 clear zc0 hgc
 have HVd:=Lib.hid hvd
 clear zd0 zd1 zd2 hvd hgd
 have HVe:=Lib.hid hve
 clear ze0 ze1 ze2 hve hge
 have HV:=Yh2 (HVd.out.qv h6 h7) (HVe.out.qv h8 h9)
 have HE:=Yh2 h0 h1
 clear HVd HVe hf hg hbl hbh hx h hla hlb hlc hld hle hlf h6 h7 h8 h9 h0 h1
 change Calls Tryz.prog 88 #[.agg #[.int .i64 l.n,.slice aA an ac,.slice (some ⟨gb,ob,none⟩) bn bc,.slice (some ⟨gc,oc,none⟩) cn cc,.slice (some ⟨gd,od,none⟩) dn dc,.slice (some ⟨ge,oe,none⟩) en ec,.slice fA fn fc],.int .i64 (k:Int),.agg #[.bool bx,.slice Ax lx cx,.slice Bx kx dx]] w _
 go_enter Tryz.func88,Tryz.ntmps88
 go_upto_region 1 with (fail)
 obtain ⟨hX,hY,hR,hB⟩:=box3 w 26 36 36 [.int .i64 l.n,.slice aA an ac,.slice (some ⟨gb,ob,none⟩) bn bc,.slice (some ⟨gc,oc,none⟩) cn cc,.slice (some ⟨gd,od,none⟩) dn dc,.slice (some ⟨ge,oe,none⟩) en ec,.slice fA fn fc] [.bool bx,.slice Ax lx cx,.slice Bx kx dx] [.bool false,.slice none 0 0,.slice none 0 0]
 have HX:=Yh4 hX hY hR hB
 clear hX hY hR hB
 generalize ((w.alloc _).alloc _).alloc _=W0 at HX ⊢
 go_cut [8] (fun z wx=>z=.bool (bl && decide (cmpQ x f.q<0))/\Hid (Yg W0 wx))
 case first=>
  cases bl with
  | true=>
   refine flow (fun W=>Yg W0 W/\W.cell? ⟨w.heap.size,2,none⟩=some (.slice (some ⟨gb,ob,none⟩) bn bc)/\W.cell? ⟨w.heap.size,3,none⟩=some (.slice (some ⟨gc,oc,none⟩) cn cc)/\W.cell? ⟨w.heap.size,4,none⟩=some (.slice (some ⟨gd,od,none⟩) dn dc)/\W.cell? ⟨w.heap.size,5,none⟩=some (.slice (some ⟨ge,oe,none⟩) en ec)/\W.cell? ⟨(w.heap.size+1),0,none⟩=some (.bool bx)/\W.cell? ⟨(w.heap.size+1),1,none⟩=some (.slice Ax lx cx)/\W.cell? ⟨(w.heap.size+1),2,none⟩=some (.slice Bx kx dx)/\W.cell? ⟨gb,ob+k,none⟩=some (.bool true)/\W.cell? ⟨gc,oc+k,none⟩=some (.bool bh)/\W.cell? ⟨gd,od+k*3,none⟩=some (.bool xd.b)/\W.cell? ⟨gd,od+k*3+1,none⟩=some (.slice xd.A xd.l xd.k)/\W.cell? ⟨gd,od+k*3+2,none⟩=some (.slice xd.B xd.m xd.d)/\W.cell? ⟨ge,oe+k*3,none⟩=some (.bool xe.b)/\W.cell? ⟨ge,oe+k*3+1,none⟩=some (.slice xe.A xe.l xe.k)/\W.cell? ⟨ge,oe+k*3+2,none⟩=some (.slice xe.B xe.m xe.d)) (fun _ _=>True) (fun _ _=>False) 0 [⟨[],[(0,9),(1,10),(2,11),(3,12),(4,13),(5,14),(6,15),(7,16),(8,17),(9,18),(10,19),(11,20)],[],[(12,21,fun v W=>v=.int .i64 (cmpQ x f.q))]⟩,⟨[(12,21)],[(0,9),(1,10),(2,11),(3,12),(4,13),(5,14),(13,22),(14,23),(15,8)],[],[]⟩] [] [] ⟨[(12,21)],[(0,9),(1,10),(2,11),(3,12),(4,13),(5,14),(6,15),(7,16),(8,17),(9,18),(10,19),(11,20),(13,22),(14,23),(15,8)],[],[]⟩ ⟨below_nil,Bl.ld (HX.p0.keep below_nil) 2 rfl,Bl.ld (HX.p0.keep below_nil) 3 rfl,Bl.ld (HX.p0.keep below_nil) 4 rfl,Bl.ld (HX.p0.keep below_nil) 5 rfl,Bl.ld (HX.p1.keep below_nil) 0 rfl,Bl.ld (HX.p1.keep below_nil) 1 rfl,Bl.ld (HX.p1.keep below_nil) 2 rfl,HC.out _ (Yb HX.q3 below_nil)⟩ (trivial) (fun _ _ h b=>⟨(Yb h.1 b),Bl.ld (HX.p0.keep (Yb h.1 b)) 2 rfl,Bl.ld (HX.p0.keep (Yb h.1 b)) 3 rfl,Bl.ld (HX.p0.keep (Yb h.1 b)) 4 rfl,Bl.ld (HX.p0.keep (Yb h.1 b)) 5 rfl,Bl.ld (HX.p1.keep (Yb h.1 b)) 0 rfl,Bl.ld (HX.p1.keep (Yb h.1 b)) 1 rfl,Bl.ld (HX.p1.keep (Yb h.1 b)) 2 rfl,HC.out _ (Yb HX.q3 (Yb h.1 b))⟩) (fun _ _ _ h _=>h) ⟨fun _ _ _ h _=>h,fun _ _ _ _ h=>h.elim,trivial⟩ ⟨?_,?_,trivial⟩ trivial trivial ?_
   · rintro W hS
     refine gvN ?_;(repeat first|refine flA ?_|refine flB ?_);refine flN (flN ?_)
     refine flK (fun K hK=>?_) flL
     go_simp
     go_at_call 89;refine (cmp_v (HU.out.keep (Yb HX.q3 hS.1)) (HV.p0.keep (Yb HX.q3 hS.1)) HE.p0.1 Yd HE.p0.2 Yd).mono ?_;rintro e W2 ⟨rfl,hb⟩
     go_wp2_with fail
     exact hK.out _ _ ⟨rfl,hb⟩
   · rintro W hS v12 rfl
     refine gvN ?_;(repeat first|refine flA ?_|refine flB ?_);refine flN (flN ?_)
     exact flL
   rintro W hS - v12 rfl
   have hS:=hS flY
   refine gvN ?_;(repeat first|refine flA ?_|refine flB ?_);refine flN (flN ?_)
   go_wp2_with fail
   go_meet
   exact ⟨by rw [Bool.true_and],hS.1⟩
  | false=>
   refine flow (fun W=>Yg W0 W/\W.cell? ⟨w.heap.size,2,none⟩=some (.slice (some ⟨gb,ob,none⟩) bn bc)/\W.cell? ⟨w.heap.size,3,none⟩=some (.slice (some ⟨gc,oc,none⟩) cn cc)/\W.cell? ⟨w.heap.size,4,none⟩=some (.slice (some ⟨gd,od,none⟩) dn dc)/\W.cell? ⟨w.heap.size,5,none⟩=some (.slice (some ⟨ge,oe,none⟩) en ec)/\W.cell? ⟨(w.heap.size+1),0,none⟩=some (.bool bx)/\W.cell? ⟨(w.heap.size+1),1,none⟩=some (.slice Ax lx cx)/\W.cell? ⟨(w.heap.size+1),2,none⟩=some (.slice Bx kx dx)/\W.cell? ⟨gb,ob+k,none⟩=some (.bool false)/\W.cell? ⟨gc,oc+k,none⟩=some (.bool bh)/\W.cell? ⟨gd,od+k*3,none⟩=some (.bool xd.b)/\W.cell? ⟨gd,od+k*3+1,none⟩=some (.slice xd.A xd.l xd.k)/\W.cell? ⟨gd,od+k*3+2,none⟩=some (.slice xd.B xd.m xd.d)/\W.cell? ⟨ge,oe+k*3,none⟩=some (.bool xe.b)/\W.cell? ⟨ge,oe+k*3+1,none⟩=some (.slice xe.A xe.l xe.k)/\W.cell? ⟨ge,oe+k*3+2,none⟩=some (.slice xe.B xe.m xe.d)) (fun _ _=>True) (fun _ _=>False) 0 [⟨[],[(0,9),(1,10),(2,11),(3,12),(4,13),(5,14),(6,15),(7,16),(8,17),(9,18),(10,19),(11,20)],[],[(12,21,fun v W=>v=undef)]⟩,⟨[(12,21)],[(0,9),(1,10),(2,11),(3,12),(4,13),(5,14),(13,22),(14,23),(15,8)],[],[]⟩] [] [] ⟨[(12,21)],[(0,9),(1,10),(2,11),(3,12),(4,13),(5,14),(6,15),(7,16),(8,17),(9,18),(10,19),(11,20),(13,22),(14,23),(15,8)],[],[]⟩ ⟨below_nil,Bl.ld (HX.p0.keep below_nil) 2 rfl,Bl.ld (HX.p0.keep below_nil) 3 rfl,Bl.ld (HX.p0.keep below_nil) 4 rfl,Bl.ld (HX.p0.keep below_nil) 5 rfl,Bl.ld (HX.p1.keep below_nil) 0 rfl,Bl.ld (HX.p1.keep below_nil) 1 rfl,Bl.ld (HX.p1.keep below_nil) 2 rfl,HC.out _ (Yb HX.q3 below_nil)⟩ (trivial) (fun _ _ h b=>⟨(Yb h.1 b),Bl.ld (HX.p0.keep (Yb h.1 b)) 2 rfl,Bl.ld (HX.p0.keep (Yb h.1 b)) 3 rfl,Bl.ld (HX.p0.keep (Yb h.1 b)) 4 rfl,Bl.ld (HX.p0.keep (Yb h.1 b)) 5 rfl,Bl.ld (HX.p1.keep (Yb h.1 b)) 0 rfl,Bl.ld (HX.p1.keep (Yb h.1 b)) 1 rfl,Bl.ld (HX.p1.keep (Yb h.1 b)) 2 rfl,HC.out _ (Yb HX.q3 (Yb h.1 b))⟩) (fun _ _ _ h _=>h) ⟨fun _ _ _ h _=>h,fun _ _ _ _ h=>h.elim,trivial⟩ ⟨?_,?_,trivial⟩ trivial trivial ?_
   · rintro W hS
     refine gvN ?_;(repeat first|refine flA ?_|refine flB ?_);refine flN (flN ?_)
     refine flK (fun K hK=>?_) flL
     go_simp
     exact hK.out _ _ ⟨rfl,below_nil⟩
   · rintro W hS v12 rfl
     refine gvN ?_;(repeat first|refine flA ?_|refine flB ?_);refine flN (flN ?_)
     exact flL
   rintro W hS - v12 rfl
   have hS:=hS flY
   refine gvN ?_;(repeat first|refine flA ?_|refine flB ?_);refine flN (flN ?_)
   go_wp2_with fail
   go_meet
   exact ⟨rfl,hS.1⟩
 case rest=>
  obtain ⟨rfl,HQ⟩:=hcut
  generalize wc=W1 at HQ ⊢
  have HX1:=Yh4 (HX.p0.keep HQ.out) (HX.p1.keep HQ.out) (HX.p2.keep HQ.out) (Yb HX.q3 HQ.out)
  clear HX HQ
  obtain ⟨b1,hb1⟩:∃ b,(bl && decide (cmpQ x f.q<0))=b:=⟨_,rfl⟩
  rw [hb1]
  have HB1:=Lib.hid hb1
  clear hb1
  cases b1 with
  | true=>
   have HT:Hid (lackQ bl bh f.q g.q x=(f.q - x,true)):=lackQ_lo HB1.out
   clear HB1
   go_upto_region 2 with (fail)
   refine flow (fun W=>Yg W1 W/\W.cell? ⟨w.heap.size,2,none⟩=some (.slice (some ⟨gb,ob,none⟩) bn bc)/\W.cell? ⟨w.heap.size,3,none⟩=some (.slice (some ⟨gc,oc,none⟩) cn cc)/\W.cell? ⟨w.heap.size,4,none⟩=some (.slice (some ⟨gd,od,none⟩) dn dc)/\W.cell? ⟨w.heap.size,5,none⟩=some (.slice (some ⟨ge,oe,none⟩) en ec)/\W.cell? ⟨(w.heap.size+1),0,none⟩=some (.bool bx)/\W.cell? ⟨(w.heap.size+1),1,none⟩=some (.slice Ax lx cx)/\W.cell? ⟨(w.heap.size+1),2,none⟩=some (.slice Bx kx dx)/\W.cell? ⟨gb,ob+k,none⟩=some (.bool bl)/\W.cell? ⟨gc,oc+k,none⟩=some (.bool bh)/\W.cell? ⟨gd,od+k*3,none⟩=some (.bool xd.b)/\W.cell? ⟨gd,od+k*3+1,none⟩=some (.slice xd.A xd.l xd.k)/\W.cell? ⟨gd,od+k*3+2,none⟩=some (.slice xd.B xd.m xd.d)/\W.cell? ⟨ge,oe+k*3,none⟩=some (.bool xe.b)/\W.cell? ⟨ge,oe+k*3+1,none⟩=some (.slice xe.A xe.l xe.k)/\W.cell? ⟨ge,oe+k*3+2,none⟩=some (.slice xe.B xe.m xe.d)) (fun vs W=>match vs with|[]=>True|_=>∃ p A l c B k d,Bl W 36 (w.heap.size+2) [.bool p,.slice A l c,.slice B k d]/\Qr w W (.agg #[.bool p,.slice A l c,.slice B k d]) (f.q - x)) (fun _ _=>False) 0 [⟨[],[(0,24),(1,25),(2,26),(3,27),(4,28),(5,29)],[],[(6,30,fun v W=>∃ p A l c B k d,v=.agg #[.bool p,.slice A l c,.slice B k d]/\Qr W1 W (.agg #[.bool p,.slice A l c,.slice B k d]) (f.q - x))]⟩] [⟨[],[],[(8,7)],[]⟩] [⟨7,none,[(6,30)],[],[]⟩] ⟨[(6,30)],[(0,24),(1,25),(2,26),(3,27),(4,28),(5,29)],[(8,7)],[]⟩ ⟨below_nil,Bl.ld (HX1.p0.keep below_nil) 2 rfl,Bl.ld (HX1.p0.keep below_nil) 3 rfl,Bl.ld (HX1.p0.keep below_nil) 4 rfl,Bl.ld (HX1.p0.keep below_nil) 5 rfl,Bl.ld (HX1.p1.keep below_nil) 0 rfl,Bl.ld (HX1.p1.keep below_nil) 1 rfl,Bl.ld (HX1.p1.keep below_nil) 2 rfl,HC.out _ (Yb HX1.q3 below_nil)⟩ (trivial) (fun _ _ h b=>⟨(Yb h.1 b),Bl.ld (HX1.p0.keep (Yb h.1 b)) 2 rfl,Bl.ld (HX1.p0.keep (Yb h.1 b)) 3 rfl,Bl.ld (HX1.p0.keep (Yb h.1 b)) 4 rfl,Bl.ld (HX1.p0.keep (Yb h.1 b)) 5 rfl,Bl.ld (HX1.p1.keep (Yb h.1 b)) 0 rfl,Bl.ld (HX1.p1.keep (Yb h.1 b)) 1 rfl,Bl.ld (HX1.p1.keep (Yb h.1 b)) 2 rfl,HC.out _ (Yb HX1.q3 (Yb h.1 b))⟩) (fun vs _ _ h b=>match vs,h with|[],_=>trivial|_::_,⟨p,A,l,c,B,k,d,h1,h2⟩=>⟨p,A,l,c,B,k,d,h1.keep b,h2.keep b⟩) ⟨fun _ _ _ ⟨p,A,l,c,B,k,d,e,h⟩ b=>⟨p,A,l,c,B,k,d,e,h.keep b⟩,fun _ _ _ _ h=>h.elim,trivial⟩ ⟨?_,trivial⟩ ⟨?_,trivial⟩ ⟨?_,trivial⟩ ?_
   · rintro W hS
     refine gvN ?_;(repeat refine flA ?_);refine flN (flN ?_)
     refine flK (fun K hK=>?_) flL
     go_simp
     go_at_call 98;refine (sub_v (HV.p0.keep (Yb HX1.q3 hS.1)) (HU.out.keep (Yb HX1.q3 hS.1)) Yd HE.p0.1 Yd HE.p0.2).mono ?_;rintro e W2 ⟨v,rfl,h⟩
     obtain ⟨p,A,l,c,B,k,d,rfl⟩:=h.qo.parts
     go_wp2_with fail
     exact hK.out _ _ ⟨⟨_,_,_,_,_,_,_,rfl,h.from hS.1⟩,h.below⟩
   · refine gvN ?_;(repeat refine flA ?_);exact trivial
   · rintro W hS - v6 ⟨p6,E6,n6,k6,F6,m6,d6,rfl,h6⟩
     have hS:=hS flY
     refine gvN ?_;refine flN (flN ?_)
     refine flC fun K hK=>?_
     have X:=HX1.p2.keep hS.1
     have f0:=Bl.fr X 0
     have f1:=Bl.fr X 1
     have f2:=Bl.fr X 2
     have r0:=Bl.ld X 0 rfl
     have r1:=Bl.ld X 1 rfl
     have r2:=Bl.ld X 2 rfl
     go_simp
     clear f0 f1 f2 r0 r1 r2
     exact hK.out undef _ ⟨⟨_,_,_,_,_,_,_,X.set3 rfl (.bool p6) (.slice E6 n6 k6) (.slice F6 m6 d6),(h6.from HX1.q3).keepT (X.keep3 Yd (.bool p6) (.slice E6 n6 k6) (.slice F6 m6 d6)) (below3 (Yb HX1.q3 hS.1) Yo (.bool p6) (.slice E6 n6 k6) (.slice F6 m6 d6))⟩,fun h=>flX h⟩
   rintro W hS c7 ⟨p,A,l,c,B,k,d,X,hq⟩ v6 ⟨_,p6,E6,n6,k6,F6,m6,d6,rfl,-⟩
   clear hS
   refine gvN ?_;(repeat refine flA ?_);refine flN ?_
   go_wp2_with fail
   refine ret_bl X (fun W2 hW=>by have d0:=hW 0 _ rfl;have d1:=hW 1 _ rfl;have d2:=hW 2 _ rfl;simp [results,Tryz.results88,go_sem,d0,d1,d2];try rfl) rfl ?_
   have HL:=HT.out
   rw [HL]
   exact ⟨_,rfl,hq⟩
  | false=>
   go_upto_region 3 with (fail)
   go_cut [31] (fun z wx=>z=.bool (bh && decide (0<cmpQ x g.q))/\Hid (Yg W1 wx))
   case first=>
    cases bh with
    | true=>
     refine flow (fun W=>Yg W1 W/\W.cell? ⟨w.heap.size,2,none⟩=some (.slice (some ⟨gb,ob,none⟩) bn bc)/\W.cell? ⟨w.heap.size,3,none⟩=some (.slice (some ⟨gc,oc,none⟩) cn cc)/\W.cell? ⟨w.heap.size,4,none⟩=some (.slice (some ⟨gd,od,none⟩) dn dc)/\W.cell? ⟨w.heap.size,5,none⟩=some (.slice (some ⟨ge,oe,none⟩) en ec)/\W.cell? ⟨(w.heap.size+1),0,none⟩=some (.bool bx)/\W.cell? ⟨(w.heap.size+1),1,none⟩=some (.slice Ax lx cx)/\W.cell? ⟨(w.heap.size+1),2,none⟩=some (.slice Bx kx dx)/\W.cell? ⟨gb,ob+k,none⟩=some (.bool bl)/\W.cell? ⟨gc,oc+k,none⟩=some (.bool true)/\W.cell? ⟨gd,od+k*3,none⟩=some (.bool xd.b)/\W.cell? ⟨gd,od+k*3+1,none⟩=some (.slice xd.A xd.l xd.k)/\W.cell? ⟨gd,od+k*3+2,none⟩=some (.slice xd.B xd.m xd.d)/\W.cell? ⟨ge,oe+k*3,none⟩=some (.bool xe.b)/\W.cell? ⟨ge,oe+k*3+1,none⟩=some (.slice xe.A xe.l xe.k)/\W.cell? ⟨ge,oe+k*3+2,none⟩=some (.slice xe.B xe.m xe.d)) (fun _ _=>True) (fun _ _=>False) 0 [⟨[],[(0,32),(1,33),(2,34),(3,35),(4,36),(5,37),(6,38),(7,39),(8,40),(9,41),(10,42),(11,43)],[],[(12,44,fun v W=>v=.int .i64 (cmpQ x g.q))]⟩,⟨[(12,44)],[(0,32),(1,33),(2,34),(3,35),(4,36),(5,37),(13,45),(14,46),(15,31)],[],[]⟩] [] [] ⟨[(12,44)],[(0,32),(1,33),(2,34),(3,35),(4,36),(5,37),(6,38),(7,39),(8,40),(9,41),(10,42),(11,43),(13,45),(14,46),(15,31)],[],[]⟩ ⟨below_nil,Bl.ld (HX1.p0.keep below_nil) 2 rfl,Bl.ld (HX1.p0.keep below_nil) 3 rfl,Bl.ld (HX1.p0.keep below_nil) 4 rfl,Bl.ld (HX1.p0.keep below_nil) 5 rfl,Bl.ld (HX1.p1.keep below_nil) 0 rfl,Bl.ld (HX1.p1.keep below_nil) 1 rfl,Bl.ld (HX1.p1.keep below_nil) 2 rfl,HC.out _ (Yb HX1.q3 below_nil)⟩ (trivial) (fun _ _ h b=>⟨(Yb h.1 b),Bl.ld (HX1.p0.keep (Yb h.1 b)) 2 rfl,Bl.ld (HX1.p0.keep (Yb h.1 b)) 3 rfl,Bl.ld (HX1.p0.keep (Yb h.1 b)) 4 rfl,Bl.ld (HX1.p0.keep (Yb h.1 b)) 5 rfl,Bl.ld (HX1.p1.keep (Yb h.1 b)) 0 rfl,Bl.ld (HX1.p1.keep (Yb h.1 b)) 1 rfl,Bl.ld (HX1.p1.keep (Yb h.1 b)) 2 rfl,HC.out _ (Yb HX1.q3 (Yb h.1 b))⟩) (fun _ _ _ h _=>h) ⟨fun _ _ _ h _=>h,fun _ _ _ _ h=>h.elim,trivial⟩ ⟨?_,?_,trivial⟩ trivial trivial ?_
     · rintro W hS
       refine gvN ?_;(repeat first|refine flA ?_|refine flB ?_);refine flN (flN ?_)
       refine flK (fun K hK=>?_) flL
       go_simp
       go_at_call 89;refine (cmp_v (HU.out.keep (Yb HX1.q3 hS.1)) (HV.q1.keep (Yb HX1.q3 hS.1)) HE.p0.1 Yd HE.p0.2 Yd).mono ?_;rintro e W2 ⟨rfl,hb⟩
       go_wp2_with fail
       exact hK.out _ _ ⟨rfl,hb⟩
     · rintro W hS v12 rfl
       refine gvN ?_;(repeat first|refine flA ?_|refine flB ?_);refine flN (flN ?_)
       exact flL
     rintro W hS - v12 rfl
     have hS:=hS flY
     refine gvN ?_;(repeat first|refine flA ?_|refine flB ?_);refine flN (flN ?_)
     go_wp2_with fail
     go_meet
     exact ⟨by rw [Bool.true_and],hS.1⟩
    | false=>
     refine flow (fun W=>Yg W1 W/\W.cell? ⟨w.heap.size,2,none⟩=some (.slice (some ⟨gb,ob,none⟩) bn bc)/\W.cell? ⟨w.heap.size,3,none⟩=some (.slice (some ⟨gc,oc,none⟩) cn cc)/\W.cell? ⟨w.heap.size,4,none⟩=some (.slice (some ⟨gd,od,none⟩) dn dc)/\W.cell? ⟨w.heap.size,5,none⟩=some (.slice (some ⟨ge,oe,none⟩) en ec)/\W.cell? ⟨(w.heap.size+1),0,none⟩=some (.bool bx)/\W.cell? ⟨(w.heap.size+1),1,none⟩=some (.slice Ax lx cx)/\W.cell? ⟨(w.heap.size+1),2,none⟩=some (.slice Bx kx dx)/\W.cell? ⟨gb,ob+k,none⟩=some (.bool bl)/\W.cell? ⟨gc,oc+k,none⟩=some (.bool false)/\W.cell? ⟨gd,od+k*3,none⟩=some (.bool xd.b)/\W.cell? ⟨gd,od+k*3+1,none⟩=some (.slice xd.A xd.l xd.k)/\W.cell? ⟨gd,od+k*3+2,none⟩=some (.slice xd.B xd.m xd.d)/\W.cell? ⟨ge,oe+k*3,none⟩=some (.bool xe.b)/\W.cell? ⟨ge,oe+k*3+1,none⟩=some (.slice xe.A xe.l xe.k)/\W.cell? ⟨ge,oe+k*3+2,none⟩=some (.slice xe.B xe.m xe.d)) (fun _ _=>True) (fun _ _=>False) 0 [⟨[],[(0,32),(1,33),(2,34),(3,35),(4,36),(5,37),(6,38),(7,39),(8,40),(9,41),(10,42),(11,43)],[],[(12,44,fun v W=>v=undef)]⟩,⟨[(12,44)],[(0,32),(1,33),(2,34),(3,35),(4,36),(5,37),(13,45),(14,46),(15,31)],[],[]⟩] [] [] ⟨[(12,44)],[(0,32),(1,33),(2,34),(3,35),(4,36),(5,37),(6,38),(7,39),(8,40),(9,41),(10,42),(11,43),(13,45),(14,46),(15,31)],[],[]⟩ ⟨below_nil,Bl.ld (HX1.p0.keep below_nil) 2 rfl,Bl.ld (HX1.p0.keep below_nil) 3 rfl,Bl.ld (HX1.p0.keep below_nil) 4 rfl,Bl.ld (HX1.p0.keep below_nil) 5 rfl,Bl.ld (HX1.p1.keep below_nil) 0 rfl,Bl.ld (HX1.p1.keep below_nil) 1 rfl,Bl.ld (HX1.p1.keep below_nil) 2 rfl,HC.out _ (Yb HX1.q3 below_nil)⟩ (trivial) (fun _ _ h b=>⟨(Yb h.1 b),Bl.ld (HX1.p0.keep (Yb h.1 b)) 2 rfl,Bl.ld (HX1.p0.keep (Yb h.1 b)) 3 rfl,Bl.ld (HX1.p0.keep (Yb h.1 b)) 4 rfl,Bl.ld (HX1.p0.keep (Yb h.1 b)) 5 rfl,Bl.ld (HX1.p1.keep (Yb h.1 b)) 0 rfl,Bl.ld (HX1.p1.keep (Yb h.1 b)) 1 rfl,Bl.ld (HX1.p1.keep (Yb h.1 b)) 2 rfl,HC.out _ (Yb HX1.q3 (Yb h.1 b))⟩) (fun _ _ _ h _=>h) ⟨fun _ _ _ h _=>h,fun _ _ _ _ h=>h.elim,trivial⟩ ⟨?_,?_,trivial⟩ trivial trivial ?_
     · rintro W hS
       refine gvN ?_;(repeat first|refine flA ?_|refine flB ?_);refine flN (flN ?_)
       refine flK (fun K hK=>?_) flL
       go_simp
       exact hK.out _ _ ⟨rfl,below_nil⟩
     · rintro W hS v12 rfl
       refine gvN ?_;(repeat first|refine flA ?_|refine flB ?_);refine flN (flN ?_)
       exact flL
     rintro W hS - v12 rfl
     have hS:=hS flY
     refine gvN ?_;(repeat first|refine flA ?_|refine flB ?_);refine flN (flN ?_)
     go_wp2_with fail
     go_meet
     exact ⟨rfl,hS.1⟩
   case rest=>
    obtain ⟨rfl,HQ⟩:=hcut
    generalize wc=W2 at HQ ⊢
    have HX2:=Yh4 (HX1.p0.keep HQ.out) (HX1.p1.keep HQ.out) (HX1.p2.keep HQ.out) (Yb HX1.q3 HQ.out)
    clear HX1 HQ
    obtain ⟨b2,hb2⟩:∃ b,(bh && decide (0<cmpQ x g.q))=b:=⟨_,rfl⟩
    rw [hb2]
    have HB2:=Lib.hid hb2
    clear hb2
    cases b2 with
    | true=>
     have HT:Hid (lackQ bl bh f.q g.q x=(x - g.q,false)):=lackQ_hi HB1.out HB2.out
     clear HB1 HB2
     go_upto_region 4 with (fail)
     refine flow (fun W=>Yg W2 W/\W.cell? ⟨w.heap.size,2,none⟩=some (.slice (some ⟨gb,ob,none⟩) bn bc)/\W.cell? ⟨w.heap.size,3,none⟩=some (.slice (some ⟨gc,oc,none⟩) cn cc)/\W.cell? ⟨w.heap.size,4,none⟩=some (.slice (some ⟨gd,od,none⟩) dn dc)/\W.cell? ⟨w.heap.size,5,none⟩=some (.slice (some ⟨ge,oe,none⟩) en ec)/\W.cell? ⟨(w.heap.size+1),0,none⟩=some (.bool bx)/\W.cell? ⟨(w.heap.size+1),1,none⟩=some (.slice Ax lx cx)/\W.cell? ⟨(w.heap.size+1),2,none⟩=some (.slice Bx kx dx)/\W.cell? ⟨gb,ob+k,none⟩=some (.bool bl)/\W.cell? ⟨gc,oc+k,none⟩=some (.bool bh)/\W.cell? ⟨gd,od+k*3,none⟩=some (.bool xd.b)/\W.cell? ⟨gd,od+k*3+1,none⟩=some (.slice xd.A xd.l xd.k)/\W.cell? ⟨gd,od+k*3+2,none⟩=some (.slice xd.B xd.m xd.d)/\W.cell? ⟨ge,oe+k*3,none⟩=some (.bool xe.b)/\W.cell? ⟨ge,oe+k*3+1,none⟩=some (.slice xe.A xe.l xe.k)/\W.cell? ⟨ge,oe+k*3+2,none⟩=some (.slice xe.B xe.m xe.d)) (fun vs W=>match vs with|[]=>True|_=>∃ p A l c B k d,Bl W 36 (w.heap.size+2) [.bool p,.slice A l c,.slice B k d]/\Qr w W (.agg #[.bool p,.slice A l c,.slice B k d]) (x - g.q)) (fun _ _=>False) 0 [⟨[],[(0,47),(1,48),(2,49),(3,50),(4,51),(5,52)],[],[(6,53,fun v W=>∃ p A l c B k d,v=.agg #[.bool p,.slice A l c,.slice B k d]/\Qr W2 W (.agg #[.bool p,.slice A l c,.slice B k d]) (x - g.q))]⟩] [⟨[],[],[(8,7)],[]⟩] [⟨7,none,[(6,53)],[],[]⟩] ⟨[(6,53)],[(0,47),(1,48),(2,49),(3,50),(4,51),(5,52)],[(8,7)],[]⟩ ⟨below_nil,Bl.ld (HX2.p0.keep below_nil) 2 rfl,Bl.ld (HX2.p0.keep below_nil) 3 rfl,Bl.ld (HX2.p0.keep below_nil) 4 rfl,Bl.ld (HX2.p0.keep below_nil) 5 rfl,Bl.ld (HX2.p1.keep below_nil) 0 rfl,Bl.ld (HX2.p1.keep below_nil) 1 rfl,Bl.ld (HX2.p1.keep below_nil) 2 rfl,HC.out _ (Yb HX2.q3 below_nil)⟩ (trivial) (fun _ _ h b=>⟨(Yb h.1 b),Bl.ld (HX2.p0.keep (Yb h.1 b)) 2 rfl,Bl.ld (HX2.p0.keep (Yb h.1 b)) 3 rfl,Bl.ld (HX2.p0.keep (Yb h.1 b)) 4 rfl,Bl.ld (HX2.p0.keep (Yb h.1 b)) 5 rfl,Bl.ld (HX2.p1.keep (Yb h.1 b)) 0 rfl,Bl.ld (HX2.p1.keep (Yb h.1 b)) 1 rfl,Bl.ld (HX2.p1.keep (Yb h.1 b)) 2 rfl,HC.out _ (Yb HX2.q3 (Yb h.1 b))⟩) (fun vs _ _ h b=>match vs,h with|[],_=>trivial|_::_,⟨p,A,l,c,B,k,d,h1,h2⟩=>⟨p,A,l,c,B,k,d,h1.keep b,h2.keep b⟩) ⟨fun _ _ _ ⟨p,A,l,c,B,k,d,e,h⟩ b=>⟨p,A,l,c,B,k,d,e,h.keep b⟩,fun _ _ _ _ h=>h.elim,trivial⟩ ⟨?_,trivial⟩ ⟨?_,trivial⟩ ⟨?_,trivial⟩ ?_
     · rintro W hS
       refine gvN ?_;(repeat refine flA ?_);refine flN (flN ?_)
       refine flK (fun K hK=>?_) flL
       go_simp
       go_at_call 98;refine (sub_v (HU.out.keep (Yb HX2.q3 hS.1)) (HV.q1.keep (Yb HX2.q3 hS.1)) HE.p0.1 Yd HE.p0.2 Yd).mono ?_;rintro e W2 ⟨v,rfl,h⟩
       obtain ⟨p,A,l,c,B,k,d,rfl⟩:=h.qo.parts
       go_wp2_with fail
       exact hK.out _ _ ⟨⟨_,_,_,_,_,_,_,rfl,h.from hS.1⟩,h.below⟩
     · refine gvN ?_;(repeat refine flA ?_);exact trivial
     · rintro W hS - v6 ⟨p6,E6,n6,k6,F6,m6,d6,rfl,h6⟩
       have hS:=hS flY
       refine gvN ?_;refine flN (flN ?_)
       refine flC fun K hK=>?_
       have X:=HX2.p2.keep hS.1
       have f0:=Bl.fr X 0
       have f1:=Bl.fr X 1
       have f2:=Bl.fr X 2
       have r0:=Bl.ld X 0 rfl
       have r1:=Bl.ld X 1 rfl
       have r2:=Bl.ld X 2 rfl
       go_simp
       clear f0 f1 f2 r0 r1 r2
       exact hK.out undef _ ⟨⟨_,_,_,_,_,_,_,X.set3 rfl (.bool p6) (.slice E6 n6 k6) (.slice F6 m6 d6),(h6.from HX2.q3).keepT (X.keep3 Yd (.bool p6) (.slice E6 n6 k6) (.slice F6 m6 d6)) (below3 (Yb HX2.q3 hS.1) Yo (.bool p6) (.slice E6 n6 k6) (.slice F6 m6 d6))⟩,fun h=>flX h⟩
     rintro W hS c7 ⟨p,A,l,c,B,k,d,X,hq⟩ v6 ⟨_,p6,E6,n6,k6,F6,m6,d6,rfl,-⟩
     clear hS
     refine gvN ?_;(repeat refine flA ?_);refine flN ?_
     go_wp2_with fail
     refine ret_bl X (fun W2 hW=>by have d0:=hW 0 _ rfl;have d1:=hW 1 _ rfl;have d2:=hW 2 _ rfl;simp [results,Tryz.results88,go_sem,d0,d1,d2];try rfl) rfl ?_
     have HL:=HT.out
     rw [HL]
     exact ⟨_,rfl,hq⟩
    | false=>
     have HT:Hid (lackQ bl bh f.q g.q x=(0,false)):=lackQ_no HB1.out HB2.out
     clear HB1 HB2
     go_wp2_with fail
     refine (whole_v (z:=0) (sm64 Yd)).mono ?_;rintro e W3 ⟨v,rfl,h⟩
     obtain ⟨p,A,l_,c,B,k_,d,rfl⟩:=h.qo.parts
     have X:=HX2.p2.keep h.below
     have f0:=Bl.fr X 0
     have f1:=Bl.fr X 1
     have f2:=Bl.fr X 2
     have r0:=Bl.ld X 0 rfl
     have r1:=Bl.ld X 1 rfl
     have r2:=Bl.ld X 2 rfl
     go_wp2_with fail
     refine ret_bl (X.set3 rfl (.bool p) (.slice A l_ c) (.slice B k_ d)) (fun W2 hW=>by have d0:=hW 0 _ rfl;have d1:=hW 1 _ rfl;have d2:=hW 2 _ rfl;simp [results,Tryz.results88,go_sem,d0,d1,d2];try rfl) rfl ?_
     have HL:=HT.out
     rw [HL]
     exact ⟨_,rfl,(h.from HX2.q3).keepT (X.keep3 Yd (.bool p) (.slice A l_ c) (.slice B k_ d)) (below3 (Yb HX2.q3 h.below) Yo (.bool p) (.slice A l_ c) (.slice B k_ d))⟩
end
end
end Go.Proofs.YtaajajngnmaggaaGreat
