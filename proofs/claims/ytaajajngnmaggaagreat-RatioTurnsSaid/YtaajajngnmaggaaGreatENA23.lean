import Derived.Test.YtaajajngnmaggaaGreatENA22
set_option maxRecDepth 100000
set_option maxHeartbeats 8000000
set_option linter.unusedVariables false
set_option linter.unusedSimpArgs false
namespace Go.Proofs.YtaajajngnmaggaaGreat
section
section
open Go Go.RowKit Go.Proofs Pl
namespace I
section
variable {wv w0 w w':World} {fs:List Fx} {bs:List Bool}
theorem Rr.up {α:Type} {B s:Nat} {T:TypeId} {f:α->List Value} {v v1:Value} {xs:List α} (h:Rr w' B T s f v1 xs) (hx:xs.length≠0) (k4:∀ g,g<w.heap.size->v.ownBlock≠some g->w'.heap[g]?=w.heap[g]?) (k5:∀ k,v1.ownBlock=some k->v.ownBlock=some k∨w.heap.size<=k):w.heap.size<=w'.heap.size:=by
 obtain ⟨-,hn | ⟨g,cap,cur,rfl,-,hg,-⟩⟩:=h
 · exact absurd hn.2 hx
 · have hlt:=(Array.getElem?_eq_some_iff.1 hg).1
   refine Nat.le_of_not_lt fun hc=>?_
   rcases k5 g rfl with h1 | h1
   · have hj:=k4 w'.heap.size hc (fun e=>by rw [h1] at e;injection e;omega)
     rw [Array.getElem?_eq_none (Nat.le_refl _),Array.getElem?_eq_getElem hc] at hj;cases hj
   · omega
theorem Rc.up {v v1:Value} {f:Fx} (h:Rc wv w0 w' v1 (fs++[f])) (k4:∀ g,g<w.heap.size->v.ownBlock≠some g->w'.heap[g]?=w.heap[g]?) (k5:∀ k,v1.ownBlock=some k->v.ownBlock=some k∨w.heap.size<=k):w.heap.size<=w'.heap.size:=by
 obtain ⟨xs,h1,h2⟩:=h
 exact Rr.up h1 (by rw [h2.1];simp) k4 k5
theorem Rb.up {v v1:Value} {b:Bool} (h:Rb w0 w' v1 (bs++[b])) (k4:∀ g,g<w.heap.size->v.ownBlock≠some g->w'.heap[g]?=w.heap[g]?) (k5:∀ k,v1.ownBlock=some k->v.ownBlock=some k∨w.heap.size<=k):w.heap.size<=w'.heap.size:=Rr.up h (by simp) k4 k5
end
theorem colM_fit {w W:World} {u v:Value} {p:Px} {i j:Nat} (h:Tx W v (fqT (colM p i j))) (hr:Wr w u p.rows) (hf:∀ r∈p.rows,r.ts.length<=30/\∀ t∈r.ts,t.2.xs.length<=6/\t.2.ds.length<=6) (hj:j<=p.rows.length) (hj2:j<=100):
 Vt W 211 v (colM p i j)/\(colM p i j).length<=4096/\∀ c,Sz 21201 (getV (colM p i j) c):=by
 have hs:∀ t∈colM p i j,Sz 211 t.2:=fun t ht=>by
  unfold colM at ht
  obtain ⟨a,ha,rfl⟩:=List.mem_map.1 ht
  have ha:=List.mem_range.1 ha
  have hra:p.rows[a]?=some p.rows[a]:=List.getElem?_eq_getElem Yo
  obtain ⟨g,o,cap,x,-,-,hx,-⟩:=hr.at_ hra
  rw [List.getD_eq_getElem?_getD,hra]
  exact getV_sz hx.2.2.2.2 (hf _ (List.getElem_mem Yo)) _
 have hl:(colM p i j).length=j:=by unfold colM;simp
 refine ⟨?_,Yo,fun c=>(sz_get hs c).mono (by rw [hl];have:=Nat.mul_le_mul_right (211+1) hj2;omega)⟩
 have:=h.vt (L:=211) fun t ht=>by
  unfold fqT at ht
  obtain ⟨a,ha,rfl⟩:=List.mem_map.1 ht
  exact fq_len (hs a ha)
 rwa [qT_fq] at this
theorem make_p {w:World} {v:Value} {p:Px} (h:Pv w v p) (hf:FitP p):
 Calls Tryz.prog 85 #[v] w fun e w'=>∃ u,e=.returned u/\LPv w' u (makeX p)/\Yg w w':=by
 obtain ⟨n1,n2,A,a0,c0,B,b0,d0,rfl,hr,hv⟩:=h
 obtain ⟨A',c',e,hmm⟩:=hr.shape
 injection e with e1 e2 e3
 subst e2
 obtain ⟨B',d',e,hmn⟩:=hv.shape
 injection e with e4 e5 e6
 subst e5
 obtain ⟨m,hm⟩:∃ m,p.rows.length=m:=⟨_,rfl⟩
 obtain ⟨n,hn⟩:∃ n,p.vars.length=n:=⟨_,rfl⟩
 rw [hm] at hr ⊢
 rw [hn] at hv ⊢
 have hm1:m<=100:=by rw [<- hm];exact hf.1
 have hn1:n<=100:=by rw [<- hn];exact hf.2.1
 have HS:=Yh2 hr hv
 have HF:=Yh3 hf.2.2 hm hn
 clear hr hv hf hm hn e1 e3 e4 e6 hmm hmn A' B' c' d'
 change Calls Tryz.prog 85 #[.agg #[n1,n2,.slice A m c0,.slice B n d0]] w _
 go_enter Tryz.func85,Tryz.ntmps85
 go_upto_region 1 with (fail)
 have hb0:Yg w ((w.alloc (.cells #[n1,n2,.slice A m c0,.slice B n d0] 148)).alloc (.cells #[.int .i64 0,.slice none 0 0,.slice none 0 0,.slice none 0 0,.slice none 0 0,.slice none 0 0,.slice none 0 0] 26)):=Yb (Ya _ _) (Ya _ _)
 have HBL:=Lib.hid ((Bl.new w 148 [n1,n2,.slice A m c0,.slice B n d0]).alloc (.cells #[.int .i64 0,.slice none 0 0,.slice none 0 0,.slice none 0 0,.slice none 0 0,.slice none 0 0,.slice none 0 0] 26))
 have R0:=Bl.new1 w (.cells #[n1,n2,.slice A m c0,.slice B n d0] 148) 26 [.int .i64 0,.slice none 0 0,.slice none 0 0,.slice none 0 0,.slice none 0 0,.slice none 0 0,.slice none 0 0]
 have HA:=Lib.hid HS.out
 obtain ⟨gR,hgR⟩:∃ g,g=w.heap.size+1:=⟨_,rfl⟩
 rw [<- hgR] at R0 ⊢
 have hgl:w.heap.size<gR:=Yo
 have HR0:=Lib.hid R0
 have HBW:=Lib.hid hb0
 clear HS R0 hb0 hgR
 generalize (w.alloc _).alloc _=W0 at HBL HR0 HBW ⊢
 have HC:Hid (∀ W,Yg W0 W->Ye4 W w.heap.size n1 n2 (.slice A m c0) (.slice B n d0)):=fun W hb=>⟨Bl.ld (HBL.out.keep hb) 0 rfl,Bl.ld (HBL.out.keep hb) 1 rfl,Bl.ld (HBL.out.keep hb) 2 rfl,Bl.ld (HBL.out.keep hb) 3 rfl⟩
 obtain ⟨l0,l1,l2,l3⟩:=HC.out W0 below_nil
 go_upto_region 2 with (fail)
 have X1:=Lib.hid (Bl.new W0 26 [.int .i64 (n:Int),.slice none 0 0,.slice none 0 0,.slice none 0 0,.slice none 0 0,.slice none 0 0,.slice none 0 0])
 have B1:=Lib.hid (Ya W0 (.cells #[.int .i64 (n:Int),.slice none 0 0,.slice none 0 0,.slice none 0 0,.slice none 0 0,.slice none 0 0,.slice none 0 0] 26))
 clear l0 l1 l2 l3
 generalize (W0.alloc (.cells #[.int .i64 (n:Int),.slice none 0 0,.slice none 0 0,.slice none 0 0,.slice none 0 0,.slice none 0 0,.slice none 0 0] 26))=V1 at X1 B1 ⊢
 obtain ⟨g3,hg3e⟩:∃ g,g=W0.heap.size:=⟨_,rfl⟩
 rw [<- hg3e] at X1 ⊢
 have hg3:W0.heap.size<=g3:=Yo
 clear hg3e
 go_wp2_with fail
 go_loopw [4] (fun z wr=>∃ (k Kn:Nat) (la:List (List (Int × Fx))) (lb lc:List Bool) (ld le lf:List Fx) (Aa Ab Ac Ad Ae Af:Option Addr) (ca cb cc cd ce cf:Nat),z=.int .i64 (k:Int)/\k<=n/\Kn=k/\Hid (L1 p k la lb lc ld le lf)/\Hid (Yg W0 wr/\Bl wr 26 g3 [.int .i64 (n:Int),.slice Aa Kn ca,.slice Ab Kn cb,.slice Ac Kn cc,.slice Ad Kn cd,.slice Ae Kn ce,.slice Af Kn cf]/\Gw W0 wr (.slice Aa Kn ca) la/\Sb W0 wr (.slice Ab Kn cb) (.slice Ac Kn cc) lb lc/\Sd w W0 wr (.slice Ad Kn cd) (.slice Ae Kn ce) (.slice Af Kn cf) ld le lf)) (fun z _=>n - (intOf z).toNat)
 case atStart=>exact ⟨0,0,[],[],[],[],[],[],none,none,none,none,none,none,0,0,0,0,0,0,rfl,Nat.zero_le _,rfl,L1.nil p,B1.out,X1.out,⟨[],Rr.nil _ _ _ _ _,Zip2.nil,B1.out⟩,⟨Rr.nil _ _ _ _ _,Rr.nil _ _ _ _ _,apart_nil⟩,Rc.nil,Rc.nil,Rc.nil,apart_nil,apart_nil,apart_nil⟩
 case round=>
  obtain ⟨k,Kn,la,lb,lc,ld,le,lf,Aa,Ab,Ac,Ad,Ae,Af,ca,cb,cc,cd,ce,cf,rfl,hk,hKn,HL1,H⟩:=hrel
  have HKn:=Lib.hid hKn
  clear hKn
  by_cases hlt:k<n
  · skip
    have hbr:=H.p0
    obtain ⟨r,hr⟩:∃ r,p.vars[k]?=some r:=⟨_,List.getElem?_eq_getElem (by rw [HF.q2];exact hlt)⟩
    obtain ⟨g,o,cap,x,e,hg,hx,hcl⟩:=HA.q1.at_ hr
    rw [HF.q2] at e
    injection e with e1 e2 e3
    subst e1
    clear e2 e3
    have z0:wr.cell? ⟨g,o+k*13,none⟩=some (.string x.nm):=((Yb HBW.out hbr).cell (p:=⟨g,_,none⟩) hg).trans (hcl 0 _ rfl)
    have z1:wr.cell? ⟨g,o+k*13+1,none⟩=some (.bool x.wh):=((Yb HBW.out hbr).cell (p:=⟨g,_,none⟩) hg).trans (hcl 1 _ rfl)
    have z2:wr.cell? ⟨g,o+k*13+2,none⟩=some (.bool x.p):=((Yb HBW.out hbr).cell (p:=⟨g,_,none⟩) hg).trans (hcl 2 _ rfl)
    have z3:wr.cell? ⟨g,o+k*13+3,none⟩=some (.bool x.q):=((Yb HBW.out hbr).cell (p:=⟨g,_,none⟩) hg).trans (hcl 3 _ rfl)
    have z4:wr.cell? ⟨g,o+k*13+4,none⟩=some (.bool x.lo.b):=((Yb HBW.out hbr).cell (p:=⟨g,_,none⟩) hg).trans (hcl 4 _ rfl)
    have z5:wr.cell? ⟨g,o+k*13+5,none⟩=some (.slice x.lo.A x.lo.l x.lo.k):=((Yb HBW.out hbr).cell (p:=⟨g,_,none⟩) hg).trans (hcl 5 _ rfl)
    have z6:wr.cell? ⟨g,o+k*13+6,none⟩=some (.slice x.lo.B x.lo.m x.lo.d):=((Yb HBW.out hbr).cell (p:=⟨g,_,none⟩) hg).trans (hcl 6 _ rfl)
    have z7:wr.cell? ⟨g,o+k*13+7,none⟩=some (.bool x.hi.b):=((Yb HBW.out hbr).cell (p:=⟨g,_,none⟩) hg).trans (hcl 7 _ rfl)
    have z8:wr.cell? ⟨g,o+k*13+8,none⟩=some (.slice x.hi.A x.hi.l x.hi.k):=((Yb HBW.out hbr).cell (p:=⟨g,_,none⟩) hg).trans (hcl 8 _ rfl)
    have z9:wr.cell? ⟨g,o+k*13+9,none⟩=some (.slice x.hi.B x.hi.m x.hi.d):=((Yb HBW.out hbr).cell (p:=⟨g,_,none⟩) hg).trans (hcl 9 _ rfl)
    have z10:wr.cell? ⟨g,o+k*13+10,none⟩=some (.bool x.co.b):=((Yb HBW.out hbr).cell (p:=⟨g,_,none⟩) hg).trans (hcl 10 _ rfl)
    have z11:wr.cell? ⟨g,o+k*13+11,none⟩=some (.slice x.co.A x.co.l x.co.k):=((Yb HBW.out hbr).cell (p:=⟨g,_,none⟩) hg).trans (hcl 11 _ rfl)
    have z12:wr.cell? ⟨g,o+k*13+12,none⟩=some (.slice x.co.B x.co.m x.co.d):=((Yb HBW.out hbr).cell (p:=⟨g,_,none⟩) hg).trans (hcl 12 _ rfl)
    have HX:=Yh2 hx hr
    clear hx hr hcl hg
    obtain ⟨l0,l1,l2,l3⟩:=HC.out _ hbr
    clear hbr
    have dk:(k:Int)<(n:Int):=Yo
    go_upto_region 6 with (fail)
    clear z0 z1 z2 z3 z4 z5 z6 z7 z8 z9 z10 z11 z12 l0 l1 l2 l3 dk
    have X5:Bl (wr.alloc (.cells #[.string x.nm,.bool x.wh,.bool x.p,.bool x.q,.bool x.lo.b,.slice x.lo.A x.lo.l x.lo.k,.slice x.lo.B x.lo.m x.lo.d,.bool x.hi.b,.slice x.hi.A x.hi.l x.hi.k,.slice x.hi.B x.hi.m x.hi.d,.bool x.co.b,.slice x.co.A x.co.l x.co.k,.slice x.co.B x.co.m x.co.d] 145)) 145 wr.heap.size x.cs:=Bl.new wr 145 x.cs
    have hb5:=Ya wr (.cells #[.string x.nm,.bool x.wh,.bool x.p,.bool x.q,.bool x.lo.b,.slice x.lo.A x.lo.l x.lo.k,.slice x.lo.B x.lo.m x.lo.d,.bool x.hi.b,.slice x.hi.A x.hi.l x.hi.k,.slice x.hi.B x.hi.m x.hi.d,.bool x.co.b,.slice x.co.A x.co.l x.co.k,.slice x.co.B x.co.m x.co.d] 145)
    have hg35:g3≠wr.heap.size:=Nat.ne_of_lt H.p1.lt
    have HM:=Yh6 (Yb H.p0 hb5) X5 (H.p1.keep hb5) (H.p2.keep hb5) (H.p3.keep hb5) (H.q4.keep hb5)
    clear X5 hb5 H
    generalize (wr.alloc (.cells #[.string x.nm,.bool x.wh,.bool x.p,.bool x.q,.bool x.lo.b,.slice x.lo.A x.lo.l x.lo.k,.slice x.lo.B x.lo.m x.lo.d,.bool x.hi.b,.slice x.hi.A x.hi.l x.hi.k,.slice x.hi.B x.hi.m x.hi.d,.bool x.co.b,.slice x.co.A x.co.l x.co.k,.slice x.co.B x.co.m x.co.d] 145))=V5 at HM ⊢
    obtain ⟨g5,hg5⟩:∃ g,g=wr.heap.size:=⟨_,rfl⟩
    rw [<- hg5] at HM hg35 ⊢
    clear hg5
    obtain ⟨ela,elb,elc,eld,ele,elf⟩:=HL1.out.len (by rw [HF.q2];exact hk)
    have HLN:=Yh6 ela elb elc eld ele elf
    clear ela elb elc eld ele elf
    skip
    have HLN:Hid (la.length=Kn/\lb.length=Kn/\lc.length=Kn/\ld.length=Kn/\le.length=Kn/\lf.length=Kn):=by have:=HLN.out;rw [HKn.out];exact this
    have hKb:Kn<=1000:=by have:=HKn.out;omega
    have R6:Hid (Tw V5 (V5.alloc (.cells #[] 63)) (.slice (some ⟨V5.heap.size,0,none⟩) 0 0) (fqT (colM p k 0))):=Tw.made V5
    go_upto_region 8 with (fail)
    generalize V5.alloc _=V6 at R6 ⊢
    go_loopw [6,7] (fun z6 z7 wr=>∃ (j:Nat) (Aq:Option Addr) (cq:Nat),z6=.slice Aq j cq/\z7=.int .i64 (j:Int)/\j<=m/\Hid (Tw V5 wr (.slice Aq j cq) (fqT (colM p k j)))) (fun _ z _=>m - (intOf z).toNat)
    case atStart=>exact ⟨0,_,_,rfl,rfl,Nat.zero_le _,R6.out⟩
    case round=>
     clear R6
     obtain ⟨j,Aq,cq,rfl,rfl,hj,HQ⟩:=hrel
     have hbi:=Yb HM.p0 HQ.out.below
     obtain ⟨l0,l1,l2,l3⟩:=HC.out _ hbi
     by_cases hlj:j<m
     · skip
       obtain ⟨r2,hr2⟩:∃ r,p.rows[j]?=some r:=⟨_,List.getElem?_eq_getElem (by rw [HF.p1];exact hlj)⟩
       obtain ⟨g2,o2,cap2,x2,e,hg2,hx2,hcl2⟩:=HA.p0.at_ hr2
       rw [HF.p1] at e
       injection e with e1 e2 e3
       subst e1
       clear e2 e3
       have z9:wr.cell? ⟨g2,o2+j*10+9,none⟩=some (.slice x2.ts.A x2.ts.l x2.ts.k):=((Yb HBW.out hbi).cell (p:=⟨g2,_,none⟩) hg2).trans (hcl2 9 _ rfl)
       have HY:=Yh3 hx2.2.2.2.2 (HF.p0 r2 (List.mem_of_getElem? hr2)) (colM_succ p k hr2)
       have HBI:=Lib.hid hbi
       clear hx2 hr2 hcl2 hg2 hbi
       have dj:(j:Int)<(m:Int):=Yo
       go_wp2_with fail
       refine (get_e (L:=6) ((HY.p0.keep (Yb HBW.out HBI.out)).vt HY.p1.2) Yd Yd (by unfold qT;rw [List.length_map];exact Nat.le_trans HY.p1.1 Yd)).mono ?_;rintro e w2 ⟨u2,rfl,h2,hb2⟩
       have HG:=Yh3 h2 (HQ.out.keep hb2) (show (7+(qT r2.ts).length*(5*6+1))<=1073741824 by have:=HY.p1.1;unfold qT;rw [List.length_map];omega)
       clear h2 hb2 HBI l0 l1 l2 l3 z9 HQ
       go_wp2_with fail
       refine (to_r (K:=211) HG.p0 HG.q2 (getV_sz HY.p0 HY.p1 _) Yd).mono ?_;rintro e w3 ⟨u3,rfl,h3⟩
       have h3b:=h3.below
       have hf3:=h3.fw.from HG.p1.below
       obtain ⟨b4,A4,l4,k4,B4,m4,d4,rfl⟩:=h3.parts
       obtain ⟨b5,hb5⟩:∃ b,b=(fq (getV (qT r2.ts) (k:Int))).b:=⟨_,rfl⟩
       have HT:=Yh3 (HG.p1.keep h3b) hf3 (show (fqT (colM p k j)).length<=1048576 by unfold fqT colM;rw [List.length_map,List.length_map,List.length_range];omega)
       clear h3 h3b hf3 hb5 b5 HG
       go_wp2_with (at_builtin;refine app_ts (t:=((j:Int),fq (getV (qT r2.ts) (k:Int)))) rfl (.tmp 34) (.tmp 46) rfl (x:=(⟨(j:Int),b4,A4,l4,k4,B4,m4,d4,getV (qT r2.ts) (k:Int)⟩:Tm)) rfl rfl (HT.p0.keep (Ya _ _)) rfl (fq_q _).symm (HT.p1.keep (Ya _ _)) (Bl.new w3 _ _) HT.q2 ?_;intro u7 w7 q1 q2 q3)
       obtain ⟨E7,c7,rfl⟩:=q1.shape
       have hl7:(fqT (colM p k j)++[((j:Int),fq (getV (qT r2.ts) (k:Int)))]).length=j+1:=by unfold fqT colM;simp
       rw [hl7] at q1 ⊢
       have H7:Hid (Tw V5 w7 (.slice E7 (j+1) c7) (fqT (colM p k (j+1)))):=by have q:=q1;rw [show fqT (colM p k (j+1))=fqT (colM p k j)++[((j:Int),fq (getV (qT r2.ts) (k:Int)))] from by rw [HY.q2,fqT_app];rfl];exact q
       clear q1 q2 q3 hl7 HT
       go_wp2_with fail
       case roundEnd=>exact ⟨⟨j+1,E7,c7,rfl,by go_num,Yo,H7.out⟩,by simp [intOf];omega⟩
     obtain rfl:j=m:=by omega
     have dj:¬ (j:Int)<(j:Int):=Yo
     have HQM:=Lib.hid HQ.out.tx
     have HM:=Yh6 (Yb HM.p0 HQ.out.below) (HM.p1.keep HQ.out.below) (HM.p2.keep HQ.out.below) (HM.p3.keep HQ.out.below) (HM.p4.keep HQ.out.below) (HM.q5.keep HQ.out.below)
     clear hbi HQ
     skip
     have HCV:Hid (∀ W,Yg wr W->Vt W 211 (.slice Aq j cq) (colM p k j)/\(colM p k j).length<=4096/\∀ c,Sz 21201 (getV (colM p k j) c)):=fun W hb=>colM_fit (HQM.out.keep hb) HA.p0 HF.p0 (by rw [HF.p1];omega) Yo
     go_upto_region 11 with (fail)
     have HD:=Yh6 (Yb HM.p0 (below_d _)) (HM.p1.keep (below_d _)) (HM.p2.keep (below_d _)) (HM.p3.keep (below_d _)) (HM.p4.keep (below_d _)) (HM.q5.keep (below_d _))
     refine wp_region_late 7 (by kernel_rfl) (by kernel_rfl) (Yl 8 128).toArray (by kernel_rfl) (S:=fun W=>W.cell? ⟨g3,1,none⟩=some (.slice Aa Kn ca)) (Bl.ld HD.p2 1 rfl) (fun Hh=>?_)
     clear HM
     have HBD:=Lib.hid (below_d wr)
     refine rgT 0 Hh ?_
     refine rgT 1 Hh ?_
     refine rgT 2 Hh ?_
     generalize wr.drew=Wd at HD HBD Hh ⊢
     refine rgO 3 fun K hK=>?_
     go_simp
     go_at_call 127;refine (make_e (L:=211) (J:=21201) (l:=colM p k j) (HCV.out _ HBD.out).1 Yd Yd (HCV.out _ HBD.out).2.1 (HCV.out _ HBD.out).2.2 Yd).mono ?_;rintro e wt ⟨ut,rfl,ht⟩
     have hb:=ht.below
     obtain ⟨At,ct,rfl⟩:=ht.shape
     obtain ⟨nt,hnt⟩:∃ n,(fqT (mkV (colM p k j))).length=n:=⟨_,rfl⟩
     rw [hnt] at ht ⊢
     have hcol:Tw W0 wt (.slice At nt ct) (fqT (mkV (colM p k p.rows.length))):=by rw [HF.p1];exact ht.from HD.p0
     clear ht hnt
     have HE:=Yh6 (Yb HD.p0 hb) (HD.p1.keep hb) (HD.p2.keep hb) (HD.p3.keep hb) (HD.p4.keep hb) (HD.q5.keep hb)
     have HCOL:=Lib.hid hcol
     clear hb hcol HD Hh
     go_wp2_with fail
     refine rgK hK (Bl.ld HE.p2 1 rfl) fun Hh=>?_;clear hK K
     refine rgO 4 fun K hK=>?_
     go_simp
     have hal:=Ya wt (.cells #[.slice At nt ct] 54)
     have N1:=Bl.new wt 54 [.slice At nt ct]
     have HG:=Yh6 (Yb HE.p0 hal) (HE.p1.keep hal) (HE.p2.keep hal) (HE.p3.keep hal) (HE.p4.keep hal) (HE.q5.keep hal)
     have HCOL2:=Lib.hid (HCOL.out.keep hal)
     refine rgK hK (Bl.ld HG.p2 1 rfl) fun Hh=>?_;clear hK K
     obtain ⟨gn,hgn⟩:∃ g,g=wt.heap.size:=⟨_,rfl⟩
     rw [<- hgn] at N1 ⊢
     have HN1:=Lib.hid N1
     clear hal N1 HE HCOL hgn
     generalize wt.alloc _=W8 at HG HN1 HCOL2 Hh ⊢
     refine rgO 5 fun K hK=>?_
     rw [if_pos (by rfl)]
     obtain ⟨xs,hx1,hx2,hx3⟩:=HG.p3
     have hlx:xs.length=Kn:=by rw [hx2.1];exact HLN.p0
     refine app_el (f:=Sl.cs) (x:=⟨At,nt,ct⟩) Tryz.underlying22 terms_info ⟨Yd,rfl,Yd⟩ Sl.len Sl.one (.tmp 49) (.tmp 52) rfl rfl rfl hx1 HN1.out (by rw [hlx];omega) HG.p0 ?_
     intro v9 W9 k1 k2 k3 k4
     obtain ⟨A9,c9,e9,-⟩:=k1.shape
     rw [List.length_append,hlx,List.length_singleton] at e9
     subst e9
     have H9:=Yh6 k2 ((k3 _ Yd).bl HG.p1) ((k3 _ Yd).bl HG.p2) ((show Gw W0 W9 (.slice A9 (Kn+1) c9) (la++[fqT (mkV (colM p k p.rows.length))]) from ⟨_,k1,(hx2.imp fun x c hc=>hc.keepT (k3 _ Yd) (k3 _ Yd) k2).app (HCOL2.out.keepT (k3 _ Yd) (k3 _ Yd) k2),k2⟩)) (HG.p4.keepT (k3 _ Yd)) (HG.q5.keepT (k3 _ Yd) (k3 _ Yd) k2)
     clear k1 k2 k3 k4 hx1 hx2 hx3 hlx HG HCOL2 HN1
     refine rgK hK (Bl.ld H9.p2 1 rfl) fun Hh=>?_;clear hK K
     refine rgT 6 Hh ?_
     refine Yw ?_
     clear Hh
     refine late_go (T:=fun _=>True) (Yl 8 127).toArray 1 (by kernel_rfl) (by kernel_rfl) ?_
     skip
     refine rgO 7 fun K hK=>?_
     have f0:=Bl.fr H9.p2 1
     have r0:=Bl.ld H9.p2 1 rfl
     go_simp
     clear f0 r0
     refine rgK hK trivial fun Hh=>?_;clear hK K
     have hbn:Yg W0 (W9.setCell ⟨g3,1,none⟩ (.slice A9 (Kn+1) c9)):=H9.p0.setCell (p:=⟨g3,1,none⟩) hg3 _
     have HT0:=Yh6 hbn (H9.p1.other (p:=⟨g3,1,none⟩) hg35 (.slice A9 (Kn+1) c9)) (H9.p2.set 1 (.slice A9 (Kn+1) c9)) (H9.p3.keepT (H9.p2.keepT1 Yd 1 (.slice A9 (Kn+1) c9)) (H9.p2.keepT1 Yd 1 (.slice A9 (Kn+1) c9)) (H9.p2.keepT1 Yd 1 (.slice A9 (Kn+1) c9)) hbn) (H9.p4.keepT (H9.p2.keepT1 Yd 1 (.slice A9 (Kn+1) c9))) (H9.q5.keepT (H9.p2.keepT1 Yd 1 (.slice A9 (Kn+1) c9)) (H9.p2.keepT1 Yd 1 (.slice A9 (Kn+1) c9)) hbn)
     clear hbn
     generalize (W9.setCell ⟨g3,1,none⟩ (.slice A9 (Kn+1) c9))=T0 at HT0 ⊢
     refine Yw ?_
     have HM:=HT0
     clear HT0
     go_upto_region 12 with (fail)
     go_cut [60] (fun s wx=>∃ (Ab9:Option Addr) (cb9:Nat) (Ac9:Option Addr) (cc9:Nat),Hid (Yg W0 wx/\Bl wx 145 g5 x.cs/\Bl wx 26 g3 [.int .i64 (n:Int),.slice A9 (Kn+1) c9,.slice Ab9 (Kn+1) cb9,.slice Ac9 (Kn+1) cc9,.slice Ad Kn cd,.slice Ae Kn ce,.slice Af Kn cf]/\Gw W0 wx (.slice A9 (Kn+1) c9) (la++[fqT (mkV (colM p k p.rows.length))])/\Sb W0 wx (.slice Ab9 (Kn+1) cb9) (.slice Ac9 (Kn+1) cc9) (lb++[x.p]) (lc++[x.q])/\Sd w W0 wx (.slice Ad Kn cd) (.slice Ae Kn ce) (.slice Af Kn cf) ld le lf))
     case first=>
      obtain ⟨J,hJ⟩:∃ J:List Value->World->Prop,∀ L W,J L W↔(Yg W0 W/\Bl W 145 g5 x.cs/\Bl W 26 g3 L/\Gw W0 W (.slice A9 (Kn+1) c9) (la++[fqT (mkV (colM p k p.rows.length))])/\Sd w W0 W (.slice Ad Kn cd) (.slice Ae Kn ce) (.slice Af Kn cf) ld le lf):=⟨_,fun _ _=>Iff.rfl⟩
      have HJ:=Lib.hid hJ
      clear hJ
      have HJK:Hid (∀ L W W2,J L W->Yg W W2->J L W2):=fun L W W2 h hb=>by rw [HJ.out] at h ⊢;exact ⟨Yb h.1 hb,h.2.1.keep hb,h.2.2.1.keep hb,h.2.2.2.1.keep hb,h.2.2.2.2.keep hb⟩
      have HJA:Hid (∀ L W W2,J L W->Yg W0 W2->(∀ T,4≠T->KeepT T W W2)->J L W2):=fun L W W2 h k2 k3=>by rw [HJ.out] at h ⊢;exact ⟨k2,(k3 _ Yd).bl h.2.1,(k3 _ Yd).bl h.2.2.1,h.2.2.2.1.keepT (k3 _ Yd) (k3 _ Yd) (k3 _ Yd) k2,h.2.2.2.2.keepT (k3 _ Yd) (k3 _ Yd) k2⟩
      have HJX:Hid (∀ L W j v,J L W->J (L.set j v) (W.setCell ⟨g3,j,none⟩ v)/\(∀ T,26≠T->KeepT T W (W.setCell ⟨g3,j,none⟩ v))/\Yg W0 (W.setCell ⟨g3,j,none⟩ v)):=fun L W j v h=>by rw [HJ.out] at h ⊢;have k3:=fun T h2=>h.2.2.1.keepT1 (e:=T) h2 j v;have hbn:=h.1.setCell (p:=⟨g3,j,none⟩) hg3 v;exact ⟨⟨hbn,h.2.1.other (p:=⟨g3,j,none⟩) hg35 v,h.2.2.1.set j v,h.2.2.2.1.keepT (k3 _ Yd) (k3 _ Yd) (k3 _ Yd) hbn,h.2.2.2.2.keepT (k3 _ Yd) (k3 _ Yd) hbn⟩,k3,hbn⟩
      have R0:=(HJ.out [.int .i64 (n:Int),.slice A9 (Kn+1) c9,.slice Ab Kn cb,.slice Ac Kn cc,.slice Ad Kn cd,.slice Ae Kn ce,.slice Af Kn cf] T0).2 ⟨HM.p0,HM.p1,HM.p2,HM.p3,HM.q5⟩
      have h0:=(HJ.out _ _).1 R0
      have RS:=HM.p4
      refine flow (fun W=>(Yg W0 W/\T0.heap.size<=W.heap.size)/\W.cell? ⟨g5,2,none⟩=some (.bool x.p)/\W.cell? ⟨g5,3,none⟩=some (.bool x.q)/\W.cell? ⟨g3,2,none⟩=some (.slice Ab Kn cb)/\W.cell? ⟨g3,3,none⟩=some (.slice Ac Kn cc)) (fun vs W=>let L0:List Value:=[.int .i64 (n:Int),.slice A9 (Kn+1) c9,.slice Ab Kn cb,.slice Ac Kn cc,.slice Ad Kn cd,.slice Ae Kn ce,.slice Af Kn cf];match vs with|[]=>J L0 W/\Sb W0 W (.slice Ab Kn cb) (.slice Ac Kn cc) lb lc|[u]=>∃ A0 c0,u=.slice A0 (Kn+1) c0/\J L0 W/\Sb W0 W (.slice A0 (Kn+1) c0) (.slice Ac Kn cc) (lb++[x.p]) lc|u::t::zz=>∃ A0 c0,∃ A1 c1,u=.slice A0 (Kn+1) c0/\t=.slice A1 (Kn+1) c1/\J (match zz with|[]=>L0|[_]=>(L0.set 2 u)|_=>((L0.set 2 u).set 3 t)) W/\Sb W0 W (.slice A0 (Kn+1) c0) (.slice A1 (Kn+1) c1) (lb++[x.p]) (lc++[x.q])) (fun W W2=>(∀ g us,T0.heap.size<=g->Bl W 4 g us->Bl W2 4 g us)/\∀ T,4≠T->KeepT T W W2) 1 [⟨[],[(0,55),(1,56),(2,57),(3,58),(6,61),(7,62),(8,63),(9,64)],[],[(4,59,fun v W=>∃ g,v=.slice (some ⟨g,0,none⟩) 1 1/\T0.heap.size<=g/\Bl W 4 g [.bool x.p]),(10,65,fun v W=>∃ g,v=.slice (some ⟨g,0,none⟩) 1 1/\T0.heap.size<=g/\Bl W 4 g [.bool x.q])]⟩] [⟨[],[],[(12,67),(14,68)],[]⟩] [⟨5,some 60,[(4,59)],[(0,55),(1,56)],[]⟩,⟨11,some 66,[(10,65)],[(6,61),(7,62)],[]⟩,⟨13,none,[],[],[(12,67)]⟩,⟨15,none,[],[],[(14,68)]⟩] ⟨[(4,59),(10,65)],[(0,55),(1,56),(2,57),(3,58),(6,61),(7,62),(8,63),(9,64)],[(12,67),(14,68)],[]⟩ ⟨⟨h0.1,Nat.le_refl _⟩,Bl.ld h0.2.1 2 rfl,Bl.ld h0.2.1 3 rfl,Bl.ld h0.2.2.1 2 rfl,Bl.ld h0.2.2.1 3 rfl⟩ (⟨R0,RS⟩) (fun _ _ h b=>⟨⟨Yb h.1.1 b,Nat.le_trans h.1.2 b.size⟩,cell_keep h.2.1 b,cell_keep h.2.2.1 b,cell_keep h.2.2.2.1 b,cell_keep h.2.2.2.2 b⟩) (fun vs _ _ h b=>match vs,h with|[],⟨h,k⟩=>⟨HJK.out _ _ _ h b,k.keep b⟩|[_],⟨A0,c0,e0,h,k⟩=>⟨A0,c0,e0,HJK.out _ _ _ h b,k.keep b⟩|_::_::_,⟨A0,c0,A1,c1,e0,e1,h,k⟩=>⟨A0,c0,A1,c1,e0,e1,HJK.out _ _ _ h b,k.keep b⟩) ⟨fun _ _ _ ⟨g,h,q,X⟩ b=>⟨g,h,q,X.keep b⟩,fun _ _ _ ⟨g,h,q,X⟩ r=>⟨g,h,q,r.1 _ _ q X⟩,⟨fun _ _ _ ⟨g,h,q,X⟩ b=>⟨g,h,q,X.keep b⟩,fun _ _ _ ⟨g,h,q,X⟩ r=>⟨g,h,q,r.1 _ _ q X⟩,trivial⟩⟩ ⟨?_,trivial⟩ ⟨?_,trivial⟩ ⟨?_,?_,?_,?_,trivial⟩ ?_
      · rintro W hS
        refine gvN ?_;(repeat refine flA ?_);refine flN (flN ?_)
        refine flK (fun K hK=>?_) (flK (fun K hK=>?_) flL)
        · have hal:=Ya W (.cells #[.bool x.p] 4)
          go_simp
          exact hK.out _ _ ⟨⟨_,rfl,hS.1.2,Bl.new W 4 [.bool x.p]⟩,hal⟩
        · have hal:=Ya W (.cells #[.bool x.q] 4)
          go_simp
          exact hK.out _ _ ⟨⟨_,rfl,hS.1.2,Bl.new W 4 [.bool x.q]⟩,hal⟩
      · refine gvN ?_;(repeat refine flA ?_);exact trivial
      · rintro W hS ⟨rJ,rSb⟩ v4 ⟨g4,rfl,p4,X4⟩
        have hS:=hS flY
        refine gvN ?_;(repeat refine flA ?_);refine flN (flN ?_)
        refine flC fun K hK=>?_
        rw [if_pos (by rfl)]
        refine app_b (b:=x.p) (.tmp 56) (.tmp 59) rfl rfl rfl rSb.1 X4 (by have:=HLN.out;omega) ((HJ.out _ _).1 rJ).1 ?_
        intro v W3 k1 k2 k3 k4 k5
        obtain ⟨A,c,e⟩:=k1.shape
        rw [List.length_append,HLN.p1,List.length_singleton] at e
        subst e
        have j:=HJA.out _ _ _ rJ k2 k3
        have h:=(HJ.out _ _).1 j
        exact hK.out _ _ ⟨⟨_,_,rfl,j,rSb.app1 k1 k4 k5⟩,fun _=>⟨⟨⟨h.1,Nat.le_trans hS.1.2 (Rb.up k1 k4 k5)⟩,Bl.ld h.2.1 2 rfl,Bl.ld h.2.1 3 rfl,Bl.ld h.2.2.1 2 rfl,Bl.ld h.2.2.1 3 rfl⟩,fun g us q X=>lit_stay (n:=1) (k:=1) X (Rb.fresh HM.p4.1 q) k4,k3⟩⟩
      · rintro W hS c5 ⟨A0,c0,rfl,rJ,rSb⟩ v10 ⟨g10,rfl,p10,X10⟩
        have hS:=hS flY
        refine gvN ?_;(repeat refine flA ?_);refine flN (flN ?_)
        refine flC fun K hK=>?_
        rw [if_pos (by rfl)]
        refine app_b (b:=x.q) (.tmp 62) (.tmp 65) rfl rfl rfl rSb.2.1 X10 (by have:=HLN.out;omega) ((HJ.out _ _).1 rJ).1 ?_
        intro v W3 k1 k2 k3 k4 k5
        obtain ⟨A,c,e⟩:=k1.shape
        rw [List.length_append,HLN.p2,List.length_singleton] at e
        subst e
        have j:=HJA.out _ _ _ rJ k2 k3
        exact hK.out _ _ ⟨⟨_,_,_,_,rfl,rfl,j,rSb.app2 k1 k4 k5⟩,fun h=>flX h⟩
      · rintro W hS c5 c11 ⟨A0,c0,A1,c1,rfl,rfl,rJ,rSb⟩
        clear hS
        refine gvN ?_;(repeat refine flA ?_);refine flN ?_
        refine flC fun K hK=>?_
        have X:=((HJ.out _ _).1 rJ).2.2.1
        have f0:=Bl.fr X 2
        have r0:=Bl.ld X 2 rfl
        go_simp
        clear f0 r0 X
        obtain ⟨j,k3,hbn⟩:=HJX.out _ _ 2 (.slice A0 (Kn+1) c0) rJ
        exact hK.out undef _ ⟨⟨_,_,_,_,rfl,rfl,j,rSb.keepT (k3 _ Yd)⟩,fun h=>flX h⟩
      · rintro W hS c5 c11 c13 ⟨A0,c0,A1,c1,rfl,rfl,rJ,rSb⟩
        clear hS
        refine gvN ?_;(repeat refine flA ?_);refine flN ?_
        refine flC fun K hK=>?_
        have X:=((HJ.out _ _).1 rJ).2.2.1
        have f0:=Bl.fr X 3
        have r0:=Bl.ld X 3 rfl
        go_simp
        clear f0 r0 X
        obtain ⟨j,k3,hbn⟩:=HJX.out _ _ 3 (.slice A1 (Kn+1) c1) rJ
        exact hK.out undef _ ⟨⟨_,_,_,_,rfl,rfl,j,rSb.keepT (k3 _ Yd)⟩,fun h=>flX h⟩
      rintro W hS c5 c11 c13 c15 ⟨A0,c0,A1,c1,rfl,rfl,rJ,rSb⟩ v4 - v10 -
      clear hS
      refine gvN ?_;(repeat refine flA ?_);refine flN ?_
      have h:=(HJ.out _ _).1 rJ
      go_wp2_with fail
      go_meet
      exact ⟨A0,c0,A1,c1,h.1,h.2.1,h.2.2.1,h.2.2.2.1,rSb,h.2.2.2.2⟩
     case rest=>
      clear HM
      obtain ⟨Ab9,cb9,Ac9,cc9,HQ9⟩:=hcut
      have HM:=HQ9
      clear HQ9
      generalize wc=V8 at HM ⊢
      go_upto_region 13 with (fail)
      obtain ⟨J,hJ⟩:∃ J:List Value->World->Prop,∀ L W,J L W↔(Yg W0 W/\Bl W 145 g5 x.cs/\Bl W 26 g3 L/\Gw W0 W (.slice A9 (Kn+1) c9) (la++[fqT (mkV (colM p k p.rows.length))])/\Sb W0 W (.slice Ab9 (Kn+1) cb9) (.slice Ac9 (Kn+1) cc9) (lb++[x.p]) (lc++[x.q])):=⟨_,fun _ _=>Iff.rfl⟩
      have HJ:=Lib.hid hJ
      clear hJ
      have HJK:Hid (∀ L W W2,J L W->Yg W W2->J L W2):=fun L W W2 h hb=>by rw [HJ.out] at h ⊢;exact ⟨Yb h.1 hb,h.2.1.keep hb,h.2.2.1.keep hb,h.2.2.2.1.keep hb,h.2.2.2.2.keep hb⟩
      have HJA:Hid (∀ L W W2,J L W->Yg W0 W2->(∀ T,36≠T->KeepT T W W2)->J L W2):=fun L W W2 h k2 k3=>by rw [HJ.out] at h ⊢;exact ⟨k2,(k3 _ Yd).bl h.2.1,(k3 _ Yd).bl h.2.2.1,h.2.2.2.1.keepT (k3 _ Yd) (k3 _ Yd) (k3 _ Yd) k2,h.2.2.2.2.keepT (k3 _ Yd)⟩
      have HJX:Hid (∀ L W j v,J L W->J (L.set j v) (W.setCell ⟨g3,j,none⟩ v)/\(∀ T,26≠T->KeepT T W (W.setCell ⟨g3,j,none⟩ v))/\Yg W0 (W.setCell ⟨g3,j,none⟩ v)):=fun L W j v h=>by rw [HJ.out] at h ⊢;have k3:=fun T h2=>h.2.2.1.keepT1 (e:=T) h2 j v;have hbn:=h.1.setCell (p:=⟨g3,j,none⟩) hg3 v;exact ⟨⟨hbn,h.2.1.other (p:=⟨g3,j,none⟩) hg35 v,h.2.2.1.set j v,h.2.2.2.1.keepT (k3 _ Yd) (k3 _ Yd) (k3 _ Yd) hbn,h.2.2.2.2.keepT (k3 _ Yd)⟩,k3,hbn⟩
      have R0:=(HJ.out [.int .i64 (n:Int),.slice A9 (Kn+1) c9,.slice Ab9 (Kn+1) cb9,.slice Ac9 (Kn+1) cc9,.slice Ad Kn cd,.slice Ae Kn ce,.slice Af Kn cf] V8).2 ⟨HM.p0,HM.p1,HM.p2,HM.p3,HM.p4⟩
      have h0:=(HJ.out _ _).1 R0
      have RS:=HM.q5
      refine flow (fun W=>(Yg W0 W/\V8.heap.size<=W.heap.size)/\W.cell? ⟨g5,4,none⟩=some (.bool x.lo.b)/\W.cell? ⟨g5,5,none⟩=some (.slice x.lo.A x.lo.l x.lo.k)/\W.cell? ⟨g5,6,none⟩=some (.slice x.lo.B x.lo.m x.lo.d)/\W.cell? ⟨g5,7,none⟩=some (.bool x.hi.b)/\W.cell? ⟨g5,8,none⟩=some (.slice x.hi.A x.hi.l x.hi.k)/\W.cell? ⟨g5,9,none⟩=some (.slice x.hi.B x.hi.m x.hi.d)/\W.cell? ⟨g5,10,none⟩=some (.bool x.co.b)/\W.cell? ⟨g5,11,none⟩=some (.slice x.co.A x.co.l x.co.k)/\W.cell? ⟨g5,12,none⟩=some (.slice x.co.B x.co.m x.co.d)/\W.cell? ⟨g3,4,none⟩=some (.slice Ad Kn cd)/\W.cell? ⟨g3,5,none⟩=some (.slice Ae Kn ce)/\W.cell? ⟨g3,6,none⟩=some (.slice Af Kn cf)) (fun vs W=>let L0:List Value:=[.int .i64 (n:Int),.slice A9 (Kn+1) c9,.slice Ab9 (Kn+1) cb9,.slice Ac9 (Kn+1) cc9,.slice Ad Kn cd,.slice Ae Kn ce,.slice Af Kn cf];match vs with|[]=>J L0 W/\Sd w W0 W (.slice Ad Kn cd) (.slice Ae Kn ce) (.slice Af Kn cf) ld le lf|[u]=>∃ A0 c0,u=.slice A0 (Kn+1) c0/\J L0 W/\Sd w W0 W (.slice A0 (Kn+1) c0) (.slice Ae Kn ce) (.slice Af Kn cf) (ld++[r.lo]) le lf|[u,t]=>∃ A0 c0,∃ A1 c1,u=.slice A0 (Kn+1) c0/\t=.slice A1 (Kn+1) c1/\J L0 W/\Sd w W0 W (.slice A0 (Kn+1) c0) (.slice A1 (Kn+1) c1) (.slice Af Kn cf) (ld++[r.lo]) (le++[r.hi]) lf|u::t::s::zz=>∃ A0 c0,∃ A1 c1,∃ A2 c2,u=.slice A0 (Kn+1) c0/\t=.slice A1 (Kn+1) c1/\s=.slice A2 (Kn+1) c2/\J (match zz with|[]=>L0|[_]=>(L0.set 4 u)|[_,_]=>((L0.set 4 u).set 5 t)|_=>(((L0.set 4 u).set 5 t).set 6 s)) W/\Sd w W0 W (.slice A0 (Kn+1) c0) (.slice A1 (Kn+1) c1) (.slice A2 (Kn+1) c2) (ld++[r.lo]) (le++[r.hi]) (lf++[r.co])) (fun W W2=>(∀ g us,V8.heap.size<=g->Bl W 36 g us->Bl W2 36 g us)/\(∀ T,36≠T->KeepT T W W2)/\Yg W0 W2) 2 [⟨[],[(0,69),(1,70),(2,71),(3,72),(6,75),(7,76),(8,77),(9,78),(12,81),(13,82),(14,83),(15,84)],[],[(4,73,fun v W=>∃ g,v=.slice (some ⟨g,0,none⟩) 1 1/\V8.heap.size<=g/\Bl W 36 g [.bool x.lo.b,.slice x.lo.A x.lo.l x.lo.k,.slice x.lo.B x.lo.m x.lo.d]),(10,79,fun v W=>∃ g,v=.slice (some ⟨g,0,none⟩) 1 1/\V8.heap.size<=g/\Bl W 36 g [.bool x.hi.b,.slice x.hi.A x.hi.l x.hi.k,.slice x.hi.B x.hi.m x.hi.d]),(16,85,fun v W=>∃ g,v=.slice (some ⟨g,0,none⟩) 1 1/\V8.heap.size<=g/\Bl W 36 g [.bool x.co.b,.slice x.co.A x.co.l x.co.k,.slice x.co.B x.co.m x.co.d])]⟩] [⟨[],[],[(18,87),(20,88),(22,89)],[]⟩] [⟨5,some 74,[(4,73)],[(0,69),(1,70)],[]⟩,⟨11,some 80,[(10,79)],[(6,75),(7,76)],[]⟩,⟨17,some 86,[(16,85)],[(12,81),(13,82)],[]⟩,⟨19,none,[],[],[(18,87)]⟩,⟨21,none,[],[],[(20,88)]⟩,⟨23,none,[],[],[(22,89)]⟩] ⟨[(4,73),(10,79),(16,85)],[(0,69),(1,70),(2,71),(3,72),(6,75),(7,76),(8,77),(9,78),(12,81),(13,82),(14,83),(15,84)],[(18,87),(20,88),(22,89)],[]⟩ ⟨⟨h0.1,Nat.le_refl _⟩,Bl.ld h0.2.1 4 rfl,Bl.ld h0.2.1 5 rfl,Bl.ld h0.2.1 6 rfl,Bl.ld h0.2.1 7 rfl,Bl.ld h0.2.1 8 rfl,Bl.ld h0.2.1 9 rfl,Bl.ld h0.2.1 10 rfl,Bl.ld h0.2.1 11 rfl,Bl.ld h0.2.1 12 rfl,Bl.ld h0.2.2.1 4 rfl,Bl.ld h0.2.2.1 5 rfl,Bl.ld h0.2.2.1 6 rfl⟩ (⟨R0,RS⟩) (fun _ _ h b=>⟨⟨Yb h.1.1 b,Nat.le_trans h.1.2 b.size⟩,cell_keep h.2.1 b,cell_keep h.2.2.1 b,cell_keep h.2.2.2.1 b,cell_keep h.2.2.2.2.1 b,cell_keep h.2.2.2.2.2.1 b,cell_keep h.2.2.2.2.2.2.1 b,cell_keep h.2.2.2.2.2.2.2.1 b,cell_keep h.2.2.2.2.2.2.2.2.1 b,cell_keep h.2.2.2.2.2.2.2.2.2.1 b,cell_keep h.2.2.2.2.2.2.2.2.2.2.1 b,cell_keep h.2.2.2.2.2.2.2.2.2.2.2.1 b,cell_keep h.2.2.2.2.2.2.2.2.2.2.2.2 b⟩) (fun vs _ _ h b=>match vs,h with|[],⟨h,k⟩=>⟨HJK.out _ _ _ h b,k.keep b⟩|[_],⟨A0,c0,e0,h,k⟩=>⟨A0,c0,e0,HJK.out _ _ _ h b,k.keep b⟩|[_,_],⟨A0,c0,A1,c1,e0,e1,h,k⟩=>⟨A0,c0,A1,c1,e0,e1,HJK.out _ _ _ h b,k.keep b⟩|_::_::_::_,⟨A0,c0,A1,c1,A2,c2,e0,e1,e2,h,k⟩=>⟨A0,c0,A1,c1,A2,c2,e0,e1,e2,HJK.out _ _ _ h b,k.keep b⟩) ⟨fun _ _ _ ⟨g,h,q,X⟩ b=>⟨g,h,q,X.keep b⟩,fun _ _ _ ⟨g,h,q,X⟩ r=>⟨g,h,q,r.1 _ _ q X⟩,⟨fun _ _ _ ⟨g,h,q,X⟩ b=>⟨g,h,q,X.keep b⟩,fun _ _ _ ⟨g,h,q,X⟩ r=>⟨g,h,q,r.1 _ _ q X⟩,⟨fun _ _ _ ⟨g,h,q,X⟩ b=>⟨g,h,q,X.keep b⟩,fun _ _ _ ⟨g,h,q,X⟩ r=>⟨g,h,q,r.1 _ _ q X⟩,trivial⟩⟩⟩ ⟨?_,trivial⟩ ⟨?_,trivial⟩ ⟨?_,?_,?_,?_,?_,?_,trivial⟩ ?_
      · rintro W hS
        refine gvN ?_;(repeat refine flA ?_);refine flN (flN ?_)
        refine flK (fun K hK=>?_) (flK (fun K hK=>?_) (flK (fun K hK=>?_) flL))
        · have hal:=Ya W (.cells #[.bool x.lo.b,.slice x.lo.A x.lo.l x.lo.k,.slice x.lo.B x.lo.m x.lo.d] 36)
          go_simp
          exact hK.out _ _ ⟨⟨_,rfl,hS.1.2,Bl.new W 36 [.bool x.lo.b,.slice x.lo.A x.lo.l x.lo.k,.slice x.lo.B x.lo.m x.lo.d]⟩,hal⟩
        · have hal:=Ya W (.cells #[.bool x.hi.b,.slice x.hi.A x.hi.l x.hi.k,.slice x.hi.B x.hi.m x.hi.d] 36)
          go_simp
          exact hK.out _ _ ⟨⟨_,rfl,hS.1.2,Bl.new W 36 [.bool x.hi.b,.slice x.hi.A x.hi.l x.hi.k,.slice x.hi.B x.hi.m x.hi.d]⟩,hal⟩
        · have hal:=Ya W (.cells #[.bool x.co.b,.slice x.co.A x.co.l x.co.k,.slice x.co.B x.co.m x.co.d] 36)
          go_simp
          exact hK.out _ _ ⟨⟨_,rfl,hS.1.2,Bl.new W 36 [.bool x.co.b,.slice x.co.A x.co.l x.co.k,.slice x.co.B x.co.m x.co.d]⟩,hal⟩
      · refine gvN ?_;(repeat refine flA ?_);exact trivial
      · rintro W hS ⟨rJ,rD⟩ v4 ⟨g4,rfl,p4,X4⟩
        have hS:=hS flY
        refine gvN ?_;(repeat refine flA ?_);refine flN (flN ?_)
        refine flC fun K hK=>?_
        rw [if_pos (by rfl)]
        refine app_rc (f:=r.lo) (x:=x.lo) (.tmp 70) (.tmp 73) rfl rfl rfl rD.1 (.inl HX.p0.2.2.1) X4 (by have:=HLN.out;omega) ((HJ.out _ _).1 rJ).1 ?_
        intro v W3 k1 k2 k3 k4 k5
        obtain ⟨A,c,e⟩:=k1.shape
        rw [List.length_append,HLN.p3,List.length_singleton] at e
        subst e
        have j:=HJA.out _ _ _ rJ k2 k3
        have h:=(HJ.out _ _).1 j
        exact hK.out _ _ ⟨⟨_,_,rfl,j,rD.app1 k1 k2 (k3 _ Yd) k4 k5⟩,fun _=>⟨⟨⟨h.1,Nat.le_trans hS.1.2 (Rc.up k1 k4 k5)⟩,Bl.ld h.2.1 4 rfl,Bl.ld h.2.1 5 rfl,Bl.ld h.2.1 6 rfl,Bl.ld h.2.1 7 rfl,Bl.ld h.2.1 8 rfl,Bl.ld h.2.1 9 rfl,Bl.ld h.2.1 10 rfl,Bl.ld h.2.1 11 rfl,Bl.ld h.2.1 12 rfl,Bl.ld h.2.2.1 4 rfl,Bl.ld h.2.2.1 5 rfl,Bl.ld h.2.2.1 6 rfl⟩,fun g us q X=>lit_stay (n:=1) (k:=1) X (Rc.fresh HM.p5 q) k4,k3,k2⟩⟩
      · rintro W hS c5 ⟨A0,c0,rfl,rJ,rD⟩ v10 ⟨g10,rfl,p10,X10⟩
        have hS:=hS flY
        refine gvN ?_;(repeat refine flA ?_);refine flN (flN ?_)
        refine flC fun K hK=>?_
        rw [if_pos (by rfl)]
        refine app_rc (f:=r.hi) (x:=x.hi) (.tmp 76) (.tmp 79) rfl rfl rfl rD.2.1 (.inl HX.p0.2.2.2.1) X10 (by have:=HLN.out;omega) ((HJ.out _ _).1 rJ).1 ?_
        intro v W3 k1 k2 k3 k4 k5
        obtain ⟨A,c,e⟩:=k1.shape
        rw [List.length_append,HLN.p4,List.length_singleton] at e
        subst e
        have j:=HJA.out _ _ _ rJ k2 k3
        have h:=(HJ.out _ _).1 j
        exact hK.out _ _ ⟨⟨_,_,_,_,rfl,rfl,j,rD.app2 k1 k2 (k3 _ Yd) k4 k5⟩,fun _=>⟨⟨⟨h.1,Nat.le_trans hS.1.2 (Rc.up k1 k4 k5)⟩,Bl.ld h.2.1 4 rfl,Bl.ld h.2.1 5 rfl,Bl.ld h.2.1 6 rfl,Bl.ld h.2.1 7 rfl,Bl.ld h.2.1 8 rfl,Bl.ld h.2.1 9 rfl,Bl.ld h.2.1 10 rfl,Bl.ld h.2.1 11 rfl,Bl.ld h.2.1 12 rfl,Bl.ld h.2.2.1 4 rfl,Bl.ld h.2.2.1 5 rfl,Bl.ld h.2.2.1 6 rfl⟩,fun g us q X=>lit_stay (n:=1) (k:=1) X (Rc.fresh HM.p6 q) k4,k3,k2⟩⟩
      · rintro W hS c5 c11 ⟨A0,c0,A1,c1,rfl,rfl,rJ,rD⟩ v16 ⟨g16,rfl,p16,X16⟩
        have hS:=hS flY
        refine gvN ?_;(repeat refine flA ?_);refine flN (flN ?_)
        refine flC fun K hK=>?_
        rw [if_pos (by rfl)]
        refine app_rc (f:=r.co) (x:=x.co) (.tmp 82) (.tmp 85) rfl rfl rfl rD.2.2.1 (.inl HX.p0.2.2.2.2) X16 (by have:=HLN.out;omega) ((HJ.out _ _).1 rJ).1 ?_
        intro v W3 k1 k2 k3 k4 k5
        obtain ⟨A,c,e⟩:=k1.shape
        rw [List.length_append,HLN.q5,List.length_singleton] at e
        subst e
        have j:=HJA.out _ _ _ rJ k2 k3
        exact hK.out _ _ ⟨⟨_,_,_,_,_,_,rfl,rfl,rfl,j,rD.app3 k1 k2 (k3 _ Yd) k4 k5⟩,fun h=>flX h⟩
      · rintro W hS c5 c11 c17 ⟨A0,c0,A1,c1,A2,c2,rfl,rfl,rfl,rJ,rD⟩
        clear hS
        refine gvN ?_;(repeat refine flA ?_);refine flN ?_
        refine flC fun K hK=>?_
        have X:=((HJ.out _ _).1 rJ).2.2.1
        have f0:=Bl.fr X 4
        have r0:=Bl.ld X 4 rfl
        go_simp
        clear f0 r0 X
        obtain ⟨j,k3,hbn⟩:=HJX.out _ _ 4 (.slice A0 (Kn+1) c0) rJ
        exact hK.out undef _ ⟨⟨_,_,_,_,_,_,rfl,rfl,rfl,j,rD.keepT (k3 _ Yd) (k3 _ Yd) hbn⟩,fun h=>flX h⟩
      · rintro W hS c5 c11 c17 c19 ⟨A0,c0,A1,c1,A2,c2,rfl,rfl,rfl,rJ,rD⟩
        clear hS
        refine gvN ?_;(repeat refine flA ?_);refine flN ?_
        refine flC fun K hK=>?_
        have X:=((HJ.out _ _).1 rJ).2.2.1
        have f0:=Bl.fr X 5
        have r0:=Bl.ld X 5 rfl
        go_simp
        clear f0 r0 X
        obtain ⟨j,k3,hbn⟩:=HJX.out _ _ 5 (.slice A1 (Kn+1) c1) rJ
        exact hK.out undef _ ⟨⟨_,_,_,_,_,_,rfl,rfl,rfl,j,rD.keepT (k3 _ Yd) (k3 _ Yd) hbn⟩,fun h=>flX h⟩
      · rintro W hS c5 c11 c17 c19 c21 ⟨A0,c0,A1,c1,A2,c2,rfl,rfl,rfl,rJ,rD⟩
        clear hS
        refine gvN ?_;(repeat refine flA ?_);refine flN ?_
        refine flC fun K hK=>?_
        have X:=((HJ.out _ _).1 rJ).2.2.1
        have f0:=Bl.fr X 6
        have r0:=Bl.ld X 6 rfl
        go_simp
        clear f0 r0 X
        obtain ⟨j,k3,hbn⟩:=HJX.out _ _ 6 (.slice A2 (Kn+1) c2) rJ
        exact hK.out undef _ ⟨⟨_,_,_,_,_,_,rfl,rfl,rfl,j,rD.keepT (k3 _ Yd) (k3 _ Yd) hbn⟩,fun h=>flX h⟩
      rintro W hS c5 c11 c17 c19 c21 c23 ⟨A0,c0,A1,c1,A2,c2,rfl,rfl,rfl,rJ,rD⟩ v4 - v10 - v16 -
      clear hS
      refine gvN ?_;(repeat refine flA ?_);refine flN ?_
      have h:=(HJ.out _ _).1 rJ
      go_wp2_with fail
      case roundEnd=>exact ⟨⟨k+1,Kn+1,_,_,_,_,_,_,A9,Ab9,Ac9,A0,A1,A2,c9,cb9,cc9,c0,c1,c2,by go_num,Yo,(by have:=HKn.out;omega),(by have h:=L1.next HL1.out HX.q1;rw [<- HX.p0.1,<- HX.p0.2.1] at h;exact h),h.1,h.2.2.1,h.2.2.2.1,h.2.2.2.2,rD⟩,by simp [intOf];omega⟩
  obtain rfl:n=k:=by omega
  have dk:¬ (n:Int)<(n:Int):=Yo
  obtain ⟨l0,l1,l2,l3⟩:=HC.out _ H.p0
  have HL0:=Lib.hid (L1.turn (p:=p) (by rw [HF.q2];exact HL1.out))
  clear HL1
  go_upto_region 15 with (fail)
  clear l0 l1 l2 l3
  go_loopw [8] (fun z wr=>∃ (j Kn:Nat) (la:List (List (Int × Fx))) (lb lc:List Bool) (ld le lf:List Fx) (Aa Ab Ac Ad Ae Af:Option Addr) (ca cb cc cd ce cf:Nat),z=.int .i64 (j:Int)/\j<=m/\Kn=n+j/\Hid (L3 p j la lb lc ld le lf)/\Hid (Yg W0 wr/\Bl wr 26 g3 [.int .i64 (n:Int),.slice Aa Kn ca,.slice Ab Kn cb,.slice Ac Kn cc,.slice Ad Kn cd,.slice Ae Kn ce,.slice Af Kn cf]/\Gw W0 wr (.slice Aa Kn ca) la/\Sb W0 wr (.slice Ab Kn cb) (.slice Ac Kn cc) lb lc/\Sd w W0 wr (.slice Ad Kn cd) (.slice Ae Kn ce) (.slice Af Kn cf) ld le lf)) (fun z _=>m - (intOf z).toNat)
  case atStart=>exact ⟨0,Kn,la,lb,lc,ld,le,lf,Aa,Ab,Ac,Ad,Ae,Af,ca,cb,cc,cd,ce,cf,rfl,Nat.zero_le _,by have:=HKn.out;omega,HL0.out,H.out⟩
  case round=>
   clear H HL0 HKn dk
   obtain ⟨k,Kn,la,lb,lc,ld,le,lf,Aa,Ab,Ac,Ad,Ae,Af,ca,cb,cc,cd,ce,cf,rfl,hk,hKn,HL3,H⟩:=hrel
   have HKn:=Lib.hid hKn
   clear hKn
   by_cases hlt:k<m
   · skip
     have hbr:=H.p0
     obtain ⟨r,hr⟩:∃ r,p.rows[k]?=some r:=⟨_,List.getElem?_eq_getElem (by rw [HF.p1];exact hlt)⟩
     obtain ⟨g,o,cap,x,e,hg,hx,hcl⟩:=HA.p0.at_ hr
     rw [HF.p1] at e
     injection e with e1 e2 e3
     subst e1
     clear e2 e3
     have z0:wr.cell? ⟨g,o+k*10,none⟩=some (.string x.nm):=((Yb HBW.out hbr).cell (p:=⟨g,_,none⟩) hg).trans (hcl 0 _ rfl)
     have z1:wr.cell? ⟨g,o+k*10+1,none⟩=some (.bool x.p):=((Yb HBW.out hbr).cell (p:=⟨g,_,none⟩) hg).trans (hcl 1 _ rfl)
     have z2:wr.cell? ⟨g,o+k*10+2,none⟩=some (.bool x.q):=((Yb HBW.out hbr).cell (p:=⟨g,_,none⟩) hg).trans (hcl 2 _ rfl)
     have z3:wr.cell? ⟨g,o+k*10+3,none⟩=some (.bool x.lo.b):=((Yb HBW.out hbr).cell (p:=⟨g,_,none⟩) hg).trans (hcl 3 _ rfl)
     have z4:wr.cell? ⟨g,o+k*10+4,none⟩=some (.slice x.lo.A x.lo.l x.lo.k):=((Yb HBW.out hbr).cell (p:=⟨g,_,none⟩) hg).trans (hcl 4 _ rfl)
     have z5:wr.cell? ⟨g,o+k*10+5,none⟩=some (.slice x.lo.B x.lo.m x.lo.d):=((Yb HBW.out hbr).cell (p:=⟨g,_,none⟩) hg).trans (hcl 5 _ rfl)
     have z6:wr.cell? ⟨g,o+k*10+6,none⟩=some (.bool x.hi.b):=((Yb HBW.out hbr).cell (p:=⟨g,_,none⟩) hg).trans (hcl 6 _ rfl)
     have z7:wr.cell? ⟨g,o+k*10+7,none⟩=some (.slice x.hi.A x.hi.l x.hi.k):=((Yb HBW.out hbr).cell (p:=⟨g,_,none⟩) hg).trans (hcl 7 _ rfl)
     have z8:wr.cell? ⟨g,o+k*10+8,none⟩=some (.slice x.hi.B x.hi.m x.hi.d):=((Yb HBW.out hbr).cell (p:=⟨g,_,none⟩) hg).trans (hcl 8 _ rfl)
     have z9:wr.cell? ⟨g,o+k*10+9,none⟩=some (.slice x.ts.A x.ts.l x.ts.k):=((Yb HBW.out hbr).cell (p:=⟨g,_,none⟩) hg).trans (hcl 9 _ rfl)
     have HX:=Yh2 hx hr
     clear hx hr hcl hg
     obtain ⟨l0,l1,l2,l3⟩:=HC.out _ hbr
     clear hbr
     have dk:(k:Int)<(m:Int):=Yo
     go_upto_region 18 with (fail)
     clear z0 z1 z2 z3 z4 z5 z6 z7 z8 z9 l0 l1 l2 l3 dk
     have X5:Bl (wr.alloc (.cells #[.string x.nm,.bool x.p,.bool x.q,.bool x.lo.b,.slice x.lo.A x.lo.l x.lo.k,.slice x.lo.B x.lo.m x.lo.d,.bool x.hi.b,.slice x.hi.A x.hi.l x.hi.k,.slice x.hi.B x.hi.m x.hi.d,.slice x.ts.A x.ts.l x.ts.k] 142)) 142 wr.heap.size x.cs:=Bl.new wr 142 x.cs
     have hb5:=Ya wr (.cells #[.string x.nm,.bool x.p,.bool x.q,.bool x.lo.b,.slice x.lo.A x.lo.l x.lo.k,.slice x.lo.B x.lo.m x.lo.d,.bool x.hi.b,.slice x.hi.A x.hi.l x.hi.k,.slice x.hi.B x.hi.m x.hi.d,.slice x.ts.A x.ts.l x.ts.k] 142)
     have hg35:g3≠wr.heap.size:=Nat.ne_of_lt H.p1.lt
     have HM:=Yh6 (Yb H.p0 hb5) X5 (H.p1.keep hb5) (H.p2.keep hb5) (H.p3.keep hb5) (H.q4.keep hb5)
     clear X5 hb5 H
     generalize (wr.alloc (.cells #[.string x.nm,.bool x.p,.bool x.q,.bool x.lo.b,.slice x.lo.A x.lo.l x.lo.k,.slice x.lo.B x.lo.m x.lo.d,.bool x.hi.b,.slice x.hi.A x.hi.l x.hi.k,.slice x.hi.B x.hi.m x.hi.d,.slice x.ts.A x.ts.l x.ts.k] 142))=V5 at HM ⊢
     obtain ⟨g5,hg5⟩:∃ g,g=wr.heap.size:=⟨_,rfl⟩
     rw [<- hg5] at HM hg35 ⊢
     clear hg5
     obtain ⟨ela,elb,elc,eld,ele,elf⟩:=HL3.out.len (by rw [HF.p1];exact hk)
     have HLN:=Yh6 ela elb elc eld ele elf
     clear ela elb elc eld ele elf
     have HLN:Hid (la.length=Kn/\lb.length=Kn/\lc.length=Kn/\ld.length=Kn/\le.length=Kn/\lf.length=Kn):=by have:=HLN.out;rw [HF.q2] at this;rw [HKn.out];exact this
     have hKb:Kn<=1000:=by have:=HKn.out;omega
     go_upto_region 18 with (fail)
     have HD:=Yh6 (Yb HM.p0 (below_d _)) (HM.p1.keep (below_d _)) (HM.p2.keep (below_d _)) (HM.p3.keep (below_d _)) (HM.p4.keep (below_d _)) (HM.q5.keep (below_d _))
     refine wp_region_late 7 (by kernel_rfl) (by kernel_rfl) (Yl 8 128).toArray (by kernel_rfl) (S:=fun W=>W.cell? ⟨g3,1,none⟩=some (.slice Aa Kn ca)) (Bl.ld HD.p2 1 rfl) (fun Hh=>?_)
     clear HM
     refine rgT 0 Hh ?_
     refine rgT 1 Hh ?_
     refine rgT 2 Hh ?_
     generalize V5.drew=Wd at HD Hh ⊢
     refine rgO 3 fun K hK=>?_
     go_simp
     go_at_call 128;refine (slack_d (row:=(k:Int))).mono ?_;rintro e wt ⟨ut,rfl,ht⟩
     have hb:=ht.below
     obtain ⟨At,ct,rfl⟩:=ht.shape
     obtain ⟨nt,hnt⟩:∃ n,[((k:Int),fq (-1))].length=n:=⟨_,rfl⟩
     rw [hnt] at ht ⊢
     have hcol:Tw W0 wt (.slice At nt ct) [((k:Int),fq (-1))]:=ht.from HD.p0
     clear ht hnt
     have HE:=Yh6 (Yb HD.p0 hb) (HD.p1.keep hb) (HD.p2.keep hb) (HD.p3.keep hb) (HD.p4.keep hb) (HD.q5.keep hb)
     have HCOL:=Lib.hid hcol
     clear hb hcol HD Hh
     go_wp2_with fail
     refine rgK hK (Bl.ld HE.p2 1 rfl) fun Hh=>?_;clear hK K
     refine rgO 4 fun K hK=>?_
     go_simp
     have hal:=Ya wt (.cells #[.slice At nt ct] 54)
     have N1:=Bl.new wt 54 [.slice At nt ct]
     have HG:=Yh6 (Yb HE.p0 hal) (HE.p1.keep hal) (HE.p2.keep hal) (HE.p3.keep hal) (HE.p4.keep hal) (HE.q5.keep hal)
     have HCOL2:=Lib.hid (HCOL.out.keep hal)
     refine rgK hK (Bl.ld HG.p2 1 rfl) fun Hh=>?_;clear hK K
     obtain ⟨gn,hgn⟩:∃ g,g=wt.heap.size:=⟨_,rfl⟩
     rw [<- hgn] at N1 ⊢
     have HN1:=Lib.hid N1
     clear hal N1 HE HCOL hgn
     generalize wt.alloc _=W8 at HG HN1 HCOL2 Hh ⊢
     refine rgO 5 fun K hK=>?_
     rw [if_pos (by rfl)]
     obtain ⟨xs,hx1,hx2,hx3⟩:=HG.p3
     have hlx:xs.length=Kn:=by rw [hx2.1];exact HLN.p0
     refine app_el (f:=Sl.cs) (x:=⟨At,nt,ct⟩) Tryz.underlying22 terms_info ⟨Yd,rfl,Yd⟩ Sl.len Sl.one (.tmp 103) (.tmp 106) rfl rfl rfl hx1 HN1.out (by rw [hlx];omega) HG.p0 ?_
     intro v9 W9 k1 k2 k3 k4
     obtain ⟨A9,c9,e9,-⟩:=k1.shape
     rw [List.length_append,hlx,List.length_singleton] at e9
     subst e9
     have H9:=Yh6 k2 ((k3 _ Yd).bl HG.p1) ((k3 _ Yd).bl HG.p2) ((show Gw W0 W9 (.slice A9 (Kn+1) c9) (la++[[((k:Int),fq (-1))]]) from ⟨_,k1,(hx2.imp fun x c hc=>hc.keepT (k3 _ Yd) (k3 _ Yd) k2).app (HCOL2.out.keepT (k3 _ Yd) (k3 _ Yd) k2),k2⟩)) (HG.p4.keepT (k3 _ Yd)) (HG.q5.keepT (k3 _ Yd) (k3 _ Yd) k2)
     clear k1 k2 k3 k4 hx1 hx2 hx3 hlx HG HCOL2 HN1
     refine rgK hK (Bl.ld H9.p2 1 rfl) fun Hh=>?_;clear hK K
     refine rgT 6 Hh ?_
     refine Yw ?_
     clear Hh
     refine late_go (T:=fun _=>True) (Yl 8 127).toArray 1 (by kernel_rfl) (by kernel_rfl) ?_
     skip
     refine rgO 7 fun K hK=>?_
     have f0:=Bl.fr H9.p2 1
     have r0:=Bl.ld H9.p2 1 rfl
     go_simp
     clear f0 r0
     refine rgK hK trivial fun Hh=>?_;clear hK K
     have hbn:Yg W0 (W9.setCell ⟨g3,1,none⟩ (.slice A9 (Kn+1) c9)):=H9.p0.setCell (p:=⟨g3,1,none⟩) hg3 _
     have HT0:=Yh6 hbn (H9.p1.other (p:=⟨g3,1,none⟩) hg35 (.slice A9 (Kn+1) c9)) (H9.p2.set 1 (.slice A9 (Kn+1) c9)) (H9.p3.keepT (H9.p2.keepT1 Yd 1 (.slice A9 (Kn+1) c9)) (H9.p2.keepT1 Yd 1 (.slice A9 (Kn+1) c9)) (H9.p2.keepT1 Yd 1 (.slice A9 (Kn+1) c9)) hbn) (H9.p4.keepT (H9.p2.keepT1 Yd 1 (.slice A9 (Kn+1) c9))) (H9.q5.keepT (H9.p2.keepT1 Yd 1 (.slice A9 (Kn+1) c9)) (H9.p2.keepT1 Yd 1 (.slice A9 (Kn+1) c9)) hbn)
     clear hbn
     generalize (W9.setCell ⟨g3,1,none⟩ (.slice A9 (Kn+1) c9))=T0 at HT0 ⊢
     refine Yw ?_
     have HM:=HT0
     clear HT0
     go_upto_region 19 with (fail)
     go_cut [114] (fun s wx=>∃ (Ab9:Option Addr) (cb9:Nat) (Ac9:Option Addr) (cc9:Nat),Hid (Yg W0 wx/\Bl wx 142 g5 x.cs/\Bl wx 26 g3 [.int .i64 (n:Int),.slice A9 (Kn+1) c9,.slice Ab9 (Kn+1) cb9,.slice Ac9 (Kn+1) cc9,.slice Ad Kn cd,.slice Ae Kn ce,.slice Af Kn cf]/\Gw W0 wx (.slice A9 (Kn+1) c9) (la++[[((k:Int),fq (-1))]])/\Sb W0 wx (.slice Ab9 (Kn+1) cb9) (.slice Ac9 (Kn+1) cc9) (lb++[x.p]) (lc++[x.q])/\Sd w W0 wx (.slice Ad Kn cd) (.slice Ae Kn ce) (.slice Af Kn cf) ld le lf))
     case first=>
      obtain ⟨J,hJ⟩:∃ J:List Value->World->Prop,∀ L W,J L W↔(Yg W0 W/\Bl W 142 g5 x.cs/\Bl W 26 g3 L/\Gw W0 W (.slice A9 (Kn+1) c9) (la++[[((k:Int),fq (-1))]])/\Sd w W0 W (.slice Ad Kn cd) (.slice Ae Kn ce) (.slice Af Kn cf) ld le lf):=⟨_,fun _ _=>Iff.rfl⟩
      have HJ:=Lib.hid hJ
      clear hJ
      have HJK:Hid (∀ L W W2,J L W->Yg W W2->J L W2):=fun L W W2 h hb=>by rw [HJ.out] at h ⊢;exact ⟨Yb h.1 hb,h.2.1.keep hb,h.2.2.1.keep hb,h.2.2.2.1.keep hb,h.2.2.2.2.keep hb⟩
      have HJA:Hid (∀ L W W2,J L W->Yg W0 W2->(∀ T,4≠T->KeepT T W W2)->J L W2):=fun L W W2 h k2 k3=>by rw [HJ.out] at h ⊢;exact ⟨k2,(k3 _ Yd).bl h.2.1,(k3 _ Yd).bl h.2.2.1,h.2.2.2.1.keepT (k3 _ Yd) (k3 _ Yd) (k3 _ Yd) k2,h.2.2.2.2.keepT (k3 _ Yd) (k3 _ Yd) k2⟩
      have HJX:Hid (∀ L W j v,J L W->J (L.set j v) (W.setCell ⟨g3,j,none⟩ v)/\(∀ T,26≠T->KeepT T W (W.setCell ⟨g3,j,none⟩ v))/\Yg W0 (W.setCell ⟨g3,j,none⟩ v)):=fun L W j v h=>by rw [HJ.out] at h ⊢;have k3:=fun T h2=>h.2.2.1.keepT1 (e:=T) h2 j v;have hbn:=h.1.setCell (p:=⟨g3,j,none⟩) hg3 v;exact ⟨⟨hbn,h.2.1.other (p:=⟨g3,j,none⟩) hg35 v,h.2.2.1.set j v,h.2.2.2.1.keepT (k3 _ Yd) (k3 _ Yd) (k3 _ Yd) hbn,h.2.2.2.2.keepT (k3 _ Yd) (k3 _ Yd) hbn⟩,k3,hbn⟩
      have R0:=(HJ.out [.int .i64 (n:Int),.slice A9 (Kn+1) c9,.slice Ab Kn cb,.slice Ac Kn cc,.slice Ad Kn cd,.slice Ae Kn ce,.slice Af Kn cf] T0).2 ⟨HM.p0,HM.p1,HM.p2,HM.p3,HM.q5⟩
      have h0:=(HJ.out _ _).1 R0
      have RS:=HM.p4
      refine flow (fun W=>(Yg W0 W/\T0.heap.size<=W.heap.size)/\W.cell? ⟨g5,1,none⟩=some (.bool x.p)/\W.cell? ⟨g5,2,none⟩=some (.bool x.q)/\W.cell? ⟨g3,2,none⟩=some (.slice Ab Kn cb)/\W.cell? ⟨g3,3,none⟩=some (.slice Ac Kn cc)) (fun vs W=>let L0:List Value:=[.int .i64 (n:Int),.slice A9 (Kn+1) c9,.slice Ab Kn cb,.slice Ac Kn cc,.slice Ad Kn cd,.slice Ae Kn ce,.slice Af Kn cf];match vs with|[]=>J L0 W/\Sb W0 W (.slice Ab Kn cb) (.slice Ac Kn cc) lb lc|[u]=>∃ A0 c0,u=.slice A0 (Kn+1) c0/\J L0 W/\Sb W0 W (.slice A0 (Kn+1) c0) (.slice Ac Kn cc) (lb++[x.p]) lc|u::t::zz=>∃ A0 c0,∃ A1 c1,u=.slice A0 (Kn+1) c0/\t=.slice A1 (Kn+1) c1/\J (match zz with|[]=>L0|[_]=>(L0.set 2 u)|_=>((L0.set 2 u).set 3 t)) W/\Sb W0 W (.slice A0 (Kn+1) c0) (.slice A1 (Kn+1) c1) (lb++[x.p]) (lc++[x.q])) (fun W W2=>(∀ g us,T0.heap.size<=g->Bl W 4 g us->Bl W2 4 g us)/\∀ T,4≠T->KeepT T W W2) 1 [⟨[],[(0,109),(1,110),(2,111),(3,112),(6,115),(7,116),(8,117),(9,118)],[],[(4,113,fun v W=>∃ g,v=.slice (some ⟨g,0,none⟩) 1 1/\T0.heap.size<=g/\Bl W 4 g [.bool x.p]),(10,119,fun v W=>∃ g,v=.slice (some ⟨g,0,none⟩) 1 1/\T0.heap.size<=g/\Bl W 4 g [.bool x.q])]⟩] [⟨[],[],[(12,121),(14,122)],[]⟩] [⟨5,some 114,[(4,113)],[(0,109),(1,110)],[]⟩,⟨11,some 120,[(10,119)],[(6,115),(7,116)],[]⟩,⟨13,none,[],[],[(12,121)]⟩,⟨15,none,[],[],[(14,122)]⟩] ⟨[(4,113),(10,119)],[(0,109),(1,110),(2,111),(3,112),(6,115),(7,116),(8,117),(9,118)],[(12,121),(14,122)],[]⟩ ⟨⟨h0.1,Nat.le_refl _⟩,Bl.ld h0.2.1 1 rfl,Bl.ld h0.2.1 2 rfl,Bl.ld h0.2.2.1 2 rfl,Bl.ld h0.2.2.1 3 rfl⟩ (⟨R0,RS⟩) (fun _ _ h b=>⟨⟨Yb h.1.1 b,Nat.le_trans h.1.2 b.size⟩,cell_keep h.2.1 b,cell_keep h.2.2.1 b,cell_keep h.2.2.2.1 b,cell_keep h.2.2.2.2 b⟩) (fun vs _ _ h b=>match vs,h with|[],⟨h,k⟩=>⟨HJK.out _ _ _ h b,k.keep b⟩|[_],⟨A0,c0,e0,h,k⟩=>⟨A0,c0,e0,HJK.out _ _ _ h b,k.keep b⟩|_::_::_,⟨A0,c0,A1,c1,e0,e1,h,k⟩=>⟨A0,c0,A1,c1,e0,e1,HJK.out _ _ _ h b,k.keep b⟩) ⟨fun _ _ _ ⟨g,h,q,X⟩ b=>⟨g,h,q,X.keep b⟩,fun _ _ _ ⟨g,h,q,X⟩ r=>⟨g,h,q,r.1 _ _ q X⟩,⟨fun _ _ _ ⟨g,h,q,X⟩ b=>⟨g,h,q,X.keep b⟩,fun _ _ _ ⟨g,h,q,X⟩ r=>⟨g,h,q,r.1 _ _ q X⟩,trivial⟩⟩ ⟨?_,trivial⟩ ⟨?_,trivial⟩ ⟨?_,?_,?_,?_,trivial⟩ ?_
      · rintro W hS
        refine gvN ?_;(repeat refine flA ?_);refine flN (flN ?_)
        refine flK (fun K hK=>?_) (flK (fun K hK=>?_) flL)
        · have hal:=Ya W (.cells #[.bool x.p] 4)
          go_simp
          exact hK.out _ _ ⟨⟨_,rfl,hS.1.2,Bl.new W 4 [.bool x.p]⟩,hal⟩
        · have hal:=Ya W (.cells #[.bool x.q] 4)
          go_simp
          exact hK.out _ _ ⟨⟨_,rfl,hS.1.2,Bl.new W 4 [.bool x.q]⟩,hal⟩
      · refine gvN ?_;(repeat refine flA ?_);exact trivial
      · rintro W hS ⟨rJ,rSb⟩ v4 ⟨g4,rfl,p4,X4⟩
        have hS:=hS flY
        refine gvN ?_;(repeat refine flA ?_);refine flN (flN ?_)
        refine flC fun K hK=>?_
        rw [if_pos (by rfl)]
        refine app_b (b:=x.p) (.tmp 110) (.tmp 113) rfl rfl rfl rSb.1 X4 (by have:=HLN.out;omega) ((HJ.out _ _).1 rJ).1 ?_
        intro v W3 k1 k2 k3 k4 k5
        obtain ⟨A,c,e⟩:=k1.shape
        rw [List.length_append,HLN.p1,List.length_singleton] at e
        subst e
        have j:=HJA.out _ _ _ rJ k2 k3
        have h:=(HJ.out _ _).1 j
        exact hK.out _ _ ⟨⟨_,_,rfl,j,rSb.app1 k1 k4 k5⟩,fun _=>⟨⟨⟨h.1,Nat.le_trans hS.1.2 (Rb.up k1 k4 k5)⟩,Bl.ld h.2.1 1 rfl,Bl.ld h.2.1 2 rfl,Bl.ld h.2.2.1 2 rfl,Bl.ld h.2.2.1 3 rfl⟩,fun g us q X=>lit_stay (n:=1) (k:=1) X (Rb.fresh HM.p4.1 q) k4,k3⟩⟩
      · rintro W hS c5 ⟨A0,c0,rfl,rJ,rSb⟩ v10 ⟨g10,rfl,p10,X10⟩
        have hS:=hS flY
        refine gvN ?_;(repeat refine flA ?_);refine flN (flN ?_)
        refine flC fun K hK=>?_
        rw [if_pos (by rfl)]
        refine app_b (b:=x.q) (.tmp 116) (.tmp 119) rfl rfl rfl rSb.2.1 X10 (by have:=HLN.out;omega) ((HJ.out _ _).1 rJ).1 ?_
        intro v W3 k1 k2 k3 k4 k5
        obtain ⟨A,c,e⟩:=k1.shape
        rw [List.length_append,HLN.p2,List.length_singleton] at e
        subst e
        have j:=HJA.out _ _ _ rJ k2 k3
        exact hK.out _ _ ⟨⟨_,_,_,_,rfl,rfl,j,rSb.app2 k1 k4 k5⟩,fun h=>flX h⟩
      · rintro W hS c5 c11 ⟨A0,c0,A1,c1,rfl,rfl,rJ,rSb⟩
        clear hS
        refine gvN ?_;(repeat refine flA ?_);refine flN ?_
        refine flC fun K hK=>?_
        have X:=((HJ.out _ _).1 rJ).2.2.1
        have f0:=Bl.fr X 2
        have r0:=Bl.ld X 2 rfl
        go_simp
        clear f0 r0 X
        obtain ⟨j,k3,hbn⟩:=HJX.out _ _ 2 (.slice A0 (Kn+1) c0) rJ
        exact hK.out undef _ ⟨⟨_,_,_,_,rfl,rfl,j,rSb.keepT (k3 _ Yd)⟩,fun h=>flX h⟩
      · rintro W hS c5 c11 c13 ⟨A0,c0,A1,c1,rfl,rfl,rJ,rSb⟩
        clear hS
        refine gvN ?_;(repeat refine flA ?_);refine flN ?_
        refine flC fun K hK=>?_
        have X:=((HJ.out _ _).1 rJ).2.2.1
        have f0:=Bl.fr X 3
        have r0:=Bl.ld X 3 rfl
        go_simp
        clear f0 r0 X
        obtain ⟨j,k3,hbn⟩:=HJX.out _ _ 3 (.slice A1 (Kn+1) c1) rJ
        exact hK.out undef _ ⟨⟨_,_,_,_,rfl,rfl,j,rSb.keepT (k3 _ Yd)⟩,fun h=>flX h⟩
      rintro W hS c5 c11 c13 c15 ⟨A0,c0,A1,c1,rfl,rfl,rJ,rSb⟩ v4 - v10 -
      clear hS
      refine gvN ?_;(repeat refine flA ?_);refine flN ?_
      have h:=(HJ.out _ _).1 rJ
      go_wp2_with fail
      go_meet
      exact ⟨A0,c0,A1,c1,h.1,h.2.1,h.2.2.1,h.2.2.2.1,rSb,h.2.2.2.2⟩
     case rest=>
      clear HM
      obtain ⟨Ab9,cb9,Ac9,cc9,HQ9⟩:=hcut
      have HM:=HQ9
      clear HQ9
      generalize wc=V8 at HM ⊢
      go_upto_region 20 with (fail)
      obtain ⟨J,hJ⟩:∃ J:List Value->World->Prop,∀ L W,J L W↔(Yg W0 W/\Bl W 142 g5 x.cs/\Bl W 26 g3 L/\Gw W0 W (.slice A9 (Kn+1) c9) (la++[[((k:Int),fq (-1))]])/\Sb W0 W (.slice Ab9 (Kn+1) cb9) (.slice Ac9 (Kn+1) cc9) (lb++[x.p]) (lc++[x.q])):=⟨_,fun _ _=>Iff.rfl⟩
      have HJ:=Lib.hid hJ
      clear hJ
      have HJK:Hid (∀ L W W2,J L W->Yg W W2->J L W2):=fun L W W2 h hb=>by rw [HJ.out] at h ⊢;exact ⟨Yb h.1 hb,h.2.1.keep hb,h.2.2.1.keep hb,h.2.2.2.1.keep hb,h.2.2.2.2.keep hb⟩
      have HJA:Hid (∀ L W W2,J L W->Yg W0 W2->(∀ T,36≠T->KeepT T W W2)->J L W2):=fun L W W2 h k2 k3=>by rw [HJ.out] at h ⊢;exact ⟨k2,(k3 _ Yd).bl h.2.1,(k3 _ Yd).bl h.2.2.1,h.2.2.2.1.keepT (k3 _ Yd) (k3 _ Yd) (k3 _ Yd) k2,h.2.2.2.2.keepT (k3 _ Yd)⟩
      have HJX:Hid (∀ L W j v,J L W->J (L.set j v) (W.setCell ⟨g3,j,none⟩ v)/\(∀ T,26≠T->KeepT T W (W.setCell ⟨g3,j,none⟩ v))/\Yg W0 (W.setCell ⟨g3,j,none⟩ v)):=fun L W j v h=>by rw [HJ.out] at h ⊢;have k3:=fun T h2=>h.2.2.1.keepT1 (e:=T) h2 j v;have hbn:=h.1.setCell (p:=⟨g3,j,none⟩) hg3 v;exact ⟨⟨hbn,h.2.1.other (p:=⟨g3,j,none⟩) hg35 v,h.2.2.1.set j v,h.2.2.2.1.keepT (k3 _ Yd) (k3 _ Yd) (k3 _ Yd) hbn,h.2.2.2.2.keepT (k3 _ Yd)⟩,k3,hbn⟩
      have R0:=(HJ.out [.int .i64 (n:Int),.slice A9 (Kn+1) c9,.slice Ab9 (Kn+1) cb9,.slice Ac9 (Kn+1) cc9,.slice Ad Kn cd,.slice Ae Kn ce,.slice Af Kn cf] V8).2 ⟨HM.p0,HM.p1,HM.p2,HM.p3,HM.p4⟩
      have h0:=(HJ.out _ _).1 R0
      have RS:=HM.q5
      refine flow (fun W=>(Yg W0 W/\V8.heap.size<=W.heap.size)/\W.cell? ⟨g5,3,none⟩=some (.bool x.lo.b)/\W.cell? ⟨g5,4,none⟩=some (.slice x.lo.A x.lo.l x.lo.k)/\W.cell? ⟨g5,5,none⟩=some (.slice x.lo.B x.lo.m x.lo.d)/\W.cell? ⟨g5,6,none⟩=some (.bool x.hi.b)/\W.cell? ⟨g5,7,none⟩=some (.slice x.hi.A x.hi.l x.hi.k)/\W.cell? ⟨g5,8,none⟩=some (.slice x.hi.B x.hi.m x.hi.d)/\W.cell? ⟨g3,4,none⟩=some (.slice Ad Kn cd)/\W.cell? ⟨g3,5,none⟩=some (.slice Ae Kn ce)/\W.cell? ⟨g3,6,none⟩=some (.slice Af Kn cf)) (fun vs W=>let L0:List Value:=[.int .i64 (n:Int),.slice A9 (Kn+1) c9,.slice Ab9 (Kn+1) cb9,.slice Ac9 (Kn+1) cc9,.slice Ad Kn cd,.slice Ae Kn ce,.slice Af Kn cf];match vs with|[]=>J L0 W/\Sd w W0 W (.slice Ad Kn cd) (.slice Ae Kn ce) (.slice Af Kn cf) ld le lf|[u]=>∃ A0 c0,u=.slice A0 (Kn+1) c0/\J L0 W/\Sd w W0 W (.slice A0 (Kn+1) c0) (.slice Ae Kn ce) (.slice Af Kn cf) (ld++[r.lo]) le lf|[u,t]=>∃ A0 c0,∃ A1 c1,u=.slice A0 (Kn+1) c0/\t=.slice A1 (Kn+1) c1/\J L0 W/\Sd w W0 W (.slice A0 (Kn+1) c0) (.slice A1 (Kn+1) c1) (.slice Af Kn cf) (ld++[r.lo]) (le++[r.hi]) lf|u::t::s::zz=>∃ A0 c0,∃ A1 c1,∃ A2 c2,u=.slice A0 (Kn+1) c0/\t=.slice A1 (Kn+1) c1/\s=.slice A2 (Kn+1) c2/\J (match zz with|[]=>L0|[_]=>(L0.set 4 u)|[_,_]=>((L0.set 4 u).set 5 t)|_=>(((L0.set 4 u).set 5 t).set 6 s)) W/\Sd w W0 W (.slice A0 (Kn+1) c0) (.slice A1 (Kn+1) c1) (.slice A2 (Kn+1) c2) (ld++[r.lo]) (le++[r.hi]) (lf++[fq 0])) (fun W W2=>(∀ g us,V8.heap.size<=g->Bl W 36 g us->Bl W2 36 g us)/\(∀ T,36≠T->KeepT T W W2)/\Yg W0 W2) 2 [⟨[],[(0,123),(1,124),(2,125),(3,126),(6,129),(7,130),(8,131),(9,132),(12,135),(13,136)],[],[(4,127,fun v W=>∃ g,v=.slice (some ⟨g,0,none⟩) 1 1/\V8.heap.size<=g/\Bl W 36 g [.bool x.lo.b,.slice x.lo.A x.lo.l x.lo.k,.slice x.lo.B x.lo.m x.lo.d]),(10,133,fun v W=>∃ g,v=.slice (some ⟨g,0,none⟩) 1 1/\V8.heap.size<=g/\Bl W 36 g [.bool x.hi.b,.slice x.hi.A x.hi.l x.hi.k,.slice x.hi.B x.hi.m x.hi.d]),(14,137,fun v W=>∃ bq Aq lq kq Bq mq dq,v=.agg #[.bool bq,.slice Aq lq kq,.slice Bq mq dq]/\Fw W0 W (.agg #[.bool bq,.slice Aq lq kq,.slice Bq mq dq]) (fq 0))]⟩,⟨[(14,137)],[],[],[(15,138,fun v W=>∃ g bq Aq lq kq Bq mq dq,v=.slice (some ⟨g,0,none⟩) 1 1/\V8.heap.size<=g/\Bl W 36 g [.bool bq,.slice Aq lq kq,.slice Bq mq dq]/\Fw W0 W (.agg #[.bool bq,.slice Aq lq kq,.slice Bq mq dq]) (fq 0))]⟩] [⟨[],[],[(17,140),(19,141),(21,142)],[]⟩] [⟨5,some 128,[(4,127)],[(0,123),(1,124)],[]⟩,⟨11,some 134,[(10,133)],[(6,129),(7,130)],[]⟩,⟨16,some 139,[(15,138)],[(12,135),(13,136)],[]⟩,⟨18,none,[],[],[(17,140)]⟩,⟨20,none,[],[],[(19,141)]⟩,⟨22,none,[],[],[(21,142)]⟩] ⟨[(4,127),(10,133),(14,137),(15,138)],[(0,123),(1,124),(2,125),(3,126),(6,129),(7,130),(8,131),(9,132),(12,135),(13,136)],[(17,140),(19,141),(21,142)],[]⟩ ⟨⟨h0.1,Nat.le_refl _⟩,Bl.ld h0.2.1 3 rfl,Bl.ld h0.2.1 4 rfl,Bl.ld h0.2.1 5 rfl,Bl.ld h0.2.1 6 rfl,Bl.ld h0.2.1 7 rfl,Bl.ld h0.2.1 8 rfl,Bl.ld h0.2.2.1 4 rfl,Bl.ld h0.2.2.1 5 rfl,Bl.ld h0.2.2.1 6 rfl⟩ (⟨R0,RS⟩) (fun _ _ h b=>⟨⟨Yb h.1.1 b,Nat.le_trans h.1.2 b.size⟩,cell_keep h.2.1 b,cell_keep h.2.2.1 b,cell_keep h.2.2.2.1 b,cell_keep h.2.2.2.2.1 b,cell_keep h.2.2.2.2.2.1 b,cell_keep h.2.2.2.2.2.2.1 b,cell_keep h.2.2.2.2.2.2.2.1 b,cell_keep h.2.2.2.2.2.2.2.2.1 b,cell_keep h.2.2.2.2.2.2.2.2.2 b⟩) (fun vs _ _ h b=>match vs,h with|[],⟨h,k⟩=>⟨HJK.out _ _ _ h b,k.keep b⟩|[_],⟨A0,c0,e0,h,k⟩=>⟨A0,c0,e0,HJK.out _ _ _ h b,k.keep b⟩|[_,_],⟨A0,c0,A1,c1,e0,e1,h,k⟩=>⟨A0,c0,A1,c1,e0,e1,HJK.out _ _ _ h b,k.keep b⟩|_::_::_::_,⟨A0,c0,A1,c1,A2,c2,e0,e1,e2,h,k⟩=>⟨A0,c0,A1,c1,A2,c2,e0,e1,e2,HJK.out _ _ _ h b,k.keep b⟩) ⟨fun _ _ _ ⟨g,h,q,X⟩ b=>⟨g,h,q,X.keep b⟩,fun _ _ _ ⟨g,h,q,X⟩ r=>⟨g,h,q,r.1 _ _ q X⟩,⟨fun _ _ _ ⟨g,h,q,X⟩ b=>⟨g,h,q,X.keep b⟩,fun _ _ _ ⟨g,h,q,X⟩ r=>⟨g,h,q,r.1 _ _ q X⟩,⟨fun _ _ _ ⟨bq,Aq,lq,kq,Bq,mq,dq,e,h⟩ b=>⟨bq,Aq,lq,kq,Bq,mq,dq,e,h.keep b⟩,fun _ _ _ ⟨bq,Aq,lq,kq,Bq,mq,dq,e,h⟩ r=>⟨bq,Aq,lq,kq,Bq,mq,dq,e,h.keepT (r.2.1 _ Yd) r.2.2⟩,⟨fun _ _ _ ⟨g,bq,Aq,lq,kq,Bq,mq,dq,e,q,X,h⟩ b=>⟨g,bq,Aq,lq,kq,Bq,mq,dq,e,q,X.keep b,h.keep b⟩,fun _ _ _ ⟨g,bq,Aq,lq,kq,Bq,mq,dq,e,q,X,h⟩ r=>⟨g,bq,Aq,lq,kq,Bq,mq,dq,e,q,r.1 _ _ q X,h.keepT (r.2.1 _ Yd) r.2.2⟩,trivial⟩⟩⟩⟩ ⟨?_,?_,trivial⟩ ⟨?_,trivial⟩ ⟨?_,?_,?_,?_,?_,?_,trivial⟩ ?_
      · rintro W hS
        refine gvN ?_;(repeat refine flA ?_);refine flN (flN ?_)
        refine flK (fun K hK=>?_) (flK (fun K hK=>?_) (flK (fun K hK=>?_) flL))
        · have hal:=Ya W (.cells #[.bool x.lo.b,.slice x.lo.A x.lo.l x.lo.k,.slice x.lo.B x.lo.m x.lo.d] 36)
          go_simp
          exact hK.out _ _ ⟨⟨_,rfl,hS.1.2,Bl.new W 36 [.bool x.lo.b,.slice x.lo.A x.lo.l x.lo.k,.slice x.lo.B x.lo.m x.lo.d]⟩,hal⟩
        · have hal:=Ya W (.cells #[.bool x.hi.b,.slice x.hi.A x.hi.l x.hi.k,.slice x.hi.B x.hi.m x.hi.d] 36)
          go_simp
          exact hK.out _ _ ⟨⟨_,rfl,hS.1.2,Bl.new W 36 [.bool x.hi.b,.slice x.hi.A x.hi.l x.hi.k,.slice x.hi.B x.hi.m x.hi.d]⟩,hal⟩
        · go_simp
          go_at_call 126;refine (rat_d (z:=0) Yd).mono ?_;rintro e wt ⟨ut,rfl,ht⟩
          have hb:=ht.below
          obtain ⟨bq,Aq,lq,kq,Bq,mq,dq,rfl⟩:=ht.parts
          go_wp2_with fail
          exact hK.out _ _ ⟨⟨_,_,_,_,_,_,_,rfl,ht.fw.from hS.1.1⟩,hb⟩
      · rintro W hS v14 ⟨bq,Aq,lq,kq,Bq,mq,dq,rfl,rQ⟩
        refine gvN ?_;refine flN (flN ?_)
        refine flK (fun K hK=>?_) flL
        have hal:=Ya W (.cells #[.bool bq,.slice Aq lq kq,.slice Bq mq dq] 36)
        go_simp
        exact hK.out _ _ ⟨⟨_,_,_,_,_,_,_,_,rfl,hS.1.2,Bl.new W 36 [.bool bq,.slice Aq lq kq,.slice Bq mq dq],rQ.keep hal⟩,hal⟩
      · refine gvN ?_;(repeat refine flA ?_);exact trivial
      · rintro W hS ⟨rJ,rD⟩ v4 ⟨g4,rfl,p4,X4⟩
        have hS:=hS flY
        refine gvN ?_;(repeat refine flA ?_);refine flN (flN ?_)
        refine flC fun K hK=>?_
        rw [if_pos (by rfl)]
        refine app_rc (f:=r.lo) (x:=x.lo) (.tmp 124) (.tmp 127) rfl rfl rfl rD.1 (.inl HX.p0.2.2.1) X4 (by have:=HLN.out;omega) ((HJ.out _ _).1 rJ).1 ?_
        intro v W3 k1 k2 k3 k4 k5
        obtain ⟨A,c,e⟩:=k1.shape
        rw [List.length_append,HLN.p3,List.length_singleton] at e
        subst e
        have j:=HJA.out _ _ _ rJ k2 k3
        have h:=(HJ.out _ _).1 j
        exact hK.out _ _ ⟨⟨_,_,rfl,j,rD.app1 k1 k2 (k3 _ Yd) k4 k5⟩,fun _=>⟨⟨⟨h.1,Nat.le_trans hS.1.2 (Rc.up k1 k4 k5)⟩,Bl.ld h.2.1 3 rfl,Bl.ld h.2.1 4 rfl,Bl.ld h.2.1 5 rfl,Bl.ld h.2.1 6 rfl,Bl.ld h.2.1 7 rfl,Bl.ld h.2.1 8 rfl,Bl.ld h.2.2.1 4 rfl,Bl.ld h.2.2.1 5 rfl,Bl.ld h.2.2.1 6 rfl⟩,fun g us q X=>lit_stay (n:=1) (k:=1) X (Rc.fresh HM.p5 q) k4,k3,k2⟩⟩
      · rintro W hS c5 ⟨A0,c0,rfl,rJ,rD⟩ v10 ⟨g10,rfl,p10,X10⟩
        have hS:=hS flY
        refine gvN ?_;(repeat refine flA ?_);refine flN (flN ?_)
        refine flC fun K hK=>?_
        rw [if_pos (by rfl)]
        refine app_rc (f:=r.hi) (x:=x.hi) (.tmp 130) (.tmp 133) rfl rfl rfl rD.2.1 (.inl HX.p0.2.2.2.1) X10 (by have:=HLN.out;omega) ((HJ.out _ _).1 rJ).1 ?_
        intro v W3 k1 k2 k3 k4 k5
        obtain ⟨A,c,e⟩:=k1.shape
        rw [List.length_append,HLN.p4,List.length_singleton] at e
        subst e
        have j:=HJA.out _ _ _ rJ k2 k3
        have h:=(HJ.out _ _).1 j
        exact hK.out _ _ ⟨⟨_,_,_,_,rfl,rfl,j,rD.app2 k1 k2 (k3 _ Yd) k4 k5⟩,fun _=>⟨⟨⟨h.1,Nat.le_trans hS.1.2 (Rc.up k1 k4 k5)⟩,Bl.ld h.2.1 3 rfl,Bl.ld h.2.1 4 rfl,Bl.ld h.2.1 5 rfl,Bl.ld h.2.1 6 rfl,Bl.ld h.2.1 7 rfl,Bl.ld h.2.1 8 rfl,Bl.ld h.2.2.1 4 rfl,Bl.ld h.2.2.1 5 rfl,Bl.ld h.2.2.1 6 rfl⟩,fun g us q X=>lit_stay (n:=1) (k:=1) X (Rc.fresh HM.p6 q) k4,k3,k2⟩⟩
      · rintro W hS c5 c11 ⟨A0,c0,A1,c1,rfl,rfl,rJ,rD⟩ v15 ⟨g15,bq,Aq,lq,kq,Bq,mq,dq,rfl,p15,X15,rQ⟩
        have hS:=hS flY
        refine gvN ?_;(repeat refine flA ?_);refine flN (flN ?_)
        refine flC fun K hK=>?_
        rw [if_pos (by rfl)]
        refine app_rc (f:=fq 0) (x:=(⟨bq,Aq,lq,kq,Bq,mq,dq⟩:Rm)) (.tmp 136) (.tmp 138) rfl rfl rfl rD.2.2.1 (.inr rQ) X15 (by have:=HLN.out;omega) ((HJ.out _ _).1 rJ).1 ?_
        intro v W3 k1 k2 k3 k4 k5
        obtain ⟨A,c,e⟩:=k1.shape
        rw [List.length_append,HLN.q5,List.length_singleton] at e
        subst e
        have j:=HJA.out _ _ _ rJ k2 k3
        exact hK.out _ _ ⟨⟨_,_,_,_,_,_,rfl,rfl,rfl,j,rD.app3 k1 k2 (k3 _ Yd) k4 k5⟩,fun h=>flX h⟩
      · rintro W hS c5 c11 c16 ⟨A0,c0,A1,c1,A2,c2,rfl,rfl,rfl,rJ,rD⟩
        clear hS
        refine gvN ?_;(repeat refine flA ?_);refine flN ?_
        refine flC fun K hK=>?_
        have X:=((HJ.out _ _).1 rJ).2.2.1
        have f0:=Bl.fr X 4
        have r0:=Bl.ld X 4 rfl
        go_simp
        clear f0 r0 X
        obtain ⟨j,k3,hbn⟩:=HJX.out _ _ 4 (.slice A0 (Kn+1) c0) rJ
        exact hK.out undef _ ⟨⟨_,_,_,_,_,_,rfl,rfl,rfl,j,rD.keepT (k3 _ Yd) (k3 _ Yd) hbn⟩,fun h=>flX h⟩
      · rintro W hS c5 c11 c16 c18 ⟨A0,c0,A1,c1,A2,c2,rfl,rfl,rfl,rJ,rD⟩
        clear hS
        refine gvN ?_;(repeat refine flA ?_);refine flN ?_
        refine flC fun K hK=>?_
        have X:=((HJ.out _ _).1 rJ).2.2.1
        have f0:=Bl.fr X 5
        have r0:=Bl.ld X 5 rfl
        go_simp
        clear f0 r0 X
        obtain ⟨j,k3,hbn⟩:=HJX.out _ _ 5 (.slice A1 (Kn+1) c1) rJ
        exact hK.out undef _ ⟨⟨_,_,_,_,_,_,rfl,rfl,rfl,j,rD.keepT (k3 _ Yd) (k3 _ Yd) hbn⟩,fun h=>flX h⟩
      · rintro W hS c5 c11 c16 c18 c20 ⟨A0,c0,A1,c1,A2,c2,rfl,rfl,rfl,rJ,rD⟩
        clear hS
        refine gvN ?_;(repeat refine flA ?_);refine flN ?_
        refine flC fun K hK=>?_
        have X:=((HJ.out _ _).1 rJ).2.2.1
        have f0:=Bl.fr X 6
        have r0:=Bl.ld X 6 rfl
        go_simp
        clear f0 r0 X
        obtain ⟨j,k3,hbn⟩:=HJX.out _ _ 6 (.slice A2 (Kn+1) c2) rJ
        exact hK.out undef _ ⟨⟨_,_,_,_,_,_,rfl,rfl,rfl,j,rD.keepT (k3 _ Yd) (k3 _ Yd) hbn⟩,fun h=>flX h⟩
      rintro W hS c5 c11 c16 c18 c20 c22 ⟨A0,c0,A1,c1,A2,c2,rfl,rfl,rfl,rJ,rD⟩ v4 - v10 - v14 - v15 -
      clear hS
      refine gvN ?_;(repeat refine flA ?_);refine flN ?_
      have h:=(HJ.out _ _).1 rJ
      go_wp2_with fail
      case roundEnd=>exact ⟨⟨k+1,Kn+1,_,_,_,_,_,_,A9,Ab9,Ac9,A0,A1,A2,c9,cb9,cc9,c0,c1,c2,by go_num,Yo,(by have:=HKn.out;omega),(by have h:=L3.next HL3.out HX.q1;rw [<- HX.p0.1,<- HX.p0.2.1] at h;exact h),h.1,h.2.2.1,h.2.2.2.1,h.2.2.2.2,rD⟩,by simp [intOf];omega⟩
   obtain rfl:k=m:=by omega
   have dk:¬ (k:Int)<(k:Int):=Yo
   obtain ⟨l0,l1,l2,l3⟩:=HC.out _ H.p0
   have HE:Hid ((⟨n,la,lb,lc,ld,le,lf⟩:LPx)=makeX p):=by have h:=L3.all (p:=p) (by rw [HF.p1];exact HL3.out);rw [HF.q2] at h;exact h
   clear HL3
   have y0:=Bl.ld H.p1 0 rfl
   have y1:=Bl.ld H.p1 1 rfl
   have y2:=Bl.ld H.p1 2 rfl
   have y3:=Bl.ld H.p1 3 rfl
   have y4:=Bl.ld H.p1 4 rfl
   have y5:=Bl.ld H.p1 5 rfl
   have y6:=Bl.ld H.p1 6 rfl
   have X9:=HR0.out.keep H.p0
   have f0:=Bl.fr X9 0
   have f1:=Bl.fr X9 1
   have f2:=Bl.fr X9 2
   have f3:=Bl.fr X9 3
   have f4:=Bl.fr X9 4
   have f5:=Bl.fr X9 5
   have f6:=Bl.fr X9 6
   have r0:=Bl.ld X9 0 rfl
   have r1:=Bl.ld X9 1 rfl
   have r2:=Bl.ld X9 2 rfl
   have r3:=Bl.ld X9 3 rfl
   have r4:=Bl.ld X9 4 rfl
   have r5:=Bl.ld X9 5 rfl
   have r6:=Bl.ld X9 6 rfl
   have hX9:=Lib.hid X9
   clear X9
   go_wp2_with fail
   clear f0 r0 f1 r1 f2 r2 f3 r3 f4 r4 f5 r5 f6 r6 y0 y1 y2 y3 y4 y5 y6 l0 l1 l2 l3
   try simp only [Exit.inBlock,Exit.then]
   refine ret_bl (hX9.out.set7 rfl _ _ _ _ _ _ _) (fun W hW=>by have d0:=hW 0 _ rfl;have d1:=hW 1 _ rfl;have d2:=hW 2 _ rfl;have d3:=hW 3 _ rfl;have d4:=hW 4 _ rfl;have d5:=hW 5 _ rfl;have d6:=hW 6 _ rfl;simp [results,Tryz.results85,go_sem,d0,d1,d2,d3,d4,d5,d6];try rfl) rfl ?_
   have kk:∀ T,26≠T->KeepT T wr (cells7 wr gR (.int .i64 (n:Int)) (.slice Aa Kn ca) (.slice Ab Kn cb) (.slice Ac Kn cc) (.slice Ad Kn cd) (.slice Ae Kn ce) (.slice Af Kn cf)):=fun T hT=>hX9.out.keep7 hT (.int .i64 (n:Int)) (.slice Aa Kn ca) (.slice Ab Kn cb) (.slice Ac Kn cc) (.slice Ad Kn cd) (.slice Ae Kn ce) (.slice Af Kn cf)
   have hbz:=below7 (Yb HBW.out H.p0) (Nat.le_of_lt hgl) (.int .i64 (n:Int)) (.slice Aa Kn ca) (.slice Ab Kn cb) (.slice Ac Kn cc) (.slice Ad Kn cd) (.slice Ae Kn ce) (.slice Af Kn cf)
   have hbw:=HBW.out
   refine ⟨_,rfl,?_,hbz⟩
   rw [<- HE.out]
   exact ⟨⟨(n:Int),⟨Aa,Kn,ca⟩,⟨Ab,Kn,cb⟩,⟨Ac,Kn,cc⟩,⟨Ad,Kn,cd⟩,⟨Ae,Kn,ce⟩,⟨Af,Kn,cf⟩⟩,rfl,rfl,((H.p2.from hbw).keepT (kk _ Yd) (kk _ Yd) (kk _ Yd) hbz).gx,(Rr.keepT H.p3.1 (kk _ Yd)).rv,(Rr.keepT H.p3.2.1 (kk _ Yd)).rv,H.p4.fin hbw (kk _ Yd) (kk _ Yd) hbz,H.p5.fin hbw (kk _ Yd) (kk _ Yd) hbz,H.p6.fin hbw (kk _ Yd) (kk _ Yd) hbz⟩
end I
end
end
end Go.Proofs.YtaajajngnmaggaaGreat
