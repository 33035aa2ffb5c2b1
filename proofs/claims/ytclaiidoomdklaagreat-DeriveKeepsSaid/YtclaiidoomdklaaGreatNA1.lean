import Derived.Test.YtclaiidoomdklaaGreatM21
set_option maxRecDepth 100000
set_option maxHeartbeats 8000000
set_option linter.unusedVariables false
set_option linter.unusedSimpArgs false
namespace Go.Proofs.YtclaiidoomdklaaGreat
section
namespace Pl
theorem sg_not (b:Bool) (n:Nat):sg (!b) n=-sg b n:=by cases b<;>simp [sg]
theorem cmpZ_sub (x y:Int):signZ (x - y)=cmpZ x y:=by unfold signZ cmpZ;split<;>(try split)<;>(try split)<;>(try split)<;>omega
end Pl
end
section
namespace I
open Go Go.RowKit Go.Proofs Pl
theorem neg_d {w:World} {L:Nat} {a:Value} {x:Int} (ha:Zd w L a x) (hL:L<=1099511627776):
 Calls Tryz.prog 120 #[a] w fun e w'=>∃ v,e=.returned v/\Zd w' L v (-x)/\Yg w w':=by
 obtain ⟨b,s,n,rfl,hs,rfl⟩:=ha.open
 have hm:=fun W (hb:Yg w W)=>form_d (!b) (hs.keep hb) hL
 simp only [sg_not] at hm
 have HM:=Lib.hid hm
 clear hm hs
 go_enter Tryz.func120,Tryz.ntmps120
 go_wp2_with fail
 refine (HM.out _ (by go_grown)).mono ?_;rintro e w2 ⟨v2,rfl,h2,hb2⟩
 obtain ⟨p,A,la,c,rfl,H2⟩:=h2.parts
 have N2:=(new2 58 58 w (.bool b) s (.bool false) (.slice none 0 0)).keep hb2
 obtain ⟨c0,c1,f0,f1⟩:=N2.2.1.facts
 have HX:=Yh2 N2 h2
 clear N2 h2 H2 HM hb2
 go_wp2_with fail
 refine ret_bx HX.p0.2.1 (fun W d0 d1=>by simp [results,Tryz.results120,go_sem,d0,d1]) rfl ?_
 exact ⟨_,rfl,HX.q1.put HX.p0.2.1 _ _,(HX.p0.st _ _).2.2⟩
end I
end
section
namespace I
open Go Go.RowKit Go.Proofs Pl
theorem sub_d {w:World} {L1 L2:Nat} {a b:Value} {x y:Int} (ha:Zd w L1 a x) (hb:Zd w L2 b y) (h1:L1<=1073741824) (h2:L2<=1073741824):
 Calls Tryz.prog 148 #[a,b] w fun e w'=>∃ v,e=.returned v/\Zd w' (L1+L2+1) v (x - y)/\Yg w w':=by
 have hn:=fun W (hw:Yg w W)=>neg_d (hb.keep hw) (by omega)
 have hadd:=fun w1 v1 (hw:Yg w w1) (h:Zd w1 L2 v1 (-y))=>add_d (ha.keep hw) h h1 h2
 have HA:=Yh2 hn hadd
 clear hn hadd h1 h2
 rw [Int.sub_eq_add_neg]
 obtain ⟨p,s,m,rfl,-,-⟩:=ha.open
 obtain ⟨q,t,n,rfl,-,-⟩:=hb.open
 have N0:=new3 58 58 58 w (.bool p) s (.bool q) t (.bool false) (.slice none 0 0)
 have hpq:True:=trivial
 clear ha hb
 go_enter Tryz.func148,Tryz.ntmps148
 go_upto_region 1 with (fail)
 generalize ((w.alloc _).alloc _).alloc _=W0 at N0 ⊢
 have HN:=Lib.hid N0
 have HS0:=(N0.drew 1).ld
 have HS1:=HS0
 have HS2:=HS0
 have HS3:=HS0
 clear N0 hpq
 go_region_held3 (fun W=>W.cell? ⟨w.heap.size,0,none⟩=some (.bool p)/\W.cell? ⟨w.heap.size,1,none⟩=some s/\W.cell? ⟨w.heap.size+1,0,none⟩=some (.bool q)/\W.cell? ⟨w.heap.size+1,1,none⟩=some t) (first | with_reducible exact HS1 | with_reducible exact HS2 | with_reducible exact HS3 | exact HS0)
  (first
   | (go_at_call 78;refine H1.q1.mono ?_;rintro e w2 ⟨v2,rfl,h2,hb2⟩;obtain ⟨pz,A,la,c,rfl,H2'⟩:=h2.parts;have N2:=H1.p0.keep hb2;have HS2:=N2.ld;have HS3:=(N2.st (.bool pz) (.slice A la c)).ld;obtain ⟨k0,k1,k2,k3⟩:=N2.2.2.1.facts;have H2:=Yh2 N2 h2;clear N2 h2 H2' hb2)
   | (go_at_call 120;refine (HA.p0 _ (by exact Yb HN.q3 (below_dr _ 1))).mono ?_;rintro e w1 ⟨v1,rfl,h1,hb1⟩;have N1:=(HN.out.drew 1).keep hb1;have HS1:=N1.ld;have H1:=Yh2 N1 (HA.q1 _ _ (Yb HN.q3 (Yb (below_dr _ 1) hb1)) h1);clear N1 h1 hb1))
 go_wp2_with fail
 refine ret_bx H2.p0.2.2.1 (fun W d0 d1=>by simp [results,Tryz.results148,go_sem,d0,d1]) rfl ?_
 exact ⟨_,rfl,H2.q1.put H2.p0.2.2.1 _ _,(H2.p0.st _ _).2.2.2⟩
theorem cmp_d {w:World} {L1 L2:Nat} {a b:Value} {x y:Int} (ha:Zd w L1 a x) (hb:Zd w L2 b y) (h1:L1<=1073741824) (h2:L2<=1073741824):
 Calls Tryz.prog 88 #[a,b] w fun e w'=>e=.returned (.int .i64 (cmpZ x y))/\Yg w w':=by
 have hs:=fun W (hw:Yg w W)=>sub_d (ha.keep hw) (hb.keep hw) h1 h2
 have hg:=fun w1 v1 (h:Zd w1 (L1+L2+1) v1 (x - y))=>sign_d h
 simp only [cmpZ_sub] at hg
 have HA:=Yh2 hs hg
 obtain ⟨p,s,m,rfl,-,-⟩:=ha.open
 obtain ⟨q,t,n,rfl,-,-⟩:=hb.open
 clear hs hg ha hb h1 h2
 go_enter Tryz.func88,Tryz.ntmps88
 go_wp2_with fail
 refine (HA.p0 _ (by go_grown)).mono ?_;rintro e w1 ⟨v1,rfl,h1,hb1⟩
 have HM:=Yh2 (HA.q1 _ _ h1) (Yb (Yb (Ya w _) (Ya _ _)) hb1)
 clear h1 HA hb1
 go_wp2_with fail
 refine HM.p0.mono ?_;rintro e w2 ⟨rfl,hb2⟩
 have HB:=Lib.hid (Yb HM.q1 hb2)
 clear hb2 HM
 go_wp2_with fail
 go_ret
 exact ⟨rfl,HB.out⟩
end I
end
section
section
open Go Go.RowKit Go.Proofs Pl
def cmpQ (q r:Rat):Int:=if q<r then -1 else if q=r then 0 else 1
theorem cmpQ_z (q r:Rat):cmpZ (q.num*r.den) (r.num*q.den)=cmpQ q r:=by
 unfold cmpZ cmpQ
 by_cases h:q<r
 · rw [if_pos h,if_pos ((Rat.lt_iff q r).1 h)]
 · rw [if_neg h,if_neg (fun h2=>h ((Rat.lt_iff q r).2 h2))]
   by_cases h2:q=r
   · rw [if_pos h2,if_pos (Rat.eq_iff_mul_eq_mul.1 h2)]
   · rw [if_neg h2,if_neg (fun h3=>h2 (Rat.eq_iff_mul_eq_mul.2 h3))]
end
namespace I
section
open Go Go.RowKit Go.Proofs Pl
theorem cmp_e {w:World} {L M:Nat} {a u:Value} {q r:Rat} (ha:Qe w L a q) (hu:Qe w M u r) (h0:0<L) (h0':0<M) (h1:L<=268435456) (h2:M<=268435456):
 Calls Tryz.prog 31 #[a,u] w fun e w'=>e=.returned (.int .i64 (cmpQ q r))/\Yg w w':=by
 obtain ⟨p,A,l,c,B,k,d,rfl,hz,hd⟩:=ha.open
 obtain ⟨p2,A2,l2,c2,B2,k2,d2,rfl,hz2,hd2⟩:=hu.open
 rw [<- cmpQ_z q r]
 have HL:=Yh4 h0 h0' h1 h2
 have S0:=Yh5 hz hd hz2 hd2 (Below.refl w.heap.size w)
 clear hz hd hz2 hd2 h0 h0' h1 h2 ha hu
 go_enter Tryz.func31,Tryz.ntmps31
 go_upto_region 1 with (fail)
 have S1:=Yh7 (S0.p0.keep ((Yb (Ya w (.cells #[.bool p,.slice A l c,.slice B k d] 60)) (Ya _ (.cells #[.bool p2,.slice A2 l2 c2,.slice B2 k2 d2] 60))))) (S0.p1.keep ((Yb (Ya w (.cells #[.bool p,.slice A l c,.slice B k d] 60)) (Ya _ (.cells #[.bool p2,.slice A2 l2 c2,.slice B2 k2 d2] 60))))) (S0.p2.keep ((Yb (Ya w (.cells #[.bool p,.slice A l c,.slice B k d] 60)) (Ya _ (.cells #[.bool p2,.slice A2 l2 c2,.slice B2 k2 d2] 60))))) (S0.p3.keep ((Yb (Ya w (.cells #[.bool p,.slice A l c,.slice B k d] 60)) (Ya _ (.cells #[.bool p2,.slice A2 l2 c2,.slice B2 k2 d2] 60))))) ((B3.new 60 w (.bool p) (.slice A l c) (.slice B k d)).alloc (.cells #[.bool p2,.slice A2 l2 c2,.slice B2 k2 d2] 60)) (B3.new1 60 w (.cells #[.bool p,.slice A l c,.slice B k d] 60) (.bool p2) (.slice A2 l2 c2) (.slice B2 k2 d2)) (Yb (S0.q4) ((Yb (Ya w (.cells #[.bool p,.slice A l c,.slice B k d] 60)) (Ya _ (.cells #[.bool p2,.slice A2 l2 c2,.slice B2 k2 d2] 60)))))
 clear S0
 generalize (w.alloc _).alloc _=W0 at S1 ⊢
 go_upto_region 1 with (fail)
 have S2:=Yh7 (S1.p0.keep (below_dr _ 1)) (S1.p1.keep (below_dr _ 1)) (S1.p2.keep (below_dr _ 1)) (S1.p3.keep (below_dr _ 1)) (S1.p4.keep (below_dr _ 1)) (S1.p5.keep (below_dr _ 1)) (Yb (S1.q6) (below_dr _ 1))
 refine wp_region_held_drew (S:=fun W=>Yc3 W w.heap.size (.bool p) (.slice A l c) (.slice B k d) (Ye3 W (w.heap.size+1) (.bool p2) (.slice A2 l2 c2) (.slice B2 k2 d2))) (by kernel_rfl) ⟨S2.p4.facts.1,S2.p4.facts.2.1,S2.p4.facts.2.2.1,S2.p5.facts.1,S2.p5.facts.2.1,S2.p5.facts.2.2.1⟩ (fun Hh=>?_)
 refine rgRun 8 [0,1,2,3,5,6,7,8] Hh fun K hK=>?_
 repeat refine rgA ?_
 refine hK _ _ ?_;clear hK K
 refine rgO 4 fun K hK=>?_
 go_simp
 go_at_call 79;refine (times_d S2.p0 S2.p3 (by have:=HL.out;omega) (by have:=HL.out;omega)).mono ?_;rintro e w3 ⟨v,rfl,h,hb⟩
 obtain ⟨pf,Af,lf,cf,rfl,-⟩:=h.parts
 have S3:=Yh8 (S2.p0.keep (hb)) (S2.p1.keep (hb)) (S2.p2.keep (hb)) (S2.p3.keep (hb)) (S2.p4.keep (hb)) (S2.p5.keep (hb)) h (Yb (S2.q6) (hb))
 clear h hb Hh
 go_wp2_with fail
 refine rgK hK ⟨S3.p4.facts.1,S3.p4.facts.2.1,S3.p4.facts.2.2.1,S3.p5.facts.1,S3.p5.facts.2.1,S3.p5.facts.2.2.1⟩ fun Hh=>?_;clear hK K
 refine rgO 9 fun K hK=>?_
 go_simp
 go_at_call 79;refine (times_d S3.p2 S3.p1 (by have:=HL.out;omega) (by have:=HL.out;omega)).mono ?_;rintro e w4 ⟨v,rfl,h,hb⟩
 obtain ⟨pg,Ag,lg,cg,rfl,-⟩:=h.parts
 have S4:=Yh9 (S3.p0.keep (hb)) (S3.p1.keep (hb)) (S3.p2.keep (hb)) (S3.p3.keep (hb)) (S3.p4.keep (hb)) (S3.p5.keep (hb)) (S3.p6.keep (hb)) h (Yb (S3.q7) (hb))
 clear h hb Hh
 go_wp2_with fail
 refine rgK hK ⟨S4.p4.facts.1,S4.p4.facts.2.1,S4.p4.facts.2.2.1,S4.p5.facts.1,S4.p5.facts.2.1,S4.p5.facts.2.2.1⟩ fun Hh=>?_;clear hK K
 refine rgO 10 fun K hK=>?_
 go_simp
 go_at_call 88;refine (cmp_d S4.p6 S4.p7 (by have:=HL.out;omega) (by have:=HL.out;omega)).mono ?_;rintro e w5 ⟨rfl,hb⟩
 have S5:=Yh9 (S4.p0.keep (hb)) (S4.p1.keep (hb)) (S4.p2.keep (hb)) (S4.p3.keep (hb)) (S4.p4.keep (hb)) (S4.p5.keep (hb)) (S4.p6.keep (hb)) (S4.p7.keep (hb)) (Yb (S4.q8) (hb))
 clear hb Hh
 go_wp2_with fail
 refine rgK hK ⟨S5.p4.facts.1,S5.p4.facts.2.1,S5.p4.facts.2.2.1,S5.p5.facts.1,S5.p5.facts.2.1,S5.p5.facts.2.2.1⟩ fun Hh=>?_;clear hK K
 refine rgT 11 Hh ?_
 refine Yw ?_
 clear Hh
 go_wp2_with fail
 go_ret
 exact ⟨rfl,S5.q8⟩
end
end I
end
section
section
open Go Go.RowKit Go.Proofs Pl
def dotK (g x:Nat->Rat):Nat->Rat
 | 0=>0
 | k+1=>dotK g x k+g k*x k
theorem dotK_congr {g g' x x':Nat->Rat}:∀ {n:Nat},(∀ k,k<n->g k=g' k/\x k=x' k)->dotK g x n=dotK g' x' n
 | 0,_=>rfl
 | n+1,h=>by
  unfold dotK
  rw [dotK_congr (n:=n) fun k hk=>h k (by omega),(h n (by omega)).1,(h n (by omega)).2]
theorem dotK_none {g x:Nat->Rat}:∀ {n:Nat},(∀ k,k<n->g k=0)->dotK g x n=0
 | 0,_=>rfl
 | n+1,h=>by
  unfold dotK
  rw [dotK_none (n:=n) fun k hk=>h k (by omega),h n (by omega),Rat.zero_mul,Rat.add_zero]
theorem dotK_one {g x:Nat->Rat} {i:Nat} (h1:g i=1):∀ {n:Nat},i<n->(∀ k,k<n->k≠i->g k=0)->dotK g x n=x i
 | 0,h,_=>by omega
 | n+1,h,h0=>by
  unfold dotK
  by_cases e:i=n
  · subst e
    rw [dotK_none fun k hk=>h0 k (by omega) (by omega),h1,Rat.one_mul,Rat.zero_add]
  · rw [dotK_one h1 (by omega) fun k hk=>h0 k (by omega),h0 n (by omega) (by omega),Rat.zero_mul,Rat.add_zero]
def allX (l:LPx) (fs:List Fx) (i:Nat):Rat:=
 if (i:Int)<l.n then (fs.getD i ⟨false,[],[]⟩).q else dotK (fun c=>getV (qT (l.cols.getD c [])) (i - l.n)) (fun c=>(fs.getD c ⟨false,[],[]⟩).q) l.n.toNat
theorem sum_range (f:Nat->Rat):∀ (n c:Nat),c<n->sumAt ((List.range n).map fun (i:Nat)=>((i:Int),f i)) (c:Int)=f c
 | 0,c,h=>by omega
 | n+1,c,h=>by
  rw [List.range_succ,List.map_append,sumAt_app]
  by_cases e:c=n
  · subst e
    rw [sumAt_none]
    · simp [sumAt,Rat.add_zero,Rat.zero_add]
    · intro t ht
      obtain ⟨i,hi,rfl⟩:=List.mem_map.1 ht
      have:=List.mem_range.1 hi
      show (i:Int)≠c
      omega
  · rw [sum_range f n c (by omega)]
    have:¬ (n:Int)=c:=by omega
    simp [sumAt,this,Rat.add_zero]
theorem dot_bound {l:LPx} {fs:List Fx} {i:Nat} (hn:(fs.length:Int)=l.n):
 dotK (fun c=>getV (mkV (rowT l i)) c) (fun c=>(fs.getD c ⟨false,[],[]⟩).q) fs.length=allX l fs i:=by
 have hg:∀ c:Nat,getV (mkV (rowT l i)) c=sumAt (rowT l i) c:=fun c=>by
  unfold getV;rw [if_pos (by omega),sumAt_mk _ _ (by omega)]
 unfold allX
 have hN:l.n.toNat=fs.length:=by omega
 split
 · rename_i h
   refine dotK_one (g:=fun c=>getV (mkV (rowT l i)) c) ?_ (by omega) fun k hk hne=>?_
   · show getV (mkV (rowT l i)) _=1
     rw [hg];unfold rowT;rw [if_pos h];simp [sumAt,Rat.add_zero]
   · show getV (mkV (rowT l i)) _=0
     rw [hg];unfold rowT;rw [if_pos h]
     have:¬ (i:Int)=k:=by omega
     simp [sumAt,this,Rat.add_zero]
 · rename_i h
   rw [hN]
   refine dotK_congr fun k hk=>⟨?_,rfl⟩
   rw [hg];unfold rowT;rw [if_neg h,hN]
   exact sum_range (fun i_1=>getV (qT (l.cols.getD i_1 [])) (↑i - l.n)) _ k hk
end
end
section
namespace I
section
open Go Go.RowKit Go.Proofs Pl
theorem dot_e {w:World} {L M:Nat} {v u:Value} {l:Tms} {fs:List Fx} (hv:Vt w L v l) (hx:Rx w u fs) (h0:0<L) (hL:L<=10000) (hn:l.length<=4096) (hM:∀ f∈fs,f.xs.length<=M/\f.ds.length<=M) (h1:0<M) (h2:M<=10000) (h3:7+fs.length*(7+l.length*(5*L+1)+5*M+1)<=268435456):
 Calls Tryz.prog 87 #[v,u] w fun e w'=>∃ r,e=.returned r/\Qe w' (7+fs.length*(7+l.length*(5*L+1)+5*M+1)) r (dotK (fun c=>getV l c) (fun c=>(fs.getD c ⟨false,[],[]⟩).q) fs.length)/\Yg w w':=by
 obtain ⟨A,cap,rfl,q1,q2⟩:=hx.shape
 obtain ⟨n,hnn⟩:∃ n,fs.length=n:=⟨_,rfl⟩
 rw [hnn] at h3 ⊢
 have hbig:n<=268435456:=Nat.le_trans (Nat.le_trans (Nat.le_mul_of_pos_right n (by omega)) (Nat.le_add_left _ 7)) h3
 obtain ⟨G,hG⟩:∃ G,G=(7+l.length*(5*L+1)):=⟨_,rfl⟩
 rw [<- hG] at h3 ⊢
 have HG:=Lib.hid hG
 have HL:=Yh9 hv hx h0 hL hn hM h1 h2 hnn
 have H3:=Lib.hid h3
 clear hv hx h0 hL hn hM h1 h2 h3 q1 q2 hnn hG
 obtain ⟨X,hX⟩:∃ X:Nat->Rat,X=fun c=>(fs.getD c ⟨false,[],[]⟩).q:=⟨_,rfl⟩
 rw [<- hX]
 have HXX:=Lib.hid hX
 clear hX
 go_enter Tryz.func87,Tryz.ntmps87
 go_upto_region 1 with (fail)
 have S0:=Yh2 (B3.new 60 w (.bool false) (.slice none 0 0) (.slice none 0 0)) (Ya w (.cells #[.bool false,.slice none 0 0,.slice none 0 0] 60))
 generalize w.alloc _=W0 at S0 ⊢
 go_wp2_with fail
 refine (small_e sm_zero).mono ?_;rintro e w1 ⟨u,rfl,h,hb⟩
 obtain ⟨p,A0,l0,c0,B0,m0,d0,rfl⟩:=h.parts
 have S1:=Yh3 (S0.p0.keep hb) h (Yb S0.q1 hb)
 clear h hb S0
 go_upto_region 2 with (fail)
 have hal:=Ya w1 (.cells #[.bool p,.slice A0 l0 c0,.slice B0 m0 d0] 60)
 obtain ⟨g5,hg5⟩:∃ g,g=w1.heap.size:=⟨_,rfl⟩
 have hgw:w.heap.size<g5:=by rw [hg5];exact S1.p0.lt
 have S2:=Yh4 (S1.p0.keep hal) (B3.new 60 w1 (.bool p) (.slice A0 l0 c0) (.slice B0 m0 d0)) (S1.p1.keep hal) (Yb S1.q2 hal)
 clear S1 hal
 rw [<- hg5] at S2 ⊢
 generalize w1.alloc _=W1 at S2 ⊢
 clear hg5
 go_wp2_with fail
 go_loopw [6] (fun i wr=>∃ (k:Nat) (q:Rat) (p:Bool) (A1:Option Addr) (l1 c1:Nat) (B1:Option Addr) (m1 d1:Nat),i=.int .i64 (k:Int)/\k<=n/\Hid (B3 60 wr w.heap.size (.bool false) (.slice none 0 0) (.slice none 0 0)/\B3 60 wr g5 (.bool p) (.slice A1 l1 c1) (.slice B1 m1 d1)/\Qe wr (7+k*(G+5*M+1)) (.agg #[.bool p,.slice A1 l1 c1,.slice B1 m1 d1]) q/\Yg w wr/\q=dotK (fun c=>getV l c) X k)) (fun i _=>n - (intOf i).toNat)
 case atStart=>exact ⟨0,0,p,A0,l0,c0,B0,m0,d0,rfl,by omega,S2.p0,S2.p1,S2.p2.mono (by omega),S2.q3,rfl⟩
 case round=>
  clear S2
  obtain ⟨k,q,p1,A1,l1,c1,B1,m1,d1,rfl,hk,H⟩:=hrel
  by_cases hlt:k<n
  · skip
    have hkx:k<fs.length:=by rw [HL.q8];exact hlt
    obtain ⟨f,hf⟩:∃ f,fs[k]?=some f:=⟨_,List.getElem?_eq_getElem hkx⟩
    have hfm:=List.mem_of_getElem? hf
    obtain ⟨g,off,cap',x,e,hgl,hFv,c0,c1',c2⟩:=HL.p1.at_ hf
    injection e with e1 e2 e3
    subst e1
    have hqv:=hFv.qv (HL.p5 f hfm).1 (HL.p5 f hfm).2
    have hXk:X k=f.q:=by rw [HXX.out];show (fs.getD k _).q=_;rw [List.getD_eq_getElem?_getD,hf];rfl
    have HX:=Yh2 hqv hXk
    have HC:Hid (∀ W,Yg w W->B3 60 W g5 (.bool p1) (.slice A1 l1 c1) (.slice B1 m1 d1)->W.cell? ⟨g,off+k*3,none⟩=some (.bool x.b)/\W.cell? ⟨g,off+k*3+1,none⟩=some (.slice x.A x.l x.k)/\W.cell? ⟨g,off+k*3+2,none⟩=some (.slice x.B x.m x.d)/\Ye3 W g5 (.bool p1) (.slice A1 l1 c1) (.slice B1 m1 d1)):=fun W hb h3=>⟨(hb.cell (p:=⟨g,_,none⟩) hgl).trans c0,(hb.cell (p:=⟨g,_,none⟩) hgl).trans c1',(hb.cell (p:=⟨g,_,none⟩) hgl).trans c2,h3.facts.1,h3.facts.2.1,h3.facts.2.2.1⟩
    have hnext:7+k*(G+5*M+1)+(G+5*M)+1=7+(k+1)*(G+5*M+1):=by have:(k+1)*(G+5*M+1)=k*(G+5*M+1)+(G+5*M+1):=Nat.succ_mul _ _;omega
    have hle:7+(k+1)*(G+5*M+1)<=268435456:=Nat.le_trans (Nat.add_le_add_left (Nat.mul_le_mul_right _ (show k+1<=n by omega)) 7) H3.out
    have HN:=Yh2 hnext hle
    have d0:(k:Int)<(n:Int):=by omega
    clear hf hkx hfm e2 e3 hFv hqv c0 c1' c2 hgl hXk hnext hle cap'
    go_upto_region 5 with (fail)
    refine wp_region_late 11 (by kernel_rfl) (by kernel_rfl) #[false,false,false,false,false,false,false,false,false,false,false,true] (by kernel_rfl) (S:=fun W=>W.cell? ⟨g,off+k*3,none⟩=some (.bool x.b)/\W.cell? ⟨g,off+k*3+1,none⟩=some (.slice x.A x.l x.k)/\W.cell? ⟨g,off+k*3+2,none⟩=some (.slice x.B x.m x.d)/\Ye3 W g5 (.bool p1) (.slice A1 l1 c1) (.slice B1 m1 d1)) (HC.out _ (Yb H.p3 (below_dr _ 1)) (H.p1.keep (below_dr _ 1))) (fun Hh=>?_)
    refine rgRun 7 [0,1,2,4,5,6,7] Hh fun K hK=>?_
    repeat refine rgA ?_
    refine hK _ _ ?_;clear hK K
    have T0:Hid (B3 60 wr.drew w.heap.size (.bool false) (.slice none 0 0) (.slice none 0 0)/\B3 60 wr.drew g5 (.bool p1) (.slice A1 l1 c1) (.slice B1 m1 d1)/\Qe wr.drew (7+k*(G+5*M+1)) (.agg #[.bool p1,.slice A1 l1 c1,.slice B1 m1 d1]) q/\Yg w wr.drew):=⟨H.p0.keep (below_dr _ 1),H.p1.keep (below_dr _ 1),H.p2.keep (below_dr _ 1),Yb H.p3 (below_dr _ 1)⟩
    have HQ:=Lib.hid H.q4
    generalize wr.drew=Wd at T0 Hh ⊢
    clear H
    refine rgO 3 fun K hK=>?_
    go_simp
    go_at_call 27;refine (get_e (HL.p0.keep T0.q3) HL.p2 HL.p3 HL.p4).mono ?_;rintro e w4 ⟨v4,rfl,h,hb⟩
    obtain ⟨p4,A4,l4,c4,B4,m4,d4,rfl⟩:=h.parts
    rw [<- HG.out] at h
    have T1:Hid ((B3 60 w4 w.heap.size (.bool false) (.slice none 0 0) (.slice none 0 0)/\B3 60 w4 g5 (.bool p1) (.slice A1 l1 c1) (.slice B1 m1 d1)/\Qe w4 (7+k*(G+5*M+1)) (.agg #[.bool p1,.slice A1 l1 c1,.slice B1 m1 d1]) q/\Yg w w4)/\Qe w4 G (.agg #[.bool p4,.slice A4 l4 c4,.slice B4 m4 d4]) (getV l (k:Int))):=⟨⟨T0.p0.keep hb,T0.p1.keep hb,T0.p2.keep hb,Yb T0.q3 hb⟩,h⟩
    clear h hb T0 Hh
    go_wp2_with fail
    refine rgK hK (HC.out _ T1.p0.2.2.2 T1.p0.2.1) fun Hh=>?_;clear hK K
    refine rgO 8 fun K hK=>?_
    go_simp
    go_at_call 28;refine (of_e (a:=x.num) (HX.p0.keep T1.p0.2.2.2) HL.p6 (by have:=HL.p7;omega)).mono ?_;rintro e w5 ⟨v5,rfl,h,hb⟩
    obtain ⟨p5,A5,l5,c5,B5,m5,d5,rfl⟩:=h.parts
    have T2:Hid ((B3 60 w5 w.heap.size (.bool false) (.slice none 0 0) (.slice none 0 0)/\B3 60 w5 g5 (.bool p1) (.slice A1 l1 c1) (.slice B1 m1 d1)/\Qe w5 (7+k*(G+5*M+1)) (.agg #[.bool p1,.slice A1 l1 c1,.slice B1 m1 d1]) q/\Yg w w5)/\Qe w5 G (.agg #[.bool p4,.slice A4 l4 c4,.slice B4 m4 d4]) (getV l (k:Int))/\Qe w5 (5*M) (.agg #[.bool p5,.slice A5 l5 c5,.slice B5 m5 d5]) f.q):=⟨⟨T1.p0.1.keep hb,T1.p0.2.1.keep hb,T1.p0.2.2.1.keep hb,Yb T1.p0.2.2.2 hb⟩,T1.q1.keep hb,h⟩
    clear h hb T1 Hh
    go_wp2_with fail
    refine rgK hK (HC.out _ T2.p0.2.2.2 T2.p0.2.1) fun Hh=>?_;clear hK K
    refine rgO 9 fun K hK=>?_
    go_simp
    go_at_call 26;refine (mul_e (L:=G) (M:=5*M) T2.p1 T2.q2 (by have:=HN.p0;have:=HN.q1;have:=HG.out;have:=HL.p6;omega) (by have:=HN.p0;have:=HN.q1;have:=HG.out;have:=HL.p6;omega) (by have:=HN.p0;have:=HN.q1;have:=HG.out;have:=HL.p6;omega) (by have:=HN.p0;have:=HN.q1;have:=HG.out;have:=HL.p6;omega)).mono ?_;rintro e w6 ⟨v6,rfl,h,hb⟩
    obtain ⟨p6,A6,l6,c6,B6,m6,d6,rfl⟩:=h.parts
    have T3:Hid ((B3 60 w6 w.heap.size (.bool false) (.slice none 0 0) (.slice none 0 0)/\B3 60 w6 g5 (.bool p1) (.slice A1 l1 c1) (.slice B1 m1 d1)/\Qe w6 (7+k*(G+5*M+1)) (.agg #[.bool p1,.slice A1 l1 c1,.slice B1 m1 d1]) q/\Yg w w6)/\Qe w6 (G+5*M) (.agg #[.bool p6,.slice A6 l6 c6,.slice B6 m6 d6]) (getV l (k:Int)*f.q)):=⟨⟨T2.p0.1.keep hb,T2.p0.2.1.keep hb,T2.p0.2.2.1.keep hb,Yb T2.p0.2.2.2 hb⟩,h⟩
    clear h hb T2 Hh
    go_wp2_with fail
    refine rgK hK (HC.out _ T3.p0.2.2.2 T3.p0.2.1) fun Hh=>?_;clear hK K
    refine rgO 10 fun K hK=>?_
    go_simp
    go_at_call 25;refine (add_e (L:=7+k*(G+5*M+1)) (M:=G+5*M) T3.p0.2.2.1 T3.q1 (by have:=HN.p0;have:=HN.q1;have:=HG.out;have:=HL.p6;omega) (by have:=HN.p0;have:=HN.q1;have:=HG.out;have:=HL.p6;omega) (by have:=HN.p0;have:=HN.q1;have:=HG.out;have:=HL.p6;omega) (by have:=HN.p0;have:=HN.q1;have:=HG.out;have:=HL.p6;omega)).mono ?_;rintro e w7 ⟨v7,rfl,h,hb⟩
    obtain ⟨p7,A7,l7,c7,B7,m7,d7,rfl⟩:=h.parts
    rw [HN.p0] at h
    have T4:Hid ((B3 60 w7 w.heap.size (.bool false) (.slice none 0 0) (.slice none 0 0)/\B3 60 w7 g5 (.bool p1) (.slice A1 l1 c1) (.slice B1 m1 d1)/\Qe w7 (7+k*(G+5*M+1)) (.agg #[.bool p1,.slice A1 l1 c1,.slice B1 m1 d1]) q/\Yg w w7)/\Qe w7 (7+(k+1)*(G+5*M+1)) (.agg #[.bool p7,.slice A7 l7 c7,.slice B7 m7 d7]) (q+getV l (k:Int)*f.q)):=⟨⟨T3.p0.1.keep hb,T3.p0.2.1.keep hb,T3.p0.2.2.1.keep hb,Yb T3.p0.2.2.2 hb⟩,h⟩
    clear h hb T3 Hh
    go_wp2_with fail
    refine rgK hK (HC.out _ T4.p0.2.2.2 T4.p0.2.1) fun Hh=>?_;clear hK K
    refine Yw ?_
    clear Hh
    refine late_go (T:=fun _=>True) #[true,true,true,true,true,true,true,true,true,true,true,false] 1 (by kernel_rfl) (by kernel_rfl) ?_
    obtain ⟨s0,s1,s2,f0,f1,f2⟩:=T4.p0.2.1.facts
    refine rgO 11 fun K hK=>?_
    go_simp
    refine rgK hK trivial fun _=>?_;clear hK K
    refine Yw ?_
    clear s0 s1 s2 f0 f1 f2
    have hb9:=Lib.hid (T4.p0.2.1.below T4.p0.2.2.2 (Nat.le_of_lt hgw) (.bool p7) (.slice A7 l7 c7) (.slice B7 m7 d7))
    go_wp2_with fail
    case roundEnd=>exact ⟨⟨k+1,q+getV l (k:Int)*f.q,p7,A7,l7,c7,B7,m7,d7,by go_num,by omega,T4.p0.1.other3 (Nat.ne_of_gt hgw) _ _ _,T4.p0.2.1.set _ _ _,Qd.put3 T4.q1 T4.p0.2.1 _ _ _,hb9.out,by rw [HQ.out,<- HX.q1];rfl⟩,by simp [intOf];omega⟩
  obtain rfl:k=n:=by omega
  have d0:¬ (k:Int)<(k:Int):=by omega
  have R:=Yh4 H.p0 H.p2 H.p3 H.q4
  obtain ⟨s0,s1,s2,-,-,-⟩:=H.p1.facts
  obtain ⟨r0,r1,r2,f0,f1,f2⟩:=H.p0.facts
  clear H
  go_wp2_with fail
  refine ret_b3 R.p0 (fun W d0 d1 d2=>by simp [results,Tryz.results87,go_sem,d0,d1,d2];try rfl) rfl ?_
  exact ⟨_,rfl,by rw [<- R.q3];exact Qd.put3 R.p1 R.p0 _ _ _,R.p0.below R.p2 (Nat.le_refl _) _ _ _⟩
end
end I
end
section
section
open Go Go.RowKit Go.Proofs Pl
namespace I
theorem kept1_d {w:World} {v u:Value} {c:Cx} {q:Rat} {L:Nat} (h:Cv w v c) (hu:Qe w L u q) (hs:c.s=1) (hr:c.r.xs.length<=211/\c.r.ds.length<=211) (h0:0<L) (hL:L<=268435456):
 Calls Tryz.prog 86 #[v,u] w fun e w'=>e=.returned (.bool (decide (cmpQ q c.r.q<=0)))/\Yg w w':=by
 obtain ⟨⟨s,E,n,k,b,A,l,j,B,m,d⟩,rfl,hs2,ht,hf⟩:=h
 obtain rfl:s=1:=Eq.trans (show s=c.s from hs2) hs
 have hf:Fv w (.agg #[.bool b,.slice A l j,.slice B m d]) c.r:=hf
 obtain ⟨p,A2,l2,j2,B2,m2,d2,rfl⟩:=hu.parts
 have HS:=Yh4 (hf.qv hr.1 hr.2) hu h0 hL
 clear hf hu h0 hL ht hr hs2 hs
 change Calls Tryz.prog 86 #[.agg #[.int .i64 1,.slice E n k,.bool b,.slice A l j,.slice B m d],.agg #[.bool p,.slice A2 l2 j2,.slice B2 m2 d2]] w _
 go_enter Tryz.func86,Tryz.ntmps86
 go_upto_region 1 with (fail)
 have hb0:=Yb (Ya w (.cells #[.int .i64 1,.slice E n k,.bool b,.slice A l j,.slice B m d] 39)) (Ya _ (.cells #[.bool p,.slice A2 l2 j2,.slice B2 m2 d2] 60))
 have X0:=Lib.hid ((Bl.new w 39 [.int .i64 1,.slice E n k,.bool b,.slice A l j,.slice B m d]).alloc (.cells #[.bool p,.slice A2 l2 j2,.slice B2 m2 d2] 60))
 have X1:=Lib.hid (Bl.new1 w (.cells #[.int .i64 1,.slice E n k,.bool b,.slice A l j,.slice B m d] 39) 60 [.bool p,.slice A2 l2 j2,.slice B2 m2 d2])
 have HA:=Yh3 (HS.p0.keep hb0) (HS.p1.keep hb0) HS.q2
 have HB0:=Lib.hid hb0
 clear hb0 HS
 generalize (w.alloc _).alloc _=W0 at X0 X1 HA HB0 ⊢
 have HC:Hid (∀ W,Yg W0 W->Yc5 W w.heap.size (.int .i64 1) (.slice E n k) (.bool b) (.slice A l j) (.slice B m d) (Ye3 W (w.heap.size+1) (.bool p) (.slice A2 l2 j2) (.slice B2 m2 d2))):=fun W hb=>⟨Bl.ld (X0.out.keep hb) 0 rfl,Bl.ld (X0.out.keep hb) 1 rfl,Bl.ld (X0.out.keep hb) 2 rfl,Bl.ld (X0.out.keep hb) 3 rfl,Bl.ld (X0.out.keep hb) 4 rfl,Bl.ld (X1.out.keep hb) 0 rfl,Bl.ld (X1.out.keep hb) 1 rfl,Bl.ld (X1.out.keep hb) 2 rfl⟩
 refine wp_region_held_drew (S:=fun W=>Yc5 W w.heap.size (.int .i64 1) (.slice E n k) (.bool b) (.slice A l j) (.slice B m d) (Ye3 W (w.heap.size+1) (.bool p) (.slice A2 l2 j2) (.slice B2 m2 d2))) (by kernel_rfl) (HC.out _ (below_d _)) (fun Hh=>?_)
 have B1:=Lib.hid (below_d W0)
 generalize W0.drew=Wd at B1 Hh ⊢
 refine rgFree [0,1,2] [false,false,false,false,false,false] (fun HFR=>?_)
 refine rgU 0 6 HFR Hh ?_
 refine rgU 1 7 HFR Hh ?_
 refine rgU 2 8 HFR Hh ?_
 refine rgO 3 fun K hK=>?_
 go_simp
 go_at_call 28;refine (of_e (HA.p0.keep B1.out) (by decide) (by decide)).mono ?_;rintro e w2 ⟨v2,rfl,h2,hb⟩
 have B2:=Lib.hid (Yb B1.out hb)
 have H2:=Lib.hid h2
 clear h2 hb B1 Hh
 go_wp2_with fail
 refine rgK hK (HC.out _ B2.out) fun Hh=>?_;clear hK K
 refine rgO 4 fun K hK=>?_
 go_simp
 go_at_call 31;refine (cmp_e (HA.p1.keep B2.out) H2.out HA.p2 (by decide) HA.q3 (by decide)).mono ?_;rintro e w3 ⟨rfl,hb⟩
 have B3:=Lib.hid (Yb B2.out hb)
 clear hb B2 Hh
 go_wp2_with fail
 refine rgK hK (HC.out _ B3.out) fun Hh=>?_;clear hK K
 refine rgT 5 Hh ?_
 refine Yw ?_
 clear Hh
 obtain ⟨K,hK⟩:∃ K,K=cmpQ q c.r.q:=⟨_,rfl⟩
 rw [<- hK]
 have HK:=Lib.hid hK
 clear hK
 obtain ⟨y0,y1,y2,y3,y4,-⟩:=HC.out _ B3.out
 by_cases dk:K<=0
 · skip
   go_wp2_with fail
   go_ret
   exact ⟨(show Ending.returned (.bool true)=Ending.returned (.bool (decide (cmpQ q c.r.q<=0))) from by rw [decide_eq_true (p:=cmpQ q c.r.q<=0) (by rw [<- HK.out];omega)]),Yb HB0.out B3.out⟩
 go_wp2_with fail
 go_ret
 exact ⟨(show Ending.returned (.bool false)=Ending.returned (.bool (decide (cmpQ q c.r.q<=0))) from by rw [decide_eq_false (p:=cmpQ q c.r.q<=0) (by rw [<- HK.out];omega)]),Yb HB0.out B3.out⟩
theorem kept2_d {w:World} {v u:Value} {c:Cx} {q:Rat} {L:Nat} (h:Cv w v c) (hu:Qe w L u q) (hs:c.s=2) (hr:c.r.xs.length<=211/\c.r.ds.length<=211) (h0:0<L) (hL:L<=268435456):
 Calls Tryz.prog 86 #[v,u] w fun e w'=>e=.returned (.bool (decide (0<=cmpQ q c.r.q)))/\Yg w w':=by
 obtain ⟨⟨s,E,n,k,b,A,l,j,B,m,d⟩,rfl,hs2,ht,hf⟩:=h
 obtain rfl:s=2:=Eq.trans (show s=c.s from hs2) hs
 have hf:Fv w (.agg #[.bool b,.slice A l j,.slice B m d]) c.r:=hf
 obtain ⟨p,A2,l2,j2,B2,m2,d2,rfl⟩:=hu.parts
 have HS:=Yh4 (hf.qv hr.1 hr.2) hu h0 hL
 clear hf hu h0 hL ht hr hs2 hs
 change Calls Tryz.prog 86 #[.agg #[.int .i64 2,.slice E n k,.bool b,.slice A l j,.slice B m d],.agg #[.bool p,.slice A2 l2 j2,.slice B2 m2 d2]] w _
 go_enter Tryz.func86,Tryz.ntmps86
 go_upto_region 1 with (fail)
 have hb0:=Yb (Ya w (.cells #[.int .i64 2,.slice E n k,.bool b,.slice A l j,.slice B m d] 39)) (Ya _ (.cells #[.bool p,.slice A2 l2 j2,.slice B2 m2 d2] 60))
 have X0:=Lib.hid ((Bl.new w 39 [.int .i64 2,.slice E n k,.bool b,.slice A l j,.slice B m d]).alloc (.cells #[.bool p,.slice A2 l2 j2,.slice B2 m2 d2] 60))
 have X1:=Lib.hid (Bl.new1 w (.cells #[.int .i64 2,.slice E n k,.bool b,.slice A l j,.slice B m d] 39) 60 [.bool p,.slice A2 l2 j2,.slice B2 m2 d2])
 have HA:=Yh3 (HS.p0.keep hb0) (HS.p1.keep hb0) HS.q2
 have HB0:=Lib.hid hb0
 clear hb0 HS
 generalize (w.alloc _).alloc _=W0 at X0 X1 HA HB0 ⊢
 have HC:Hid (∀ W,Yg W0 W->Yc5 W w.heap.size (.int .i64 2) (.slice E n k) (.bool b) (.slice A l j) (.slice B m d) (Ye3 W (w.heap.size+1) (.bool p) (.slice A2 l2 j2) (.slice B2 m2 d2))):=fun W hb=>⟨Bl.ld (X0.out.keep hb) 0 rfl,Bl.ld (X0.out.keep hb) 1 rfl,Bl.ld (X0.out.keep hb) 2 rfl,Bl.ld (X0.out.keep hb) 3 rfl,Bl.ld (X0.out.keep hb) 4 rfl,Bl.ld (X1.out.keep hb) 0 rfl,Bl.ld (X1.out.keep hb) 1 rfl,Bl.ld (X1.out.keep hb) 2 rfl⟩
 refine wp_region_held_drew (S:=fun W=>Yc5 W w.heap.size (.int .i64 2) (.slice E n k) (.bool b) (.slice A l j) (.slice B m d) (Ye3 W (w.heap.size+1) (.bool p) (.slice A2 l2 j2) (.slice B2 m2 d2))) (by kernel_rfl) (HC.out _ (below_d _)) (fun Hh=>?_)
 have B1:=Lib.hid (below_d W0)
 generalize W0.drew=Wd at B1 Hh ⊢
 refine rgFree [0,1,2] [false,false,false,false,false,false] (fun HFR=>?_)
 refine rgU 0 6 HFR Hh ?_
 refine rgU 1 7 HFR Hh ?_
 refine rgU 2 8 HFR Hh ?_
 refine rgO 3 fun K hK=>?_
 go_simp
 go_at_call 28;refine (of_e (HA.p0.keep B1.out) (by decide) (by decide)).mono ?_;rintro e w2 ⟨v2,rfl,h2,hb⟩
 have B2:=Lib.hid (Yb B1.out hb)
 have H2:=Lib.hid h2
 clear h2 hb B1 Hh
 go_wp2_with fail
 refine rgK hK (HC.out _ B2.out) fun Hh=>?_;clear hK K
 refine rgO 4 fun K hK=>?_
 go_simp
 go_at_call 31;refine (cmp_e (HA.p1.keep B2.out) H2.out HA.p2 (by decide) HA.q3 (by decide)).mono ?_;rintro e w3 ⟨rfl,hb⟩
 have B3:=Lib.hid (Yb B2.out hb)
 clear hb B2 Hh
 go_wp2_with fail
 refine rgK hK (HC.out _ B3.out) fun Hh=>?_;clear hK K
 refine rgT 5 Hh ?_
 refine Yw ?_
 clear Hh
 obtain ⟨K,hK⟩:∃ K,K=cmpQ q c.r.q:=⟨_,rfl⟩
 rw [<- hK]
 have HK:=Lib.hid hK
 clear hK
 obtain ⟨y0,y1,y2,y3,y4,-⟩:=HC.out _ B3.out
 by_cases dk:0<=K
 · skip
   go_wp2_with fail
   go_ret
   exact ⟨(show Ending.returned (.bool true)=Ending.returned (.bool (decide (0<=cmpQ q c.r.q))) from by rw [decide_eq_true (p:=0<=cmpQ q c.r.q) (by rw [<- HK.out];omega)]),Yb HB0.out B3.out⟩
 go_wp2_with fail
 go_ret
 exact ⟨(show Ending.returned (.bool false)=Ending.returned (.bool (decide (0<=cmpQ q c.r.q))) from by rw [decide_eq_false (p:=0<=cmpQ q c.r.q) (by rw [<- HK.out];omega)]),Yb HB0.out B3.out⟩
theorem holds1_d {w:World} {v u:Value} {c:Cx} {fs:List Fx} (h:Cv w v c) (hx:Rx w u fs) (hs:c.s=1) (hr:c.r.xs.length<=211/\c.r.ds.length<=211) (hn:c.ts.length<=30) (hw:∀ t∈c.ts,t.2.xs.length<=211/\t.2.ds.length<=211) (hm:fs.length<=30) (hf:∀ f∈fs,f.xs.length<=6/\f.ds.length<=6):
 Calls Tryz.prog 30 #[v,u] w fun e w'=>e=.returned (.bool (decide (cmpQ (dotK (fun i=>getV (qT c.ts) i) (fun i=>(fs.getD i ⟨false,[],[]⟩).q) fs.length) c.r.q<=0)))/\Yg w w':=by
 have hv:=h
 obtain ⟨⟨s,E,n,k,b,A,l,j,B,m,d⟩,rfl,-,ht,-⟩:=h
 have ht:Tx w (.slice E n k) c.ts:=ht
 have hsz:7+fs.length*(7+(qT c.ts).length*(5*211+1)+5*6+1)<=268435456:=by
  have e1:(qT c.ts).length<=30:=by unfold qT;rw [List.length_map];exact hn
  have e2:=Nat.mul_le_mul hm (show 7+(qT c.ts).length*(5*211+1)+5*6+1<=7+30*1056+31 by omega)
  omega
 have HS:=Yh8 hv hx (ht.vt hw) hs hr hf hsz (show (qT c.ts).length<=4096 by unfold qT;rw [List.length_map];omega)
 clear hv hx ht hs hr hn hw hm hf hsz
 change Calls Tryz.prog 30 #[.agg #[.int .i64 s,.slice E n k,.bool b,.slice A l j,.slice B m d],_] w _
 go_enter Tryz.func30,Tryz.ntmps30
 go_upto_region 1 with (fail)
 have hb0:=Ya w (.cells #[.int .i64 s,.slice E n k,.bool b,.slice A l j,.slice B m d] 39)
 have X0:=Lib.hid (Bl.new w 39 [.int .i64 s,.slice E n k,.bool b,.slice A l j,.slice B m d])
 have HA:=Yh4 (HS.p0.keep hb0) (HS.p1.keep hb0) (HS.p2.keep hb0) HS.q3
 have HB0:=Lib.hid hb0
 clear hb0 HS
 generalize w.alloc _=W0 at X0 HA HB0 ⊢
 have HC:Hid (∀ W,Yg W0 W->Ye5 W w.heap.size (.int .i64 s) (.slice E n k) (.bool b) (.slice A l j) (.slice B m d)):=fun W hb=>⟨Bl.ld (X0.out.keep hb) 0 rfl,Bl.ld (X0.out.keep hb) 1 rfl,Bl.ld (X0.out.keep hb) 2 rfl,Bl.ld (X0.out.keep hb) 3 rfl,Bl.ld (X0.out.keep hb) 4 rfl⟩
 refine wp_region_held_drew (S:=fun W=>Ye5 W w.heap.size (.int .i64 s) (.slice E n k) (.bool b) (.slice A l j) (.slice B m d)) (by kernel_rfl) (HC.out _ (below_d _)) (fun Hh=>?_)
 have B1:=Lib.hid (below_d W0)
 generalize W0.drew=Wd at B1 Hh ⊢
 refine rgFree [0,1,2,3] [false,false,false,false,false,false,false] (fun HFR=>?_)
 refine rgU 0 5 HFR Hh ?_
 refine rgU 1 6 HFR Hh ?_
 refine rgU 2 7 HFR Hh ?_
 refine rgU 3 8 HFR Hh ?_
 refine rgO 4 fun K hK=>?_
 go_simp
 go_at_call 87;refine (dot_e (HA.p2.keep B1.out) (HA.p1.keep B1.out) (by decide) (by decide) HA.q7 HA.p5 (by decide) (by decide) HA.p6).mono ?_;rintro e w2 ⟨v2,rfl,h2,hb⟩
 have B2:=Lib.hid (Yb B1.out hb)
 have H2:=Lib.hid h2
 clear h2 hb B1 Hh
 go_wp2_with fail
 refine rgK hK (HC.out _ B2.out) fun Hh=>?_;clear hK K
 refine rgO 5 fun K hK=>?_
 go_simp
 go_at_call 86;refine (kept1_d (HA.p0.keep B2.out) H2.out HA.p3 HA.p4 (by omega) HA.p6).mono ?_;rintro e w3 ⟨rfl,hb⟩
 have B3:=Lib.hid (Yb B2.out hb)
 clear hb B2 Hh
 go_wp2_with fail
 refine rgK hK (HC.out _ B3.out) fun Hh=>?_;clear hK K
 refine rgT 6 Hh ?_
 refine Yw ?_
 clear Hh
 go_wp2_with fail
 go_ret
 exact ⟨rfl,Yb HB0.out B3.out⟩
theorem holds2_d {w:World} {v u:Value} {c:Cx} {fs:List Fx} (h:Cv w v c) (hx:Rx w u fs) (hs:c.s=2) (hr:c.r.xs.length<=211/\c.r.ds.length<=211) (hn:c.ts.length<=30) (hw:∀ t∈c.ts,t.2.xs.length<=211/\t.2.ds.length<=211) (hm:fs.length<=30) (hf:∀ f∈fs,f.xs.length<=6/\f.ds.length<=6):
 Calls Tryz.prog 30 #[v,u] w fun e w'=>e=.returned (.bool (decide (0<=cmpQ (dotK (fun i=>getV (qT c.ts) i) (fun i=>(fs.getD i ⟨false,[],[]⟩).q) fs.length) c.r.q)))/\Yg w w':=by
 have hv:=h
 obtain ⟨⟨s,E,n,k,b,A,l,j,B,m,d⟩,rfl,-,ht,-⟩:=h
 have ht:Tx w (.slice E n k) c.ts:=ht
 have hsz:7+fs.length*(7+(qT c.ts).length*(5*211+1)+5*6+1)<=268435456:=by
  have e1:(qT c.ts).length<=30:=by unfold qT;rw [List.length_map];exact hn
  have e2:=Nat.mul_le_mul hm (show 7+(qT c.ts).length*(5*211+1)+5*6+1<=7+30*1056+31 by omega)
  omega
 have HS:=Yh8 hv hx (ht.vt hw) hs hr hf hsz (show (qT c.ts).length<=4096 by unfold qT;rw [List.length_map];omega)
 clear hv hx ht hs hr hn hw hm hf hsz
 change Calls Tryz.prog 30 #[.agg #[.int .i64 s,.slice E n k,.bool b,.slice A l j,.slice B m d],_] w _
 go_enter Tryz.func30,Tryz.ntmps30
 go_upto_region 1 with (fail)
 have hb0:=Ya w (.cells #[.int .i64 s,.slice E n k,.bool b,.slice A l j,.slice B m d] 39)
 have X0:=Lib.hid (Bl.new w 39 [.int .i64 s,.slice E n k,.bool b,.slice A l j,.slice B m d])
 have HA:=Yh4 (HS.p0.keep hb0) (HS.p1.keep hb0) (HS.p2.keep hb0) HS.q3
 have HB0:=Lib.hid hb0
 clear hb0 HS
 generalize w.alloc _=W0 at X0 HA HB0 ⊢
 have HC:Hid (∀ W,Yg W0 W->Ye5 W w.heap.size (.int .i64 s) (.slice E n k) (.bool b) (.slice A l j) (.slice B m d)):=fun W hb=>⟨Bl.ld (X0.out.keep hb) 0 rfl,Bl.ld (X0.out.keep hb) 1 rfl,Bl.ld (X0.out.keep hb) 2 rfl,Bl.ld (X0.out.keep hb) 3 rfl,Bl.ld (X0.out.keep hb) 4 rfl⟩
 refine wp_region_held_drew (S:=fun W=>Ye5 W w.heap.size (.int .i64 s) (.slice E n k) (.bool b) (.slice A l j) (.slice B m d)) (by kernel_rfl) (HC.out _ (below_d _)) (fun Hh=>?_)
 have B1:=Lib.hid (below_d W0)
 generalize W0.drew=Wd at B1 Hh ⊢
 refine rgFree [0,1,2,3] [false,false,false,false,false,false,false] (fun HFR=>?_)
 refine rgU 0 5 HFR Hh ?_
 refine rgU 1 6 HFR Hh ?_
 refine rgU 2 7 HFR Hh ?_
 refine rgU 3 8 HFR Hh ?_
 refine rgO 4 fun K hK=>?_
 go_simp
 go_at_call 87;refine (dot_e (HA.p2.keep B1.out) (HA.p1.keep B1.out) (by decide) (by decide) HA.q7 HA.p5 (by decide) (by decide) HA.p6).mono ?_;rintro e w2 ⟨v2,rfl,h2,hb⟩
 have B2:=Lib.hid (Yb B1.out hb)
 have H2:=Lib.hid h2
 clear h2 hb B1 Hh
 go_wp2_with fail
 refine rgK hK (HC.out _ B2.out) fun Hh=>?_;clear hK K
 refine rgO 5 fun K hK=>?_
 go_simp
 go_at_call 86;refine (kept2_d (HA.p0.keep B2.out) H2.out HA.p3 HA.p4 (by omega) HA.p6).mono ?_;rintro e w3 ⟨rfl,hb⟩
 have B3:=Lib.hid (Yb B2.out hb)
 clear hb B2 Hh
 go_wp2_with fail
 refine rgK hK (HC.out _ B3.out) fun Hh=>?_;clear hK K
 refine rgT 6 Hh ?_
 refine Yw ?_
 clear Hh
 go_wp2_with fail
 go_ret
 exact ⟨rfl,Yb HB0.out B3.out⟩
end I
end
end
end Go.Proofs.YtclaiidoomdklaaGreat
