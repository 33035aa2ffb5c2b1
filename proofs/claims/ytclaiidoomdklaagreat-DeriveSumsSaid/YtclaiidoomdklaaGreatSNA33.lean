import Derived.Test.YtclaiidoomdklaaGreatSNA32
import Derived.Test.YtclaiidoomdklaaGreatSNA29
import Derived.Test.YtclaiidoomdklaaGreatSNA30
import Derived.Test.YtclaiidoomdklaaGreatRows
import Derived.Deep.Slices
import Derived.Deep.Strs
import Derived.OpenShut
import Derived.ChangeArms
import Derived.ShutString
import Derived.ProofKit
import Derived.HandedShaped
import Derived.WideKeyArgs
import Derived.ChangeSame
set_option maxRecDepth 1000000
set_option maxHeartbeats 8000000
set_option linter.unusedVariables false
set_option linter.unusedSimpArgs false
namespace Go.Proofs.YtclaiidoomdklaaGreat
section
section
open Go Go.RowKit Go.Proofs Pl
theorem sumIs_no {l:LPx} {us:List Ux} {sense:Int} {p:Cx × Int} (h:SumIs l us sense p) (h0:p.2≠0):p.1=Cx.no:=by
 rcases h with ⟨-,rfl⟩ | ⟨cs,-,rfl⟩
 · rfl
 · unfold combX at h0 ⊢
   split
   · rename_i h1
     rw [if_pos h1] at h0
     split
     · rfl
     · rename_i h2
       rw [if_neg h2] at h0
       exact absurd rfl h0
   · rfl
theorem tell_cases (l:LPx) (col:Int) (up:Bool):∃ (c:Cx) (E:Int),tellX (boundX l col up)=(c,E)/\(E=0∨E=2):=by
 cases boundX l col up with
 | some c=>exact ⟨c,0,rfl,.inl rfl⟩
 | none=>exact ⟨Cx.no,2,rfl,.inr rfl⟩
namespace I
theorem sums_walk {w:World} {v u:Value} {l:LPx} {us:List Ux} {sense:Int} (h:LPv w v l) (hs:Sane l) (hb1:l.hasLo.length<=140737488355328) (hb2:l.hasHi.length<=140737488355328) (hu:Uv w u us) (hus:∀ x∈us,x.f.xs.length<=2305843009213693951/\x.f.ds.length<=2305843009213693951):
 Calls Tryz.prog 3 #[v,u,.int .i64 sense] w fun e w'=>e=.returned (.bool true)/\Yg w w':=by
 have hlp:=h
 obtain ⟨aA,an,ac,bA,bn,bc,cA,cn,cc,dA,dn,dc,eA,en,ec,fA,fn,fc,rfl,hP,hla,hlb,hlc,hld,hle,hlf,hma,hmb,hmc,hmd,hme,hmf⟩:=h.open
 obtain ⟨Au,cu,rfl,-,-⟩:=hu.shape
 obtain ⟨n,hn⟩:∃ n,us.length=n:=⟨_,rfl⟩
 rw [hn] at hu ⊢
 have HN:=Lib.hid hn
 have HS:=Yh4 hlp hu hs hus
 have HB2:=Yh2 hb1 hb2
 clear hP hs hu hus hla hlb hlc hld hle hlf hma hmb hmc hmd hme hmf h hlp hn hb1 hb2
 change Calls Tryz.prog 3 #[.agg #[.int .i64 l.n,.slice aA an ac,.slice bA bn bc,.slice cA cn cc,.slice dA dn dc,.slice eA en ec,.slice fA fn fc],_,_] w _
 go_enter Tryz.func3,Tryz.ntmps3
 go_upto_region 1 with (fail)
 have S0:=Yh2 (Bl.new w 26 [.int .i64 l.n,.slice aA an ac,.slice bA bn bc,.slice cA cn cc,.slice dA dn dc,.slice eA en ec,.slice fA fn fc]) (Ya w (.cells #[.int .i64 l.n,.slice aA an ac,.slice bA bn bc,.slice cA cn cc,.slice dA dn dc,.slice eA en ec,.slice fA fn fc] 26))
 have HLP:=Lib.hid (HS.p0.keep S0.q1)
 have HRU:=Lib.hid (HS.p1.keep S0.q1)
 have HSN:=Lib.hid HS.q2
 have HBW:=Lib.hid S0.q1
 have HBL:=Lib.hid S0.p0
 clear S0 HS
 generalize w.alloc _=W0 at HLP HRU HBW HBL ⊢
 go_wp2_with fail
 refine (speaks_l).mono ?_;rintro e w1 ⟨rfl,hb⟩
 have B1:=Lib.hid hb
 clear hb
 have l0:=Bl.ld (HBL.out.keep B1.out) 0 rfl
 have l1:=Bl.ld (HBL.out.keep B1.out) 1 rfl
 have l2:=Bl.ld (HBL.out.keep B1.out) 2 rfl
 have l3:=Bl.ld (HBL.out.keep B1.out) 3 rfl
 have l4:=Bl.ld (HBL.out.keep B1.out) 4 rfl
 have l5:=Bl.ld (HBL.out.keep B1.out) 5 rfl
 have l6:=Bl.ld (HBL.out.keep B1.out) 6 rfl
 go_wp2_with fail
 refine (great_l (HLP.out.keep B1.out) HSN.p0).mono ?_;rintro e w2 ⟨⟨r,rfl,hr⟩,hb⟩
 have B2:=Lib.hid (Yb B1.out hb)
 have HR:=Lib.hid hr
 clear hb hr B1 l0 l1 l2 l3 l4 l5 l6
 cases r with
 | true=>
  go_wp2_with fail
  go_ret
  exact ⟨rfl,Yb HBW.out B2.out⟩
 | false=>
  have HFT:=Lib.hid (HR.out (by trivial))
  clear HR
  go_wp2_with fail
  refine (great_u (HRU.out.keep B2.out) HSN.q1).mono ?_;rintro e w3 ⟨⟨r,rfl,hr⟩,hb⟩
  have B3:=Lib.hid (Yb B2.out hb)
  have HR:=Lib.hid hr
  clear hb hr B2
  cases r with
  | true=>
   go_wp2_with fail
   go_ret
   exact ⟨rfl,Yb HBW.out B3.out⟩
  | false=>
   have HUF:=Lib.hid (HR.out (by trivial))
   clear HR
   have hn30:n<=30:=by have:=HUF.p0;rw [HN.out] at this;exact this
   have HUW:Hid (∀ x∈us,x.f.xs.length<=6/\x.f.ds.length<=6):=fun x hx=>by have:=HUF.q1 x hx;omega
   have HU30:=Lib.hid HUF.p0
   clear HUF
   have l0:=Bl.ld (HBL.out.keep B3.out) 0 rfl
   have l1:=Bl.ld (HBL.out.keep B3.out) 1 rfl
   have l2:=Bl.ld (HBL.out.keep B3.out) 2 rfl
   have l3:=Bl.ld (HBL.out.keep B3.out) 3 rfl
   have l4:=Bl.ld (HBL.out.keep B3.out) 4 rfl
   have l5:=Bl.ld (HBL.out.keep B3.out) 5 rfl
   have l6:=Bl.ld (HBL.out.keep B3.out) 6 rfl
   go_wp2_with fail
   refine (copy_l (HLP.out.keep B3.out) HFT.out HB2.p0 HB2.q1).mono ?_;rintro e w5 ⟨ui,rfl,h5⟩
   have B5:=Lib.hid (Yb B3.out h5.below)
   have HIN:=Lib.hid h5.lpv
   have h5l:=h5.lpv
   obtain ⟨iA,in_,ic,jA,jn,jc,kA,kn,kc,mA,mn,mc,oA,on_,oc,pA,pn,pc,rfl,-⟩:=h5l.open
   clear h5 h5l B3 l0 l1 l2 l3 l4 l5 l6
   go_upto_region 6 with (fail)
   have hal:=Ya w5 (.cells #[.int .i64 l.n,.slice iA in_ ic,.slice jA jn jc,.slice kA kn kc,.slice mA mn mc,.slice oA on_ oc,.slice pA pn pc] 26)
   have S5:=Yh3 (Yb B5.out hal) (HIN.out.keep hal) (Bl.new w5 26 [.int .i64 l.n,.slice iA in_ ic,.slice jA jn jc,.slice kA kn kc,.slice mA mn mc,.slice oA on_ oc,.slice pA pn pc])
   obtain ⟨g7,hg7⟩:∃ g,g=w5.heap.size:=⟨_,rfl⟩
   rw [<- hg7] at S5 ⊢
   clear B5 HIN hal hg7
   generalize w5.alloc _=V7 at S5 ⊢
   have HC7:Hid (∀ W,Yg V7 W->Ye7 W g7 (.int .i64 l.n) (.slice iA in_ ic) (.slice jA jn jc) (.slice kA kn kc) (.slice mA mn mc) (.slice oA on_ oc) (.slice pA pn pc)):=fun W hb=>⟨Bl.ld (S5.q2.keep hb) 0 rfl,Bl.ld (S5.q2.keep hb) 1 rfl,Bl.ld (S5.q2.keep hb) 2 rfl,Bl.ld (S5.q2.keep hb) 3 rfl,Bl.ld (S5.q2.keep hb) 4 rfl,Bl.ld (S5.q2.keep hb) 5 rfl,Bl.ld (S5.q2.keep hb) 6 rfl⟩
   have HUV:=Lib.hid (HRU.out.keep S5.p0)
   go_cut [8,9] (fun z8 z9 wx=>∃ (g8:Nat) (p:Cx × Int) (s8:Int) (E8:Option Addr) (n8 c8:Nat) (b8:Bool) (A8:Option Addr) (l8 k8:Nat) (B8:Option Addr) (m8 d8:Nat),z8=.pointer (some ⟨g8,0,none⟩)/\z9=.int .i64 p.2/\Hid (Yg V7 wx/\Bl wx 39 g8 [.int .i64 s8,.slice E8 n8 c8,.bool b8,.slice A8 l8 k8,.slice B8 m8 d8]/\Cv wx (.agg #[.int .i64 s8,.slice E8 n8 c8,.bool b8,.slice A8 l8 k8,.slice B8 m8 d8]) p.1/\SumIs l us sense p))
   case first=>
    refine wp_region_held_drew (S:=fun W=>Ye7 W g7 (.int .i64 l.n) (.slice iA in_ ic) (.slice jA jn jc) (.slice kA kn kc) (.slice mA mn mc) (.slice oA on_ oc) (.slice pA pn pc)) (by kernel_rfl) (HC7.out _ (below_d _)) (fun Hh=>?_)
    refine rgT 0 Hh ?_
    refine rgT 2 Hh ?_
    refine rgT 4 Hh ?_
    have R0:=Lib.hid (below_d V7)
    generalize V7.drew=Wd at R0 Hh ⊢
    refine wpAnyH_ctx (fun F hF=>?_)
    have HF:=Lib.hid hF
    clear hF
    refine act_ctx (G:=fun a=>F _ _ a Wd) (fun a0 ha0=>?_)
    have HACT:=Lib.hid ha0
    clear ha0 Hh
    have st01234_:∀ (W:World) (gl:Nat) (A9:Option Addr) (c9:Nat) (p:Cx × Int) (s8:Int) (E8:Option Addr) (n8:Nat) (c8:Nat) (b8:Bool) (A8:Option Addr) (l8:Nat) (k8:Nat) (B8:Option Addr) (m8:Nat) (d8:Nat) (g8:Nat),Hid (Yg V7 W/\Cw V7 W (.agg #[.int .i64 s8,.slice E8 n8 c8,.bool b8,.slice A8 l8 k8,.slice B8 m8 d8]) p.1/\SumIs l us sense p/\Bl W 39 g8 [.int .i64 s8,.slice E8 n8 c8,.bool b8,.slice A8 l8 k8,.slice B8 m8 d8]/\V7.heap.size<=g8)->F 0 (Yl 12 4095).toArray ((((((((a0.put (some 8) (.pointer (some ⟨g8,0,none⟩))).put (some 9) (.int .i64 p.2)).put (some 28) (.tuple #[.agg #[.int .i64 s8,.slice E8 n8 c8,.bool b8,.slice A8 l8 k8,.slice B8 m8 d8],.int .i64 p.2])).put (some 30) (.slice (some ⟨gl,0,none⟩) 0 0)).put (some 32) (.slice A9 n c9)).put (some 34) (.tuple #[.agg #[.int .i64 s8,.slice E8 n8 c8,.bool b8,.slice A8 l8 k8,.slice B8 m8 d8],.int .i64 p.2])).put (some 35) (.agg #[.int .i64 s8,.slice E8 n8 c8,.bool b8,.slice A8 l8 k8,.slice B8 m8 d8])).put (some 36) (.int .i64 p.2)) W:=by
     intro W gl A9 c9 p s8 E8 n8 c8 b8 A8 l8 k8 B8 m8 d8 g8 R
     refine rgF HF ?_
     obtain ⟨rB,rC,rPS,rX,rP8⟩:=R.out
     refine Yw ?_
     go_wp2_with fail
     go_meet
     exact ⟨g8,p,s8,E8,n8,c8,b8,A8,l8,k8,B8,m8,d8,rfl,rfl,rB,rX,rC.cv,rPS⟩
    have st0123_:∀ (W:World) (gl:Nat) (A9:Option Addr) (c9:Nat) (p:Cx × Int) (s8:Int) (E8:Option Addr) (n8:Nat) (c8:Nat) (b8:Bool) (A8:Option Addr) (l8:Nat) (k8:Nat) (B8:Option Addr) (m8:Nat) (d8:Nat) (g8:Nat),Hid (Yg V7 W/\Cw V7 W (.agg #[.int .i64 s8,.slice E8 n8 c8,.bool b8,.slice A8 l8 k8,.slice B8 m8 d8]) p.1/\SumIs l us sense p/\Bl W 39 g8 [.int .i64 0,.slice none 0 0,.bool false,.slice none 0 0,.slice none 0 0]/\V7.heap.size<=g8)->F 2 (Yl 12 1023).toArray (((((((a0.put (some 8) (.pointer (some ⟨g8,0,none⟩))).put (some 28) (.tuple #[.agg #[.int .i64 s8,.slice E8 n8 c8,.bool b8,.slice A8 l8 k8,.slice B8 m8 d8],.int .i64 p.2])).put (some 30) (.slice (some ⟨gl,0,none⟩) 0 0)).put (some 32) (.slice A9 n c9)).put (some 34) (.tuple #[.agg #[.int .i64 s8,.slice E8 n8 c8,.bool b8,.slice A8 l8 k8,.slice B8 m8 d8],.int .i64 p.2])).put (some 35) (.agg #[.int .i64 s8,.slice E8 n8 c8,.bool b8,.slice A8 l8 k8,.slice B8 m8 d8])).put (some 36) (.int .i64 p.2)) W:=by
     intro W gl A9 c9 p s8 E8 n8 c8 b8 A8 l8 k8 B8 m8 d8 g8 R
     refine rgF HF ?_
     obtain ⟨rB,rC,rPS,rX,rP8⟩:=R.out
     refine rgO 10 fun K hK=>?_
     have f0:=Bl.fr rX 0
     have f1:=Bl.fr rX 1
     have f2:=Bl.fr rX 2
     have f3:=Bl.fr rX 3
     have f4:=Bl.fr rX 4
     have r0:=Bl.ld rX 0 rfl
     have r1:=Bl.ld rX 1 rfl
     have r2:=Bl.ld rX 2 rfl
     have r3:=Bl.ld rX 3 rfl
     have r4:=Bl.ld rX 4 rfl
     go_simp
     clear f0 r0 f1 r1 f2 r2 f3 r3 f4 r4
     change K _ (cells5 W g8 (.int .i64 s8) (.slice E8 n8 c8) (.bool b8) (.slice A8 l8 k8) (.slice B8 m8 d8))
     have hbn:=below5 rB rP8 (.int .i64 s8) (.slice E8 n8 c8) (.bool b8) (.slice A8 l8 k8) (.slice B8 m8 d8)
     refine hK.out _ _ (HC7.out _ hbn) (fun Hh=>?_);clear hK K
     try simp only [Yp]
     refine rgT 11 Hh ?_
     exact rgG HF (st01234_ _ gl A9 c9 p s8 E8 n8 c8 b8 A8 l8 k8 B8 m8 d8 g8 (Lib.hid ⟨hbn,rC.keepT (rX.keep5 Yd (.int .i64 s8) (.slice E8 n8 c8) (.bool b8) (.slice A8 l8 k8) (.slice B8 m8 d8)) (rX.keep5 Yd (.int .i64 s8) (.slice E8 n8 c8) (.bool b8) (.slice A8 l8 k8) (.slice B8 m8 d8)) hbn,rPS,rX.set5 rfl (.int .i64 s8) (.slice E8 n8 c8) (.bool b8) (.slice A8 l8 k8) (.slice B8 m8 d8),rP8⟩))
    have st012_:∀ (W:World) (gl:Nat) (A9:Option Addr) (c9:Nat) (p:Cx × Int) (s8:Int) (E8:Option Addr) (n8:Nat) (c8:Nat) (b8:Bool) (A8:Option Addr) (l8:Nat) (k8:Nat) (B8:Option Addr) (m8:Nat) (d8:Nat),Hid (Yg V7 W/\Cw V7 W (.agg #[.int .i64 s8,.slice E8 n8 c8,.bool b8,.slice A8 l8 k8,.slice B8 m8 d8]) p.1/\SumIs l us sense p)->F 3 (Yl 12 511).toArray ((((((a0.put (some 28) (.tuple #[.agg #[.int .i64 s8,.slice E8 n8 c8,.bool b8,.slice A8 l8 k8,.slice B8 m8 d8],.int .i64 p.2])).put (some 30) (.slice (some ⟨gl,0,none⟩) 0 0)).put (some 32) (.slice A9 n c9)).put (some 34) (.tuple #[.agg #[.int .i64 s8,.slice E8 n8 c8,.bool b8,.slice A8 l8 k8,.slice B8 m8 d8],.int .i64 p.2])).put (some 35) (.agg #[.int .i64 s8,.slice E8 n8 c8,.bool b8,.slice A8 l8 k8,.slice B8 m8 d8])).put (some 36) (.int .i64 p.2)) W:=by
     intro W gl A9 c9 p s8 E8 n8 c8 b8 A8 l8 k8 B8 m8 d8 R
     refine rgF HF ?_
     obtain ⟨rB,rC,rPS⟩:=R.out
     refine rgO 9 fun K hK=>?_
     have hal:=Ya W (.cells #[.int .i64 0,.slice none 0 0,.bool false,.slice none 0 0,.slice none 0 0] 39)
     go_simp
     refine hK.out _ _ (HC7.out _ (Yb rB hal)) (fun _=>?_);clear hK K
     obtain ⟨g8,hg⟩:∃ g,g=W.heap.size:=⟨_,rfl⟩
     rw [<- hg]
     exact rgG HF (st0123_ _ gl A9 c9 p s8 E8 n8 c8 b8 A8 l8 k8 B8 m8 d8 g8 (Lib.hid ⟨Yb rB hal,rC.keep hal,rPS,by rw [hg];exact Bl.new W 39 [.int .i64 0,.slice none 0 0,.bool false,.slice none 0 0,.slice none 0 0],by rw [hg];exact rB.size⟩))
    have st013_:∀ (W:World) (gl:Nat) (A9:Option Addr) (c9:Nat) (g8:Nat),Hid (Yg V7 W/\Uv W (.slice A9 n c9) us/\Bl W 39 g8 [.int .i64 0,.slice none 0 0,.bool false,.slice none 0 0,.slice none 0 0]/\V7.heap.size<=g8)->F 6 (Yl 12 543).toArray (((a0.put (some 8) (.pointer (some ⟨g8,0,none⟩))).put (some 30) (.slice (some ⟨gl,0,none⟩) 0 0)).put (some 32) (.slice A9 n c9)) W:=by
     intro W gl A9 c9 g8 R
     refine rgF HF ?_
     obtain ⟨rB,rU,rX,rP8⟩:=R.out
     refine rgO 5 fun K hK=>?_
     go_simp
     go_at_call 13;refine (_root_.Go.Proofs.YtclaiidoomdklaaGreat.sum_c (sense:=sense) (S5.p1.keep rB) HFT.p0 rU HU30.out HUW.out).mono ?_;rintro e w8 ⟨r,p,rfl,hc,hs⟩
     have hb:=hc.below
     have hcc:=hc
     obtain ⟨⟨s8,E8,n8,c8,b8,A8,l8,k8,B8,m8,d8⟩,rfl,-⟩:=hc
     dsimp only [Cm.agg] at hcc ⊢
     go_wp2_with fail
     refine hK.out _ _ (HC7.out _ (Yb rB hb)) (fun Hh=>?_);clear hK K
     try simp only [Yp]
     refine rgT 6 Hh ?_
     refine rgT 7 Hh ?_
     refine rgT 8 Hh ?_
     exact rgG HF (st0123_ _ gl A9 c9 p s8 E8 n8 c8 b8 A8 l8 k8 B8 m8 d8 g8 (Lib.hid ⟨Yb rB hb,hcc.from rB,hs,rX.keep hb,rP8⟩))
    have st01_:∀ (W:World) (gl:Nat) (A9:Option Addr) (c9:Nat),Hid (Yg V7 W/\Uv W (.slice A9 n c9) us)->F 7 (Yl 12 31).toArray ((a0.put (some 30) (.slice (some ⟨gl,0,none⟩) 0 0)).put (some 32) (.slice A9 n c9)) W:=by
     intro W gl A9 c9 R
     refine rgF HF ?_
     obtain ⟨rB,rU⟩:=R.out
     refine rgReady [5,9] (rgOne (fun K hK=>?_) (rgOne (fun K hK=>?_) rgNil))
     · skip
       go_simp
       go_at_call 13;refine (_root_.Go.Proofs.YtclaiidoomdklaaGreat.sum_c (sense:=sense) (S5.p1.keep rB) HFT.p0 rU HU30.out HUW.out).mono ?_;rintro e w8 ⟨r,p,rfl,hc,hs⟩
       have hb:=hc.below
       have hcc:=hc
       obtain ⟨⟨s8,E8,n8,c8,b8,A8,l8,k8,B8,m8,d8⟩,rfl,-⟩:=hc
       dsimp only [Cm.agg] at hcc ⊢
       go_wp2_with fail
       refine hK.out _ _ (HC7.out _ (Yb rB hb)) (fun Hh=>?_);clear hK K
       try simp only [Yp]
       refine rgT 6 Hh ?_
       refine rgT 7 Hh ?_
       refine rgT 8 Hh ?_
       exact rgG HF (st012_ _ gl A9 c9 p s8 E8 n8 c8 b8 A8 l8 k8 B8 m8 d8 (Lib.hid ⟨Yb rB hb,hcc.from rB,hs⟩))
     have hal:=Ya W (.cells #[.int .i64 0,.slice none 0 0,.bool false,.slice none 0 0,.slice none 0 0] 39)
     go_simp
     refine hK.out _ _ (HC7.out _ (Yb rB hal)) (fun _=>?_);clear hK K
     obtain ⟨g8,hg⟩:∃ g,g=W.heap.size:=⟨_,rfl⟩
     rw [<- hg]
     exact rgG HF (st013_ _ gl A9 c9 g8 (Lib.hid ⟨Yb rB hal,rU.keep hal,by rw [hg];exact Bl.new W 39 [.int .i64 0,.slice none 0 0,.bool false,.slice none 0 0,.slice none 0 0],by rw [hg];exact rB.size⟩))
    have st03_:∀ (W:World) (gl:Nat) (g8:Nat),Hid (Yg V7 W/\Bl W 48 gl []/\V7.heap.size<=gl/\Bl W 39 g8 [.int .i64 0,.slice none 0 0,.bool false,.slice none 0 0,.slice none 0 0]/\V7.heap.size<=g8)->F 7 (Yl 12 535).toArray ((a0.put (some 8) (.pointer (some ⟨g8,0,none⟩))).put (some 30) (.slice (some ⟨gl,0,none⟩) 0 0)) W:=by
     intro W gl g8 R
     refine rgF HF ?_
     obtain ⟨rB,rM0,rPl,rX,rP8⟩:=R.out
     refine rgO 3 fun K hK=>?_
     rw [if_pos (by rfl)]
     obtain ⟨ys,hy1,hy2⟩:=HUV.out
     have hyl:ys.length=n:=hy2.1.trans HN.out
     refine app_lit (f:=Um.cs) (ys:=ys) Tryz.underlying27 use_info ⟨Yd,rfl⟩ Um.len Um.one (.tmp 30) (.tmp 31) rfl rfl rfl rM0 rPl (hy1.keep rB) Yo ?_
     rw [hyl]
     intro A9 c9 W2 h1 hb
     refine hK.out _ _ (HC7.out _ (Yb rB hb)) (fun _=>?_);clear hK K
     exact rgG HF (st013_ _ gl A9 c9 g8 (Lib.hid ⟨Yb rB hb,⟨ys,h1.rv,hy2.imp fun x t ht=>⟨ht.1,ht.2.1,ht.2.2.keep (Yb rB hb)⟩⟩,rX.keep hb,rP8⟩))
    have st0_:∀ (W:World) (gl:Nat),Hid (Yg V7 W/\Bl W 48 gl []/\V7.heap.size<=gl)->F 8 (Yl 12 23).toArray (a0.put (some 30) (.slice (some ⟨gl,0,none⟩) 0 0)) W:=by
     intro W gl R
     refine rgF HF ?_
     obtain ⟨rB,rM0,rPl⟩:=R.out
     refine rgReady [3,9] (rgOne (fun K hK=>?_) (rgOne (fun K hK=>?_) rgNil))
     · skip
       rw [if_pos (by rfl)]
       obtain ⟨ys,hy1,hy2⟩:=HUV.out
       have hyl:ys.length=n:=hy2.1.trans HN.out
       refine app_lit (f:=Um.cs) (ys:=ys) Tryz.underlying27 use_info ⟨Yd,rfl⟩ Um.len Um.one (.tmp 30) (.tmp 31) rfl rfl rfl rM0 rPl (hy1.keep rB) Yo ?_
       rw [hyl]
       intro A9 c9 W2 h1 hb
       refine hK.out _ _ (HC7.out _ (Yb rB hb)) (fun _=>?_);clear hK K
       exact rgG HF (st01_ _ gl A9 c9 (Lib.hid ⟨Yb rB hb,⟨ys,h1.rv,hy2.imp fun x t ht=>⟨ht.1,ht.2.1,ht.2.2.keep (Yb rB hb)⟩⟩⟩))
     have hal:=Ya W (.cells #[.int .i64 0,.slice none 0 0,.bool false,.slice none 0 0,.slice none 0 0] 39)
     go_simp
     refine hK.out _ _ (HC7.out _ (Yb rB hal)) (fun _=>?_);clear hK K
     obtain ⟨g8,hg⟩:∃ g,g=W.heap.size:=⟨_,rfl⟩
     rw [<- hg]
     exact rgG HF (st03_ _ gl g8 (Lib.hid ⟨Yb rB hal,rM0.keep hal,rPl,by rw [hg];exact Bl.new W 39 [.int .i64 0,.slice none 0 0,.bool false,.slice none 0 0,.slice none 0 0],by rw [hg];exact rB.size⟩))
    have st3_:∀ (W:World) (g8:Nat),Hid (Yg V7 W/\Bl W 39 g8 [.int .i64 0,.slice none 0 0,.bool false,.slice none 0 0,.slice none 0 0]/\V7.heap.size<=g8)->F 8 (Yl 12 533).toArray (a0.put (some 8) (.pointer (some ⟨g8,0,none⟩))) W:=by
     intro W g8 R
     refine rgF HF ?_
     obtain ⟨rB,rX,rP8⟩:=R.out
     refine rgO 1 fun K hK=>?_
     have hal:=Ya W (.cells #[] 48)
     go_simp
     refine hK.out _ _ (HC7.out _ (Yb rB hal)) (fun _=>?_);clear hK K
     obtain ⟨gl,hg⟩:∃ g,g=W.heap.size:=⟨_,rfl⟩
     rw [<- hg]
     exact rgG HF (st03_ _ gl g8 (Lib.hid ⟨Yb rB hal,by rw [hg];exact Bl.new W 48 [],by rw [hg];exact rB.size,rX.keep hal,rP8⟩))
    have st_:∀ (W:World),Hid (Yg V7 W)->F 9 (Yl 12 21).toArray a0 W:=by
     intro W  R
     refine rgF HF ?_
     have rB:=R.out
     refine rgReady [1,9] (rgOne (fun K hK=>?_) (rgOne (fun K hK=>?_) rgNil))
     · skip
       have hal:=Ya W (.cells #[] 48)
       go_simp
       refine hK.out _ _ (HC7.out _ (Yb rB hal)) (fun _=>?_);clear hK K
       obtain ⟨gl,hg⟩:∃ g,g=W.heap.size:=⟨_,rfl⟩
       rw [<- hg]
       exact rgG HF (st0_ _ gl (Lib.hid ⟨Yb rB hal,by rw [hg];exact Bl.new W 48 [],by rw [hg];exact rB.size⟩))
     have hal:=Ya W (.cells #[.int .i64 0,.slice none 0 0,.bool false,.slice none 0 0,.slice none 0 0] 39)
     go_simp
     refine hK.out _ _ (HC7.out _ (Yb rB hal)) (fun _=>?_);clear hK K
     obtain ⟨g8,hg⟩:∃ g,g=W.heap.size:=⟨_,rfl⟩
     rw [<- hg]
     exact rgG HF (st3_ _ g8 (Lib.hid ⟨Yb rB hal,by rw [hg];exact Bl.new W 39 [.int .i64 0,.slice none 0 0,.bool false,.slice none 0 0,.slice none 0 0],by rw [hg];exact rB.size⟩))
    exact st_ Wd R0
   case rest=>
    obtain ⟨g8,p,s8,E8,n8,c8,b8,A8,l8,k8,B8,m8,d8,rfl,rfl,HQ⟩:=hcut
    generalize wc=V8 at HQ ⊢
    have HB8:=Lib.hid (Yb S5.p0 HQ.p0)
    have HI8:=Lib.hid (S5.p1.keep HQ.p0)
    have HX7:=Lib.hid (S5.q2.keep HQ.p0)
    have HP8:=Lib.hid HQ.q1
    clear S5 HC7 HUV HQ
    have l0:=Bl.ld (HBL.out.keep HB8.out) 0 rfl
    have l1:=Bl.ld (HBL.out.keep HB8.out) 1 rfl
    have l2:=Bl.ld (HBL.out.keep HB8.out) 2 rfl
    have l3:=Bl.ld (HBL.out.keep HB8.out) 3 rfl
    have l4:=Bl.ld (HBL.out.keep HB8.out) 4 rfl
    have l5:=Bl.ld (HBL.out.keep HB8.out) 5 rfl
    have l6:=Bl.ld (HBL.out.keep HB8.out) 6 rfl
    go_wp2_with fail
    refine (right_d (HLP.out.keep HB8.out) HFT.p0).mono ?_;rintro e w9 ⟨⟨r,rfl,hr⟩,hb⟩
    have B9:=Lib.hid (Yb HB8.out hb)
    have HR:=Lib.hid hr
    have S9:=Yh5 (HI8.out.keep hb) (HX7.out.keep hb) (HP8.p0.keep hb) (HP8.p1.keep hb) HP8.q2
    clear hb hr HB8 HI8 HX7 HP8 l0 l1 l2 l3 l4 l5 l6
    cases r with
    | false=>
     go_wp2_with fail
     go_ret
     exact ⟨rfl,Yb HBW.out B9.out⟩
    | true=>
     have HRX:=Lib.hid (HR.out.1 (by trivial))
     clear HR
     have l0:=Bl.ld (HBL.out.keep B9.out) 0 rfl
     have l1:=Bl.ld (HBL.out.keep B9.out) 1 rfl
     have l2:=Bl.ld (HBL.out.keep B9.out) 2 rfl
     have l3:=Bl.ld (HBL.out.keep B9.out) 3 rfl
     have l4:=Bl.ld (HBL.out.keep B9.out) 4 rfl
     have l5:=Bl.ld (HBL.out.keep B9.out) 5 rfl
     have l6:=Bl.ld (HBL.out.keep B9.out) 6 rfl
     go_wp2_with fail
     refine (sum_d (sense:=sense) (HLP.out.keep B9.out) HFT.p0 HRX.p0.2.2.1 HRX.p0.2.2.2.1 HRX.p0.2.2.2.2.1 HRX.p0.2.2.2.2.2.1 HRX.p0.1 HRX.p0.2.1 (HRU.out.keep B9.out) HU30.out HUW.out).mono ?_;rintro e w10 ⟨r,p2,rfl,hc,hs⟩
     obtain rfl:=sumIs_one S9.q4 hs
     have hb:=hc.below
     have hcc:=hc
     obtain ⟨⟨s3,E3,n3,c3,b3,A3,l3_,k3,B3_,m3,d3⟩,rfl,-⟩:=hc
     dsimp only [Cm.agg] at hcc ⊢
     have S10:=Yh7 (Yb B9.out hb) (S9.p0.keep hb) (S9.p1.keep hb) (S9.p2.keep hb) (S9.p3.keep hb) hcc.cv S9.q4
     clear hb hcc hs S9 B9 l0 l1 l2 l3 l4 l5 l6
     go_upto_region 10 with (fail)
     have hal:=Ya w10 (.cells #[.int .i64 s3,.slice E3 n3 c3,.bool b3,.slice A3 l3_ k3,.slice B3_ m3 d3] 39)
     have S11:=Yh8 (Yb S10.p0 hal) (S10.p1.keep hal) (S10.p2.keep hal) (S10.p3.keep hal) (S10.p4.keep hal) (S10.p5.keep hal) (Bl.new w10 39 [.int .i64 s3,.slice E3 n3 c3,.bool b3,.slice A3 l3_ k3,.slice B3_ m3 d3]) S10.q6
     obtain ⟨g10,hg10⟩:∃ g,g=w10.heap.size:=⟨_,rfl⟩
     rw [<- hg10] at S11 ⊢
     clear S10 hal hg10
     generalize w10.alloc _=V10 at S11 ⊢
     obtain ⟨pc,pE⟩:=p
     dsimp only at S11 ⊢
     go_cut [80] (fun s wx=>s=.bool false/\Hid (Yg V10 wx))
     case first=>
      by_cases dE:pE=0
      · subst dE
        have y0:=Bl.ld S11.p3 0 rfl
        have y1:=Bl.ld S11.p3 1 rfl
        have y2:=Bl.ld S11.p3 2 rfl
        have y3:=Bl.ld S11.p3 3 rfl
        have y4:=Bl.ld S11.p3 4 rfl
        have x0:=Bl.ld S11.p6 0 rfl
        have x1:=Bl.ld S11.p6 1 rfl
        have x2:=Bl.ld S11.p6 2 rfl
        have x3:=Bl.ld S11.p6 3 rfl
        have x4:=Bl.ld S11.p6 4 rfl
        go_wp2_with fail
        refine (_root_.Go.Proofs.YtclaiidoomdklaaGreat.sameCons_c S11.p4 S11.p5).mono ?_;rintro e w11 ⟨rfl,hb⟩
        rw [decide_eq_true rfl]
        have HBB:=Lib.hid hb
        clear hb y0 x0 y1 x1 y2 x2 y3 x3 y4 x4
        go_wp2_with fail
        go_meet
        exact ⟨rfl,HBB.out⟩
      have hno:pc=Cx.no:=sumIs_no S11.q7 dE
      have hcv:=S11.p4
      rw [hno] at hcv
      obtain ⟨⟨s9,E9,n9,c9,b9,A9,l9,k9,B9,m9,d9⟩,e,hs9,ht9,hf9⟩:=hcv
      injection e with e
      have e:=Array.toList_inj.2 e
      injection e with e0 e
      injection e with e1 e
      injection e with e2 e
      injection e with e3 e
      injection e with e4 e
      injection e0 with _ e0
      injection e1 with e1a e1b e1c
      injection e2 with e2
      injection e3 with e3a e3b e3c
      injection e4 with e4a e4b e4c
      subst e0;subst e1a;subst e1b;subst e1c;subst e2;subst e3a;subst e3b;subst e3c;subst e4a;subst e4b;subst e4c
      have hs9:s8=0:=hs9
      subst hs9
      have hn9:n8=0:=by have ht9:Tx _ (.slice E8 n8 c8) []:=ht9;obtain ⟨_,_,e,-⟩:=ht9.shape;injection e
      subst hn9
      have HF9:Hid (Fv V10 (.agg #[.bool b8,.slice A8 l8 k8,.slice B8 m8 d8]) ⟨false,[],[]⟩):=hf9
      have hdE:(pE !=0)=true:=by simp [dE]
      have hdE2:(pE==0)=false:=by simp [dE]
      clear ht9 hf9 e hno
      have y0:=Bl.ld S11.p3 0 rfl
      have y1:=Bl.ld S11.p3 1 rfl
      have y2:=Bl.ld S11.p3 2 rfl
      have y3:=Bl.ld S11.p3 3 rfl
      have y4:=Bl.ld S11.p3 4 rfl
      have x0:=Bl.ld S11.p6 0 rfl
      have x1:=Bl.ld S11.p6 1 rfl
      have x2:=Bl.ld S11.p6 2 rfl
      have x3:=Bl.ld S11.p6 3 rfl
      have x4:=Bl.ld S11.p6 4 rfl
      go_wp2_with fail
      refine (words_q (xs:=[]) (ds:=[]) HF9.out Yd).mono ?_;rintro e w11 ⟨rfl,hb⟩
      have HBB:=Lib.hid hb
      clear hb y0 x0 y1 x1 y2 x2 y3 x3 y4 x4
      go_wp2_with fail
      go_meet
      exact ⟨rfl,HBB.out⟩
     case rest=>
      obtain ⟨rfl,HQ⟩:=hcut
      generalize wc=V11 at HQ ⊢
      have HIN:=Yh3 (Yb S11.p0 HQ.out) (S11.p1.keep HQ.out) (S11.p2.keep HQ.out)
      clear S11 HQ
      go_wp2_with fail
      go_loopw [83] (fun z wr=>∃ k:Nat,z=.int .i64 (k:Int)/\k<=n/\Hid (Yg V11 wr)) (fun z _=>n - (intOf z).toNat)
      case atStart=>exact ⟨0,rfl,Nat.zero_le _,below_nil⟩
      case round=>
       obtain ⟨k,rfl,hk,H⟩:=hrel
       by_cases hlt:k<n
       · skip
         obtain ⟨t,ht⟩:∃ t,us[k]?=some t:=⟨_,List.getElem?_eq_getElem (by rw [HN.out];exact hlt)⟩
         have HBR:=Lib.hid (Yb HIN.p0 H.out)
         obtain ⟨gu,ou,capu,x,e,hgu,-,u0,u1,u2,u3,u4⟩:=(HRU.out.keep HBR.out).at_ ht
         rw [HN.out] at e
         injection e with e1 e2 e3
         subst e1
         clear e2 e3 capu ht
         have dk:(k:Int)<(n:Int):=Yo
         go_upto_region 15 with (fail)
         have hal:=Ya wr (.cells #[.int .i64 t.c,.bool t.u,.bool x.b,.slice x.A x.l x.k,.slice x.B x.m x.d] 48)
         have S1:=Yh3 (Yb H.out hal) (Yb HBR.out hal) (Bl.new wr 48 [.int .i64 t.c,.bool t.u,.bool x.b,.slice x.A x.l x.k,.slice x.B x.m x.d])
         obtain ⟨g13,hg13⟩:∃ g,g=wr.heap.size:=⟨_,rfl⟩
         rw [<- hg13] at S1 ⊢
         clear H HBR hal hg13 u0 u1 u2 u3 u4 dk hgu
         generalize wr.alloc _=V1 at S1 ⊢
         have i0:=Bl.ld (HIN.q2.keep S1.p0) 0 rfl
         have i1:=Bl.ld (HIN.q2.keep S1.p0) 1 rfl
         have i2:=Bl.ld (HIN.q2.keep S1.p0) 2 rfl
         have i3:=Bl.ld (HIN.q2.keep S1.p0) 3 rfl
         have i4:=Bl.ld (HIN.q2.keep S1.p0) 4 rfl
         have i5:=Bl.ld (HIN.q2.keep S1.p0) 5 rfl
         have i6:=Bl.ld (HIN.q2.keep S1.p0) 6 rfl
         have v0:=Bl.ld S1.q2 0 rfl
         have v1:=Bl.ld S1.q2 1 rfl
         go_wp2_with fail
         refine (_root_.Go.Proofs.YtclaiidoomdklaaGreat.bound_c (HIN.p1.keep S1.p0) HFT.p0).mono ?_;rintro e w2 ⟨r,rfl,hc⟩
         obtain ⟨c,E,hT,hE⟩:=tell_cases l t.c t.u
         rw [hT] at hc ⊢
         dsimp only at hc ⊢
         have HT:=Lib.hid hT
         clear hT
         have hb:=hc.below
         have hcc:=hc
         obtain ⟨⟨s1,E1,n1,c1,b1,A1,l1_,k1,B1_,m1,d1⟩,rfl,-⟩:=hc
         dsimp only [Cm.agg] at hcc ⊢
         have S2:=Yh4 (Yb S1.p1 hb) (S1.q2.keep hb) hcc hb
         clear hb hcc i0 i1 i2 i3 i4 i5 i6 v0 v1
         go_upto_region 16 with (fail)
         have hal:=Ya w2 (.cells #[.int .i64 s1,.slice E1 n1 c1,.bool b1,.slice A1 l1_ k1,.slice B1_ m1 d1] 39)
         have S3:=Yh5 (Yb S2.p0 hal) (S2.p1.keep hal) (S2.p2.keep hal) (Yb S2.q3 hal) (Bl.new w2 39 [.int .i64 s1,.slice E1 n1 c1,.bool b1,.slice A1 l1_ k1,.slice B1_ m1 d1])
         obtain ⟨g14,hg14⟩:∃ g,g=w2.heap.size:=⟨_,rfl⟩
         rw [<- hg14] at S3 ⊢
         clear S2 hal hg14
         generalize w2.alloc _=V2 at S3 ⊢
         have l0:=Bl.ld (HBL.out.keep S3.p0) 0 rfl
         have l1:=Bl.ld (HBL.out.keep S3.p0) 1 rfl
         have l2:=Bl.ld (HBL.out.keep S3.p0) 2 rfl
         have l3:=Bl.ld (HBL.out.keep S3.p0) 3 rfl
         have l4:=Bl.ld (HBL.out.keep S3.p0) 4 rfl
         have l5:=Bl.ld (HBL.out.keep S3.p0) 5 rfl
         have l6:=Bl.ld (HBL.out.keep S3.p0) 6 rfl
         have v0:=Bl.ld S3.p1 0 rfl
         have v1:=Bl.ld S3.p1 1 rfl
         go_wp2_with fail
         refine (bound_d (HLP.out.keep S3.p0) HFT.p0 HRX.p0.2.2.1 HRX.p0.2.2.2.1 HRX.p0.2.2.2.2.1 HRX.p0.2.2.2.2.2.1 HRX.p0.1 HRX.p0.2.1).mono ?_;rintro e w4 ⟨r,rfl,hc⟩
         rw [HT.out] at hc ⊢
         dsimp only at hc ⊢
         have hb:=hc.below
         have hcc:=hc
         obtain ⟨⟨s2,E2,n2,c2,b2,A2,l2_,k2,B2_,m2,d2⟩,rfl,-⟩:=hc
         dsimp only [Cm.agg] at hcc ⊢
         have S4:=Yh4 (S3.p2.keep hb) (Yb S3.p3 hb) (S3.q4.keep hb) hcc.cv
         clear hb hcc S3 v0 v1 l0 l1 l2 l3 l4 l5 l6
         go_upto_region 17 with (fail)
         have hal:=Ya w4 (.cells #[.int .i64 s2,.slice E2 n2 c2,.bool b2,.slice A2 l2_ k2,.slice B2_ m2 d2] 39)
         have S5:=Yh5 (S4.p0.keep hal) (Yb S4.p1 hal) (S4.p2.keep hal) (S4.q3.keep hal) (Bl.new w4 39 [.int .i64 s2,.slice E2 n2 c2,.bool b2,.slice A2 l2_ k2,.slice B2_ m2 d2])
         obtain ⟨g16,hg16⟩:∃ g,g=w4.heap.size:=⟨_,rfl⟩
         rw [<- hg16] at S5 ⊢
         clear S4 hal hg16
         generalize w4.alloc _=V4 at S5 ⊢
         go_cut [117] (fun s wx=>s=.bool false/\Hid (Yg V4 wx))
         case first=>
          rcases hE with rfl | rfl
          · skip
            have y0:=Bl.ld S5.p2 0 rfl
            have y1:=Bl.ld S5.p2 1 rfl
            have y2:=Bl.ld S5.p2 2 rfl
            have y3:=Bl.ld S5.p2 3 rfl
            have y4:=Bl.ld S5.p2 4 rfl
            have x0:=Bl.ld S5.q4 0 rfl
            have x1:=Bl.ld S5.q4 1 rfl
            have x2:=Bl.ld S5.q4 2 rfl
            have x3:=Bl.ld S5.q4 3 rfl
            have x4:=Bl.ld S5.q4 4 rfl
            go_wp2_with fail
            refine (_root_.Go.Proofs.YtclaiidoomdklaaGreat.sameCons_c S5.p0.cv S5.p3).mono ?_;rintro e w5 ⟨rfl,hb⟩
            rw [decide_eq_true rfl]
            have HBB:=Lib.hid hb
            clear hb y0 x0 y1 x1 y2 x2 y3 x3 y4 x4
            go_wp2_with fail
            go_meet
            exact ⟨rfl,HBB.out⟩
          go_wp2_with fail
          go_meet
          exact ⟨rfl,below_nil⟩
         case rest=>
          obtain ⟨rfl,HQ⟩:=hcut
          generalize wc=V5 at HQ ⊢
          have S6:=Yh3 (S5.p0.keep HQ.out) (Yb S5.p1 HQ.out) (S5.p2.keep HQ.out)
          clear S5 HQ
          have y0:=Bl.ld S6.q2 0 rfl
          have y1:=Bl.ld S6.q2 1 rfl
          have y2:=Bl.ld S6.q2 2 rfl
          have y3:=Bl.ld S6.q2 3 rfl
          have y4:=Bl.ld S6.q2 4 rfl
          go_wp2_with fail
          refine (spoil_c S6.p0).mono ?_;rintro e w6 ⟨rfl,hb⟩
          have HBB:=Lib.hid (Yb S1.p0 (below_trd S6.p1 hb))
          clear hb y0 y1 y2 y3 y4
          go_wp2_with fail
          case roundEnd=>exact ⟨⟨k+1,by go_num,Yo,HBB.out⟩,by simp [intOf];omega⟩
       obtain rfl:n=k:=by omega
       have dk:¬ (n:Int)<(n:Int):=Yo
       have l0:=Bl.ld (HBL.out.keep (Yb HIN.p0 H.out)) 0 rfl
       have l1:=Bl.ld (HBL.out.keep (Yb HIN.p0 H.out)) 1 rfl
       have l2:=Bl.ld (HBL.out.keep (Yb HIN.p0 H.out)) 2 rfl
       have l3:=Bl.ld (HBL.out.keep (Yb HIN.p0 H.out)) 3 rfl
       have l4:=Bl.ld (HBL.out.keep (Yb HIN.p0 H.out)) 4 rfl
       have l5:=Bl.ld (HBL.out.keep (Yb HIN.p0 H.out)) 5 rfl
       have l6:=Bl.ld (HBL.out.keep (Yb HIN.p0 H.out)) 6 rfl
       have i0:=Bl.ld (HIN.q2.keep H.out) 0 rfl
       have i1:=Bl.ld (HIN.q2.keep H.out) 1 rfl
       have i2:=Bl.ld (HIN.q2.keep H.out) 2 rfl
       have i3:=Bl.ld (HIN.q2.keep H.out) 3 rfl
       have i4:=Bl.ld (HIN.q2.keep H.out) 4 rfl
       have i5:=Bl.ld (HIN.q2.keep H.out) 5 rfl
       have i6:=Bl.ld (HIN.q2.keep H.out) 6 rfl
       go_wp2_with fail
       refine (same_l (HIN.p1.keep H.out) (HLP.out.keep (Yb HIN.p0 H.out))).mono ?_;rintro e w7 ⟨rfl,hb⟩
       have HBB:=Lib.hid (Yb (Yb HIN.p0 H.out) hb)
       clear hb i0 i1 i2 i3 i4 i5 i6 l0 l1 l2 l3 l4 l5 l6
       go_wp2_with fail
       go_ret
       exact ⟨rfl,Yb HBW.out HBB.out⟩
end I
end
end
section
open Go Go.ChangeShapes Go.WideShapes Go.ChangeAt Go.RowKit Pl
section
variable {H:Type} {enc:TypeId × Value->H} {W W':World} {base:Nat} {v:Value} {d:DataW H} {p:List MemPlace}
def Wg (t:TypeId) (d:DataW H):Prop:=∀ x∈d.weights Tryz.prog t,x<=reachBytes
theorem wAll_mem {e:TypeId} {ds:List (DataW H)} {d:DataW H} (hd:d∈ds) {x:Nat} (hx:x∈d.weights Tryz.prog e):x∈DataW.weightsAll Tryz.prog e ds:=by
 induction ds with
 | nil=>cases hd
 | cons y r ih=>
  simp only [DataW.weightsAll,List.mem_append]
  rcases List.mem_cons.1 hd with rfl | h
  · exact .inl hx
  · exact .inr (ih h)
theorem Wg.slice {t e:TypeId} {es sp:List (DataW H)} (ht:Tryz.prog.underlying t=some (.slice e)) (h:Wg t (.slice es sp)):(es.length+sp.length)*Tryz.prog.bytesOf e<=reachBytes/\∀ d∈es,Wg e d:=by
 have e1:(DataW.slice es sp).weights Tryz.prog t=(es.length+sp.length)*Tryz.prog.bytesOf e::(DataW.weightsAll Tryz.prog e es++DataW.weightsAll Tryz.prog e sp):=by
  simp only [DataW.weights,ht]
 unfold Wg at h
 rw [e1] at h
 refine ⟨h _ (List.mem_cons_self ..),fun d hd x hx=>h x (List.mem_cons_of_mem _ (List.mem_append_left _ (wAll_mem hd hx)))⟩
theorem Wg.agg {t:TypeId} {fs:Array Field} {ps:List (DataW H)} (ht:Tryz.prog.underlying t=some (.struct fs)) (h:Wg t (.agg ps)):∀ x∈DataW.weightsEach Tryz.prog (fs.toList.map (·.type)) ps,x<=reachBytes:=by
 have e1:(DataW.agg ps).weights Tryz.prog t=DataW.weightsEach Tryz.prog (fs.toList.map (·.type)) ps:=by
  simp only [DataW.weights,ht]
 unfold Wg at h
 rw [e1] at h
 exact h
theorem each_cons {t:TypeId} {ts:List TypeId} {d:DataW H} {r:List (DataW H)} (h:∀ x∈DataW.weightsEach Tryz.prog (t::ts) (d::r),x<=reachBytes):Wg t d/\∀ x∈DataW.weightsEach Tryz.prog ts r,x<=reachBytes:=by
 simp only [DataW.weightsEach,List.mem_append] at h
 exact ⟨fun x hx=>h x (.inl hx),fun x hx=>h x (.inr hx)⟩
theorem row_of {α:Type} [Inhabited α] {t e:TypeId} {s:Nat} {fuel:Nat} {y:DataW H × List MemPlace} (f:α->List Value) (Px:α->DataW H->Prop) (ht:Tryz.prog.underlying t=some (.slice e)) (hs:Tryz.prog.cellsOf e=s) (hf:∀ x,(f x).length=s) (h0:0<s)
 (hel:∀ n cs z,cs.length=s->DataW.trod enc Tryz.prog W 0 (fun _=>true) true n e cs=some z->∃ x,f x=cs/\Px x z.1)
 (h:DataW.trod enc Tryz.prog W 0 (fun _=>true) true fuel t [v]=some y):
 ∃ xs:List α,Rv W f v xs/\(Wg t y.1->xs.length*Tryz.prog.bytesOf e<=reachBytes/\∀ x∈xs,∃ d,Px x d/\Wg e d)/\∀ x∈xs,∃ d,Px x d:=by
 rcases Go.Deep.open_slice ht h with ⟨hcs,hx⟩ | ⟨a,len,cap,m,n,D,Pl,hcs,-,hl,hm,hmm,hx,hi⟩
 · obtain rfl:v=.slice none 0 0:=by simpa using hcs
   exact ⟨[],⟨none,0,rfl,Nat.le_refl _,Nat.zero_le _,fun _=>rfl,.inl rfl⟩,fun _=>⟨by simp,by simp⟩,by simp⟩
 · obtain rfl:v=.slice (some a) len cap:=by simpa using hcs
   have hlm:len<=m:=by simp only [if_true] at hmm;omega
   obtain ⟨X,hX⟩:=Go.Deep.choose_lt (α:=α) (n:=len) (p:=fun i x=>(∀ j u,(f x)[j]?=some u->W.cell? ((a.add (i*s)).add j)=some u)/\Px x (D i)) (fun i hil=>by
    obtain ⟨cs',h1,h2⟩:=hi i Yo
    rw [hs] at h1
    obtain ⟨-,h3,h4⟩:=World.cells?_some h1
    obtain ⟨x,hx1,hx2⟩:=hel _ _ _ h3 h2
    refine ⟨x,fun j u hj=>?_,hx2⟩
    rw [hx1] at hj
    have hjs:j<s:=by rw [<- h3];exact (List.getElem?_eq_some_iff.1 hj).1
    rw [h4 j hjs];exact hj)
   refine ⟨(List.range len).map X,⟨some a,cap,by simp,by simpa using hl,hm,by simp,?_⟩,fun hw=>⟨?_,fun x hx'=>?_⟩,fun x hx'=>?_⟩
   · rcases Nat.eq_zero_or_pos len with hz | hp
     · left;subst hz;rfl
     · have c0:=(hX 0 hp).1 0
       have hfx:∃ u,(f (X 0))[0]?=some u:=⟨_,List.getElem?_eq_getElem (by rw [hf];exact h0)⟩
       obtain ⟨u0,hu0⟩:=hfx
       have c0:=c0 u0 hu0
       obtain ⟨b,off,spot⟩:=a
       have hspot:spot=none:=by simpa [Addr.add] using World.cell?_spot c0
       subst hspot
       refine .inr ⟨b,off,rfl,?_,fun i u hu=>?_⟩
       · have:=World.block_lt_of_cell? W _ c0
         simpa [Addr.add] using this
       · have hlen:i<len*s:=by
          have:=(List.getElem?_eq_some_iff.1 hu).1
          rw [flat_len hf,List.length_map,List.length_range] at this
          exact this
         have hi1:i / s<len:=(Nat.div_lt_iff_lt_mul h0).2 hlen
         have hi2:i % s<s:=Nat.mod_lt _ h0
         have hxi:((List.range len).map X)[i / s]?=some (X (i / s)):=by rw [List.getElem?_map,List.getElem?_range hi1];rfl
         obtain ⟨u',hu'⟩:∃ u',(f (X (i / s)))[i % s]?=some u':=⟨_,List.getElem?_eq_getElem (by rw [hf];exact hi2)⟩
         have e2:=flat_at hf hxi hu'
         have e3:i / s*s+i % s=i:=by rw [Nat.mul_comm];exact Nat.div_add_mod i s
         rw [e3] at e2
         rw [e2] at hu
         have hc:=(hX (i / s) hi1).1 (i % s) u' hu'
         rw [Go.Deep.add_add,e3,Go.WideShapes.add_plain] at hc
         rw [<- Option.some.inj hu];exact hc
   · rw [hx] at hw
     have:=(Wg.slice ht hw).1
     simp only [List.length_map,List.length_range] at this ⊢
     exact Nat.le_trans (Nat.mul_le_mul_right _ (Nat.le_add_right ..)) this
   · rw [hx] at hw
     obtain ⟨i,hi',rfl⟩:=List.mem_map.1 hx'
     have hil:=List.mem_range.1 hi'
     exact ⟨D i,(hX i hil).2,(Wg.slice ht hw).2 _ (List.mem_map.2 ⟨i,hi',rfl⟩)⟩
   · obtain ⟨i,hi',rfl⟩:=List.mem_map.1 hx'
     exact ⟨D i,(hX i (List.mem_range.1 hi')).2⟩
end
end
section
open Go Go.ChangeShapes Go.WideShapes Go.ChangeAt Go.RowKit Pl
section
variable {H:Type} {enc:TypeId × Value->H} {W W':World} {base:Nat} {v:Value} {d:DataW H} {p:List MemPlace}
theorem struct7 {P:Program} {w:World} {b:Nat} {sp:Nat->Bool} {hd:Bool} {t:TypeId} {f0 f1 f2 f3 f4 f5 f6:Field} {fuel:Nat} {cs:List Value} {x:DataW H × List MemPlace} (ht:P.underlying t=some (.struct #[f0,f1,f2,f3,f4,f5,f6])) (h:DataW.trod enc P w b sp hd fuel t cs=some x):
 ∃ y0 y1 y2 y3 y4 y5 y6 n,x.1=.agg [y0.1,y1.1,y2.1,y3.1,y4.1,y5.1,y6.1]/\cs.length=P.cellsOf t/\DataW.trod enc P w b sp hd n f0.type ((cs.drop f0.offset).take (P.cellsOf f0.type))=some y0/\DataW.trod enc P w b sp hd n f1.type ((cs.drop f1.offset).take (P.cellsOf f1.type))=some y1/\DataW.trod enc P w b sp hd n f2.type ((cs.drop f2.offset).take (P.cellsOf f2.type))=some y2/\DataW.trod enc P w b sp hd n f3.type ((cs.drop f3.offset).take (P.cellsOf f3.type))=some y3/\DataW.trod enc P w b sp hd n f4.type ((cs.drop f4.offset).take (P.cellsOf f4.type))=some y4/\DataW.trod enc P w b sp hd n f5.type ((cs.drop f5.offset).take (P.cellsOf f5.type))=some y5/\DataW.trod enc P w b sp hd n f6.type ((cs.drop f6.offset).take (P.cellsOf f6.type))=some y6:=by
 obtain ⟨xs,n,_,rfl,hl,hlen,hf⟩:=DataW.trod_struct ht h
 match xs,hlen with
 | [y0,y1,y2,y3,y4,y5,y6],_=>exact ⟨y0,y1,y2,y3,y4,y5,y6,n,by simp,hl,by simpa using hf 0 f0 rfl,by simpa using hf 1 f1 rfl,by simpa using hf 2 f2 rfl,by simpa using hf 3 f3 rfl,by simpa using hf 4 f4 rfl,by simpa using hf 5 f5 rfl,by simpa using hf 6 f6 rfl⟩
theorem list3 {α:Type} {l:List α} (h:l.length=3):∃ a b c,l=[a,b,c]:=by
 match l,h with
 | [a,b,c],_=>exact ⟨a,b,c,rfl⟩
theorem list4 {α:Type} {l:List α} (h:l.length=4):∃ a b c d,l=[a,b,c,d]:=by
 match l,h with
 | [a,b,c,d],_=>exact ⟨a,b,c,d,rfl⟩
theorem list5 {α:Type} {l:List α} (h:l.length=5):∃ a b c d e,l=[a,b,c,d,e]:=by
 match l,h with
 | [a,b,c,d,e],_=>exact ⟨a,b,c,d,e,rfl⟩
theorem list7 {α:Type} {l:List α} (h:l.length=7):∃ a b c d e f g,l=[a,b,c,d,e,f,g]:=by
 match l,h with
 | [a,b,c,d,e,f,g],_=>exact ⟨a,b,c,d,e,f,g,rfl⟩
theorem zip_of {α β:Type} {P:α->β->Prop}:∀ {xs:List α},(∀ x∈xs,∃ y,P x y)->∃ ys,Zip2 P xs ys
 | [],_=>⟨[],Zip2.nil⟩
 | x::xs,h=>by
  obtain ⟨y,hy⟩:=h x (List.mem_cons_self ..)
  obtain ⟨ys,hl,hz⟩:=zip_of fun z hz=>h z (List.mem_cons_of_mem _ hz)
  refine ⟨y::ys,by simp [hl],fun i a b ha hb=>?_⟩
  cases i with
  | zero=>rw [List.getElem?_cons_zero] at ha hb;cases ha;cases hb;exact hy
  | succ i=>rw [List.getElem?_cons_succ] at ha hb;exact hz i a b ha hb
theorem zip_mem {α β:Type} {P:α->β->Prop} {xs:List α} {ys:List β} (h:Zip2 P xs ys) {y:β} (hy:y∈ys):∃ x∈xs,P x y:=by
 obtain ⟨i,hi⟩:=List.getElem?_of_mem hy
 obtain ⟨x,hx,hp⟩:=h.left hi
 exact ⟨x,List.mem_of_getElem? hx,hp⟩
def wcs (n:Nat):List Value:=[.int .u64 (n:Int)]
theorem word_reach {n:Nat} (h:n*Tryz.prog.bytesOf 155<=reachBytes):n<=17592186044416:=by
 rw [show Tryz.prog.bytesOf 155=8 by kernel_rfl] at h
 unfold reachBytes at h;omega
theorem words_w {fuel:Nat} {y:DataW H × List MemPlace} (h:DataW.trod enc Tryz.prog W 0 (fun _=>true) true fuel 33 [v]=some y):∃ xs,Nl W v xs/\(Wg 33 y.1->xs.length<=17592186044416):=by
 obtain ⟨xs,⟨A,cap,e1,h2,h3,h4,h5⟩,h6,h7⟩:=row_of (α:=Nat) (s:=1) wcs (fun x _=>x<WB) Tryz.underlying33 (by kernel_rfl) (fun _=>rfl) Yd (fun n cs z hl hz=>by
  obtain ⟨k,hk,-,hw⟩:=DataW.trod_int Tryz.underlying155 hz
  have hb:=bounds_u64 hw
  refine ⟨k.toNat,?_,by rw [WB_eq];omega⟩
  rw [hk]
  show [Value.int .u64 ((k.toNat:Nat):Int)]=_
  rw [Int.toNat_of_nonneg hb.1]) h
 refine ⟨xs,⟨A,cap,e1,⟨fun x hx=>?_,?_⟩,h2,h3,h4⟩,fun hw=>word_reach (h6 hw).1⟩
 · obtain ⟨_,hd⟩:=h7 x hx;exact hd
 · rcases h5 with h5 | ⟨g,o,e,hg,hc⟩
   · left
     have:=congrArg List.length h5
     rw [flat_len (s:=1) (fun _=>rfl)] at this
     exact List.eq_nil_of_length_eq_zero (by simpa using this)
   · exact .inr ⟨g,o,e,fun j x hj=>by
      have:=flat_at (f:=wcs) (s:=1) (fun _=>rfl) hj (j:=0) (u:=.int .u64 (x:Int)) rfl
      rw [Nat.mul_one,Nat.add_zero] at this
      exact hc j _ this⟩
def Cnt (f:Fx):Prop:=f.xs.length<=17592186044416/\f.ds.length<=17592186044416
theorem rat_cells {n:Nat} {cs:List Value} {z:DataW H × List MemPlace} (h:DataW.trod enc Tryz.prog W 0 (fun _=>true) true n 37 cs=some z):∃ x:Rm,x.cs=cs/\∃ f,Fv W x.num f/\(Wg 37 z.1->Cnt f):=by
 obtain ⟨y0,y1,m,rfl,hl,h0,h1⟩:=trod_struct2 Tryz.underlying37 h
 obtain ⟨c0,c1,c2,rfl⟩:=list3 (hl.trans (show Tryz.prog.cellsOf 37=3 by kernel_rfl))
 have e0:Tryz.prog.cellsOf 35=2:=by kernel_rfl
 have e1:Tryz.prog.cellsOf 33=1:=by kernel_rfl
 simp only [e0,e1] at h0 h1
 obtain ⟨z0,z1,k,rfl,-,g0,g1⟩:=trod_struct2 Tryz.underlying35 h0
 have e2:Tryz.prog.cellsOf 4=1:=by kernel_rfl
 simp only [e1,e2] at g0 g1
 obtain ⟨b,e3,-⟩:=DataW.trod_bool Tryz.underlying4 g0
 obtain rfl:c0=.bool b:=by simpa using e3
 obtain ⟨xs,hxs,b1⟩:=words_w (v:=c1) (by simpa using g1)
 obtain ⟨ds,hds,b2⟩:=words_w (v:=c2) (by simpa using h1)
 obtain ⟨A,c,rfl,-⟩:=hxs.shape
 obtain ⟨B,k',rfl,-⟩:=hds.shape
 refine ⟨⟨b,A,xs.length,c,B,ds.length,k'⟩,rfl,⟨b,xs,ds⟩,⟨_,_,rfl,hxs,hds⟩,fun hw=>?_⟩
 have w0:=Wg.agg Tryz.underlying37 hw
 obtain ⟨w1,w2⟩:=each_cons w0
 obtain ⟨w3,-⟩:=each_cons w2
 have w4:=Wg.agg Tryz.underlying35 w1
 obtain ⟨-,w5⟩:=each_cons w4
 obtain ⟨w6,-⟩:=each_cons w5
 exact ⟨b1 w6,b2 w3⟩
instance:Inhabited Rm:=⟨⟨false,none,0,0,none,0,0⟩⟩
instance:Inhabited Tm:=⟨⟨0,false,none,0,0,none,0,0,0⟩⟩
instance:Inhabited Sl:=⟨⟨none,0,0⟩⟩
instance:Inhabited Um:=⟨⟨0,false,false,none,0,0,none,0,0⟩⟩
theorem cells_int:Tryz.prog.cellsOf 3=1:=by kernel_rfl
theorem cells_bool:Tryz.prog.cellsOf 4=1:=by kernel_rfl
theorem cells_rat:Tryz.prog.cellsOf 37=3:=by kernel_rfl
theorem rats_w {fuel:Nat} {y:DataW H × List MemPlace} (h:DataW.trod enc Tryz.prog W 0 (fun _=>true) true fuel 24 [v]=some y):∃ fs,Rx W v fs/\(Wg 24 y.1->∀ f∈fs,Cnt f):=by
 obtain ⟨xs,h1,h2,h3⟩:=row_of (α:=Rm) (s:=3) Rm.cs (fun x d=>∃ f,Fv W x.num f/\(Wg 37 d->Cnt f)) Tryz.underlying24 cells_rat Rm.len Yd (fun n cs z hl hz=>rat_cells hz) h
 by_cases hw:Wg 24 y.1
 · obtain ⟨fs,hz⟩:=zip_of (P:=fun (x:Rm) f=>Fv W x.num f/\Cnt f) (fun x hx=>by
    obtain ⟨d,⟨f,hf1,hf2⟩,hd⟩:=(h2 hw).2 x hx
    exact ⟨f,hf1,hf2 hd⟩)
   exact ⟨fs,⟨xs,h1,hz.imp fun x f hf=>hf.1⟩,fun _ f hf=>by obtain ⟨x,-,hx⟩:=zip_mem hz hf;exact hx.2⟩
 · obtain ⟨fs,hz⟩:=zip_of (P:=fun (x:Rm) f=>Fv W x.num f) (fun x hx=>by
    obtain ⟨d,f,hf1,-⟩:=h3 x hx
    exact ⟨f,hf1⟩)
   exact ⟨fs,⟨xs,h1,hz⟩,fun hw'=>absurd hw' hw⟩
theorem term_cells {n:Nat} {cs:List Value} {z:DataW H × List MemPlace} (h:DataW.trod enc Tryz.prog W 0 (fun _=>true) true n 85 cs=some z):∃ x:Tm,x.cs=cs/\∃ t:Int × Fx,(x.c=t.1/\x.q=t.2.q/\Fv W x.num t.2)/\(Wg 85 z.1->Cnt t.2):=by
 obtain ⟨y0,y1,m,rfl,hl,h0,h1⟩:=trod_struct2 Tryz.underlying85 h
 obtain ⟨c0,c1,c2,c3,rfl⟩:=list4 (hl.trans (show Tryz.prog.cellsOf 85=4 by kernel_rfl))
 simp only [cells_int,cells_rat] at h0 h1
 obtain ⟨k,e0,-,-⟩:=DataW.trod_int Tryz.underlying3 h0
 obtain rfl:c0=.int .i64 k:=by simpa using e0
 obtain ⟨x,hx,f,hf,hc⟩:=rat_cells h1
 have hx0:x.cs=[c1,c2,c3]:=by simpa using hx
 have hx:[.bool x.b,.slice x.A x.l x.k,.slice x.B x.m x.d]=[c1,c2,c3]:=hx0
 injection hx with e1 hx
 injection hx with e2 hx
 injection hx with e3 hx
 subst e1;subst e2;subst e3
 refine ⟨⟨k,x.b,x.A,x.l,x.k,x.B,x.m,x.d,f.q⟩,rfl,(k,f),⟨rfl,rfl,hf⟩,fun hw=>?_⟩
 have w0:=Wg.agg Tryz.underlying85 hw
 obtain ⟨-,w2⟩:=each_cons w0
 obtain ⟨w3,-⟩:=each_cons w2
 exact hc w3
theorem terms_w {fuel:Nat} {y:DataW H × List MemPlace} (h:DataW.trod enc Tryz.prog W 0 (fun _=>true) true fuel 32 [v]=some y):∃ ts,Tx W v ts/\(Wg 32 y.1->∀ t∈ts,Cnt t.2):=by
 obtain ⟨xs,h1,h2,h3⟩:=row_of (α:=Tm) (s:=4) Tm.cs (fun x d=>∃ t:Int × Fx,(x.c=t.1/\x.q=t.2.q/\Fv W x.num t.2)/\(Wg 85 d->Cnt t.2)) Tryz.underlying32 (by kernel_rfl) Tm.len Yd (fun n cs z hl hz=>term_cells hz) h
 by_cases hw:Wg 32 y.1
 · obtain ⟨fs,hz⟩:=zip_of (P:=fun (x:Tm) (t:Int × Fx)=>(x.c=t.1/\x.q=t.2.q/\Fv W x.num t.2)/\Cnt t.2) (fun x hx=>by
    obtain ⟨d,⟨f,hf1,hf2⟩,hd⟩:=(h2 hw).2 x hx
    exact ⟨f,hf1,hf2 hd⟩)
   exact ⟨fs,⟨xs,h1,hz.imp fun x f hf=>hf.1⟩,fun _ f hf=>by obtain ⟨x,-,hx⟩:=zip_mem hz hf;exact hx.2⟩
 · obtain ⟨fs,hz⟩:=zip_of (P:=fun (x:Tm) (t:Int × Fx)=>(x.c=t.1/\x.q=t.2.q/\Fv W x.num t.2)) (fun x hx=>by
    obtain ⟨d,f,hf1,-⟩:=h3 x hx
    exact ⟨f,hf1⟩)
   exact ⟨fs,⟨xs,h1,hz⟩,fun hw'=>absurd hw' hw⟩
theorem cols_w {fuel:Nat} {y:DataW H × List MemPlace} (h:DataW.trod enc Tryz.prog W 0 (fun _=>true) true fuel 22 [v]=some y):∃ cs,Gx W v cs/\(Wg 22 y.1->∀ c∈cs,∀ t∈c,Cnt t.2):=by
 obtain ⟨xs,h1,h2,h3⟩:=row_of (α:=Sl) (s:=1) Sl.cs (fun x d=>∃ ts,Tx W x.v ts/\(Wg 32 d->∀ t∈ts,Cnt t.2)) Tryz.underlying22 (by kernel_rfl) Sl.len Yd (fun n cs z hl hz=>by
  match cs,hl with
  | [c],_=>
   obtain ⟨ts,ht,hw⟩:=terms_w hz
   obtain ⟨A,cap,rfl,-⟩:=ht.shape
   exact ⟨⟨A,ts.length,cap⟩,rfl,ts,ht,hw⟩) h
 by_cases hw:Wg 22 y.1
 · obtain ⟨fs,hz⟩:=zip_of (P:=fun (x:Sl) (ts:List (Int × Fx))=>Tx W x.v ts/\∀ t∈ts,Cnt t.2) (fun x hx=>by
    obtain ⟨d,⟨f,hf1,hf2⟩,hd⟩:=(h2 hw).2 x hx
    exact ⟨f,hf1,hf2 hd⟩)
   exact ⟨fs,⟨xs,h1,hz.imp fun x f hf=>hf.1⟩,fun _ f hf=>by obtain ⟨x,-,hx⟩:=zip_mem hz hf;exact hx.2⟩
 · obtain ⟨fs,hz⟩:=zip_of (P:=fun (x:Sl) (ts:List (Int × Fx))=>Tx W x.v ts) (fun x hx=>by
    obtain ⟨d,f,hf1,-⟩:=h3 x hx
    exact ⟨f,hf1⟩)
   exact ⟨fs,⟨xs,h1,hz⟩,fun hw'=>absurd hw' hw⟩
theorem bools_w {fuel:Nat} {y:DataW H × List MemPlace} (h:DataW.trod enc Tryz.prog W 0 (fun _=>true) true fuel 23 [v]=some y):∃ bs,Ex W v bs/\(Wg 23 y.1->bs.length<=140737488355328):=by
 obtain ⟨xs,h1,h2,-⟩:=row_of (α:=Bool) (s:=1) bcs (fun _ _=>True) Tryz.underlying23 (by kernel_rfl) bcs_len Yd (fun n cs z hl hz=>by
  obtain ⟨b,e,-⟩:=DataW.trod_bool Tryz.underlying4 hz
  exact ⟨b,e.symm,trivial⟩) h
 exact ⟨xs,h1,fun hw=>by
  have:=(h2 hw).1
  rw [show Tryz.prog.bytesOf 4=1 by kernel_rfl] at this
  unfold reachBytes at this;omega⟩
theorem use_cells {n:Nat} {cs:List Value} {z:DataW H × List MemPlace} (h:DataW.trod enc Tryz.prog W 0 (fun _=>true) true n 48 cs=some z):∃ x:Um,x.cs=cs/\∃ t:Ux,(x.c=t.c/\x.u=t.u/\Fv W x.num t.f)/\(Wg 48 z.1->Cnt t.f):=by
 obtain ⟨y0,y1,y2,m,rfl,hl,h0,h1,h2⟩:=Go.Deep.trod_struct3 Tryz.underlying48 h
 obtain ⟨c0,c1,c2,c3,c4,rfl⟩:=list5 (hl.trans (show Tryz.prog.cellsOf 48=5 by kernel_rfl))
 simp only [cells_int,cells_rat,cells_bool] at h0 h1 h2
 obtain ⟨k,e0,-,-⟩:=DataW.trod_int Tryz.underlying3 h0
 obtain rfl:c0=.int .i64 k:=by simpa using e0
 obtain ⟨b,e1,-⟩:=DataW.trod_bool Tryz.underlying4 h1
 obtain rfl:c1=.bool b:=by simpa using e1
 obtain ⟨x,hx,f,hf,hc⟩:=rat_cells h2
 have hx0:x.cs=[c2,c3,c4]:=by simpa using hx
 have hx:[.bool x.b,.slice x.A x.l x.k,.slice x.B x.m x.d]=[c2,c3,c4]:=hx0
 injection hx with e1 hx
 injection hx with e2 hx
 injection hx with e3 hx
 subst e1;subst e2;subst e3
 refine ⟨⟨k,b,x.b,x.A,x.l,x.k,x.B,x.m,x.d⟩,rfl,⟨k,b,f⟩,⟨rfl,rfl,hf⟩,fun hw=>?_⟩
 have w0:=Wg.agg Tryz.underlying48 hw
 obtain ⟨-,w2⟩:=each_cons w0
 obtain ⟨-,w3⟩:=each_cons w2
 obtain ⟨w4,-⟩:=each_cons w3
 exact hc w4
theorem uses_w {fuel:Nat} {y:DataW H × List MemPlace} (h:DataW.trod enc Tryz.prog W 0 (fun _=>true) true fuel 27 [v]=some y):∃ us,Uv W v us/\(Wg 27 y.1->∀ u∈us,Cnt u.f):=by
 obtain ⟨xs,h1,h2,h3⟩:=row_of (α:=Um) (s:=5) Um.cs (fun x d=>∃ t:Ux,(x.c=t.c/\x.u=t.u/\Fv W x.num t.f)/\(Wg 48 d->Cnt t.f)) Tryz.underlying27 (by kernel_rfl) Um.len Yd (fun n cs z hl hz=>use_cells hz) h
 by_cases hw:Wg 27 y.1
 · obtain ⟨fs,hz⟩:=zip_of (P:=fun (x:Um) (t:Ux)=>(x.c=t.c/\x.u=t.u/\Fv W x.num t.f)/\Cnt t.f) (fun x hx=>by
    obtain ⟨d,⟨f,hf1,hf2⟩,hd⟩:=(h2 hw).2 x hx
    exact ⟨f,hf1,hf2 hd⟩)
   exact ⟨fs,⟨xs,h1,hz.imp fun x f hf=>hf.1⟩,fun _ f hf=>by obtain ⟨x,-,hx⟩:=zip_mem hz hf;exact hx.2⟩
 · obtain ⟨fs,hz⟩:=zip_of (P:=fun (x:Um) (t:Ux)=>(x.c=t.c/\x.u=t.u/\Fv W x.num t.f)) (fun x hx=>by
    obtain ⟨d,f,hf1,-⟩:=h3 x hx
    exact ⟨f,hf1⟩)
   exact ⟨fs,⟨xs,h1,hz⟩,fun hw'=>absurd hw' hw⟩
theorem cells_sl1:Tryz.prog.cellsOf 22=1:=by kernel_rfl
theorem cells_sl2:Tryz.prog.cellsOf 23=1:=by kernel_rfl
theorem cells_sl3:Tryz.prog.cellsOf 24=1:=by kernel_rfl
theorem lp_arg (hval:Value.okWide Tryz.prog W .any base 26 v) (h:DataW.Trod enc Tryz.prog W 0 (fun _=>true) true 26 v d p):∃ l,LPv W v l/\(Wg 26 d->Sane l/\l.hasLo.length<=140737488355328/\l.hasHi.length<=140737488355328):=by
 obtain ⟨cs,rfl,hsz⟩:=okWide_struct Tryz.underlying26 hval
 obtain ⟨fuel,hf⟩:=h
 obtain ⟨y0,y1,y2,y3,y4,y5,y6,n,hx,hl,h0,h1,h2,h3,h4,h5,h6⟩:=struct7 Tryz.underlying26 hf
 obtain ⟨l⟩:=cs
 have hl:l.length=7:=hsz.trans (show Tryz.prog.cellsOf 26=7 by kernel_rfl)
 obtain ⟨c0,c1,c2,c3,c4,c5,c6,rfl⟩:=list7 hl
 simp only [cells_int,cells_sl1,cells_sl2,cells_sl3] at h0 h1 h2 h3 h4 h5 h6
 obtain ⟨k,e0,-,-⟩:=DataW.trod_int Tryz.underlying3 h0
 obtain rfl:c0=.int .i64 k:=by simpa [Value.cells] using e0
 obtain ⟨cols,g1,w1⟩:=cols_w (v:=c1) (by simpa [Value.cells] using h1)
 obtain ⟨bl,g2,w2⟩:=bools_w (v:=c2) (by simpa [Value.cells] using h2)
 obtain ⟨bh,g3,w3⟩:=bools_w (v:=c3) (by simpa [Value.cells] using h3)
 obtain ⟨lo,g4,w4⟩:=rats_w (v:=c4) (by simpa [Value.cells] using h4)
 obtain ⟨hi,g5,w5⟩:=rats_w (v:=c5) (by simpa [Value.cells] using h5)
 obtain ⟨co,g6,w6⟩:=rats_w (v:=c6) (by simpa [Value.cells] using h6)
 obtain ⟨A1,k1,rfl,-⟩:=g1.shape
 obtain ⟨A2,k2,rfl,-⟩:=g2.shape
 obtain ⟨A3,k3,rfl,-⟩:=g3.shape
 obtain ⟨A4,k4,rfl,-⟩:=g4.shape
 obtain ⟨A5,k5,rfl,-⟩:=g5.shape
 obtain ⟨A6,k6,rfl,-⟩:=g6.shape
 refine ⟨⟨k,cols,bl,bh,lo,hi,co⟩,⟨⟨k,⟨A1,_,k1⟩,⟨A2,_,k2⟩,⟨A3,_,k3⟩,⟨A4,_,k4⟩,⟨A5,_,k5⟩,⟨A6,_,k6⟩⟩,rfl,rfl,g1,g2,g3,g4,g5,g6⟩,fun hw=>?_⟩
 have hd:d=.agg [y0.1,y1.1,y2.1,y3.1,y4.1,y5.1,y6.1]:=hx
 rw [hd] at hw
 have u0:=Wg.agg Tryz.underlying26 hw
 obtain ⟨-,u1⟩:=each_cons u0
 obtain ⟨v1,u2⟩:=each_cons u1
 obtain ⟨v2,u3⟩:=each_cons u2
 obtain ⟨v3,u4⟩:=each_cons u3
 obtain ⟨v4,u5⟩:=each_cons u4
 obtain ⟨v5,u6⟩:=each_cons u5
 obtain ⟨v6,-⟩:=each_cons u6
 refine ⟨⟨fun c hc t ht=>?_,fun f hf=>?_⟩,w2 v2,w3 v3⟩
 · have:=w1 v1 c hc t ht
   exact ⟨Nat.le_trans this.1 Yd,Nat.le_trans this.2 Yd⟩
 · have:Cnt f:=by
    rcases hf with hf | hf | hf
    · exact w4 v4 f hf
    · exact w5 v5 f hf
    · exact w6 v6 f hf
   exact ⟨Nat.le_trans this.1 Yd,Nat.le_trans this.2 Yd⟩
end
end
section
open Go Go.ChangeShapes Go.WideShapes Go.ChangeAt Go.RowKit Pl
theorem own:ownKnob Tryz.prog.godebug=none:=by kernel_rfl
theorem laidOut:laidOutB Tryz.prog=true:=by kernel_rfl
section
variable {H:Type} {enc:TypeId × Value->H} {W W':World} {base:Nat} {v:Value} {d:DataW H} {p:List MemPlace}
theorem stays {t:TypeId} (hr:Tryz.prog.readableRec t=true) (hrow:t<Tryz.prog.types.size) (h:DataW.Trod enc Tryz.prog W 0 (fun _=>true) true t v d p) (hb:Below W.heap.size W W') (hlt:∀ x∈p,x.block<W.heap.size) {sp:Nat->Bool} (hsp:∀ x∈p,sp x.block=true):
 DataW.Trod enc Tryz.prog W' 0 sp true t v d p:=
 WideElems.Trod_stays laidOut hr hrow h (fun x hx=>hb.same (hlt x hx)) hsp
theorem cnt_of {f:Fx} (h:Cnt f):f.xs.length<=2305843009213693951/\f.ds.length<=2305843009213693951:=⟨Nat.le_trans h.1 Yd,Nat.le_trans h.2 Yd⟩
theorem uses_arg (hval:Value.okWide Tryz.prog W .any base 27 v) (h:DataW.Trod enc Tryz.prog W 0 (fun _=>true) true 27 v d p):∃ us,Uv W v us/\(Wg 27 d->∀ u∈us,Cnt u.f):=by
 obtain ⟨a,len,cap,rfl⟩:=okWide_slice Tryz.underlying27 hval
 obtain ⟨fuel,hf⟩:=h
 exact uses_w (y:=(d,p)) (by simpa [Value.cells] using hf)
end
end
section
open Go Go.RowKit Go.WideShapes Go.ChangeShapes
section
variable {H:Type} {enc:TypeId × Value->H} {P:Program}
theorem post_below {f:Func} {s:ChangeSpec} {apart fresh handsOn again:Bool} {W W':World} {args:Array Value} {v:Value} {ds gs:List (DataW H)} {pl pa pv:List MemPlace}
 (hW:DataW.Whole enc P f.params.toList s.vars apart W args.toList ds gs pl)
 (hres:∀ (b:Nat) (sp:Nat->Bool) (hd:Bool),DataW.TrodAll enc P W' b sp hd f.resultTypes.toList (v.resultList f.resultTypes.size) (s.fn H (ds++gs)).results [])
 (hargs:∀ sp:Nat->Bool,(∀ p∈pl,sp p.block=true)->DataW.TrodAll enc P W' 0 sp true f.params.toList args.toList (s.fn H (ds++gs)).args pa)
 (hvars:∀ sp:Nat->Bool,(∀ p∈pl,sp p.block=true)->DataW.TrodVars enc P W' sp s.vars (s.fn H (ds++gs)).vars pv)
 (hps:pl=pa++pv) (hb:Yg W W')
 (hok:∀ (j:Nat) (t:TypeId) (r:Value),f.resultTypes[j]?=some t->(v.resultList f.resultTypes.size)[j]?=some r->Value.okWide P W' .any 0 t r):
 s.post enc P f apart fresh handsOn again W args v W':=by
 have hlt:=fun p hp=>hW.lt p hp
 have hsp:∀ p∈pl,(fun b=>decide (b<W.heap.size)) p.block=true:=fun p hp=>decide_eq_true (hlt p hp)
 refine ⟨ds,gs,pl,[],pa,pv,hW,hres _ _ _,hargs _ hsp,hvars _ hsp,World.keptBut_mono (fun p hp=>⟨hp,?_⟩) (hb.frame (·∈pl)),fun _=>⟨hok,_,_,([]++pa)++pv,⟨[]++pa,pv,trodAll_append (hargs _ (fun _ _=>rfl)) (hres _ _ _),hvars _ (fun _ _=>rfl),rfl,?_,?_⟩,?_⟩⟩
 · rw [hps] at hp
   exact .inr (List.mem_append.1 hp)
 · obtain ⟨_,_,_,_,_,hz,_⟩:=hW
   intro b off hp
   have hin:MemPlace.cell b off∈pl:=by rw [hps];simpa using hp
   rw [hb.frozen (hlt _ hin)]
   exact hz b off hin
 · obtain ⟨_,_,_,_,_,_,hn⟩:=hW
   intro ha
   have:=hn ha
   rw [hps] at this
   simpa using this
 · intro p hp _
   rw [hps]
   simpa using hp
end
end
end Go.Proofs.YtclaiidoomdklaaGreat
