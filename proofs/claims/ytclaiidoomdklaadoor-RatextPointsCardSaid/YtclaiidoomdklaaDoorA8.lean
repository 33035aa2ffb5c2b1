/-
  nat: Text; the contracts of nat, of numbers; the document's examples.
-/
import Derived.Test.YtclaiidoomdklaaDoorA7
import Derived.Deep.LoopGhost
import Derived.Sort.OwnSorted
namespace Go.Proofs.YtclaiidoomdklaaDoor
open Go Go.RowKit Go.Proofs Pl
set_option linter.unusedVariables false

theorem string_info : (Tryd.prog.info? 9).map (fun i => (i.zero, i.size, i.bytes)) = some (some (.string ByteArray.empty), 1, 16) := by kernel_rfl
def strV (l : List UInt8) : Value := .string ⟨l.toArray⟩
theorem byWord_19 (A : Option Addr) (c la m : Nat) (w : World) (hx : Rd w A (dg WB m)) (hl : (dg WB m).length = la) (hlx : la ≤ c) (hcx : c ≤ maxLen) (hlen : la ≤ 17592186044416) :
    Calls Tryd.prog 53 #[.slice A la c, .int .u64 10000000000000000000] w fun e w' => ∃ v, e = .returned (.tuple #[v, .int .u64 ((m % P19 : Nat) : Int)]) ∧ Ow w' w.heap.size v (dg WB (m / P19)) ∧ Below w.heap.size w w' := by
  have h := byWord_any A c (dg WB m) P19 w hx (by omega) hcx P19_pos P19_lt (by omega)
  rw [hl, val_dg WB_one, P19_int] at h
  exact h

theorem strV_app (x y : List UInt8) : (⟨x.toArray⟩ ++ ⟨y.toArray⟩ : ByteArray) = ⟨(x ++ y).toArray⟩ := by
  apply ByteArray.ext
  simp [ByteArray.data_append]
theorem rev_join (ss : List (List UInt8)) : Lib.join ((ss.reverse.map fun l => (⟨l.toArray⟩ : ByteArray)).map (·.data.toList)) [] = ss.reverse.flatten := by
  have e : (ss.reverse.map fun l => (⟨l.toArray⟩ : ByteArray)).map (·.data.toList) = ss.reverse := by
    rw [List.map_map]
    conv => rhs; rw [← List.map_id ss.reverse]
    rfl
  rw [e, Lib.join]
  generalize ss.reverse = l
  unfold List.intercalate
  induction l with
  | nil => rfl
  | cons a l ih =>
    cases l with
    | nil => simp
    | cons b l => simp [List.intersperse] at ih ⊢; exact ih
/-- What the last two calls leave of the pieces. -/
theorem join_any (B0 : Nat) (p : Value) (ss : List (List UInt8)) (ls : Nat) (hls : ls = ss.length) (w : World) (ho : w.ownsRow B0 9 1 p ss.length (ss.map strV)) (h0 : ss ≠ []) (hl : ss.length ≤ 4294967296) (h20 : ∀ s ∈ ss, s.length ≤ 20) :
    ∃ g c, p = .slice (some ⟨g, 0, none⟩) ls c ∧ (Calls Tryd.prog 55 #[p] w fun e w' => e = .returned (.tuple #[]) ∧ Below B0 w w' ∧
      (Calls Tryd.prog 56 #[p, .string ⟨#[]⟩] w' fun e w'' => e = .returned (.string ⟨ss.reverse.flatten.toArray⟩) ∧ Below w'.heap.size w' w'')) := by
  subst hls
  have hpos : 0 < ss.length := List.length_pos_iff.2 h0
  obtain ⟨hlen, h | ⟨g, cap, cur, hv, hb, hh, c1, c2, c3, c4⟩⟩ := ho
  · exact absurd h.2 (by omega)
  subst hv
  rw [Nat.mul_one] at c4
  have hH : Go.Sort.Holds encStr w g 0 ss.toArray := holds_of_block hh c4
  refine ⟨g, cap, rfl, ?_⟩
  refine (Tryd.slices_Reverse_string g 0 cap ss w hH (by unfold maxLen at c2; omega)).mono ?_
  rintro e w' ⟨he, n, hw'⟩
  have hg : w.grownBy w' (some g) := by
    have := grownBy_sorted (w := w) (g := g) (n := n) (os := #[]) ss.reverse.toArray
    rw [Sort.grow_empty] at this
    rwa [hw']
  have hH' : Go.Sort.Holds encStr (Sort.ahead w n) g 0 ss.toArray := hH
  have hglt : g < w'.heap.size := Nat.lt_of_lt_of_le (heap_lt hh) hg.size
  refine ⟨he, (Below.refl _ _).grown hg (by have := heap_lt hh; omega) (fun j hj => by injection hj with hj; omega), ?_⟩
  have hx : (ss.reverse.map fun l => (⟨l.toArray⟩ : ByteArray)).length = ss.length := by simp
  have hj := Tryd.strings_Join g 0 cap (ss.reverse.map fun l => (⟨l.toArray⟩ : ByteArray)) ⟨#[]⟩ w' (fun j x hjx => by
    have hjl : j < ss.reverse.toArray.size := by
      have := (List.getElem?_eq_some_iff.1 hjx).1
      simpa using this
    have h1 := Sort.cell?_putRow encStr (Sort.ahead w n) g 0 ss.toArray ss.reverse.toArray hH' (by simp) j hjl
    rw [hw', h1]
    have hjl' : j < ss.length := by simpa using hjl
    rw [List.getElem?_map] at hjx
    rw [List.getElem?_eq_getElem (by simpa using hjl')] at hjx
    injection hjx with hjx
    subst hjx
    congr 2
    simp [hjl']) hglt (by rw [hx]; omega) (by rw [hx]; exact c1) (by
      rw [show (⟨#[]⟩ : ByteArray).data.toList = [] from rfl, rev_join]
      have := flat_len ss.reverse (fun s hs => h20 s (List.mem_reverse.1 hs))
      rw [List.length_reverse] at this
      omega)
  rw [hx, show (⟨#[]⟩ : ByteArray).data.toList = [] from rfl, rev_join] at hj
  exact hj
theorem text_put {w wr w3 w5 : World} {p nv : Value} {ss : List (List UInt8)} {nums : List Nat} {o : Obj} (ho : wr.ownsRow w.heap.size 9 1 p ss.length (ss.map strV)) (hbw : Below w.heap.size w wr) (hb : Below wr.heap.size wr w3) (hn : Ow w3 wr.heap.size nv nums)
    (hg : (w3.alloc o).grownBy w5 p.ownBlock) : Ow w5 w.heap.size nv nums ∧ Below w.heap.size w w5 := by
  have hal : Below w3.heap.size w3 (w3.alloc o) := (Below.refl _ _).alloc (Nat.le_refl _) _
  have h1 : (w3.alloc o).ownsRow w.heap.size 9 1 p ss.length (ss.map strV) := own_keepT (own_keepT ho (KeepT.below hb)) (KeepT.below hal)
  have h2 : Below w.heap.size w (w3.alloc o) := below_trans (below_trans hbw hb) hal
  refine ⟨⟨hn.1, own_mono (own_keepT (own_keepT hn.2 (KeepT.below hal)) (own_keepT_of h1 hg (by decide))) hbw.size⟩, h2.grown hg h2.size (fun j hj => own_ge h1 j hj)⟩
theorem repeat_nought (sB : ByteArray) (nd c : Nat) (hsz : sB.size = nd) (hc : nd + c = 19) (w : World) :
    Calls Tryd.prog 27 #[.string ⟨#[48]⟩, .int .i64 (c : Int)] w fun e w' => e = .returned (.string ⟨(List.replicate c (48 : UInt8)).toArray⟩) ∧ Below w.heap.size w w' := by
  have h := Tryd.strings_Repeat ⟨#[48]⟩ c w (by omega) (by show 1 * c ≤ _; omega)
  rw [show (⟨#[48]⟩ : ByteArray).data.toList = [48] from rfl, repeat_zero] at h
  exact h
set_option maxRecDepth 100000 in
set_option maxHeartbeats 1000000 in
theorem text_any (A : Option Addr) (c : Nat) (xs : List Nat) (w : World) (hx : Rd w A xs) (hlx : xs.length ≤ c) (hcx : c ≤ maxLen) (hlen : xs.length ≤ 1073741824) (htab : Tab w) :
    Calls Tryd.prog 34 #[.slice A xs.length c] w fun e w' => e = .returned (.string ⟨(Lib.decDigits (val WB xs)).toArray⟩) ∧ Below w.heap.size w w' := by
  have htx := trim_any A c xs w hx hlx hcx (by omega)
  have hlx3 : (dg WB (val WB xs)).length ≤ 1073741824 := by rw [← strip_eq_dg WB_one hx.1]; exact Nat.le_trans (strip_length_le _) hlen
  obtain ⟨N, hN⟩ : ∃ N, N = val WB xs := ⟨_, rfl⟩
  rw [← hN] at htx hlx3 ⊢
  obtain ⟨i0, hi, hz0, hz1, hz2⟩ := info_parts string_info
  have HTX := Lib.hid htx
  have HT := Lib.hid htab
  have HL := Lib.hid hlx3
  obtain ⟨l0, hl0⟩ : ∃ l0, l0 = (dg WB N).length := ⟨_, rfl⟩
  have HN0 := Lib.hid (show N < WB ^ l0 from le_of_dg_length WB_one (by rw [hl0]; exact Nat.le_refl _))
  have HL0 : l0 ≤ 1073741824 := by rw [hl0]; exact hlx3
  clear htx hx hlx hcx hlen hlx3 hN htab hl0
  go_enter Tryd.func34, Tryd.ntmps34
  go_wp2_with fail
  refine HTX.out.mono ?_; rintro e w1 ⟨v1, rfl, hO1, hb1⟩
  have HO1 := Lib.hid (And.intro hO1 hb1)
  clear hO1 hb1
  go_wp2_with fail
  go_loopg [0, 3] N (fun k a p wr => ∃ (la c : Nat) (A : Option Addr) (ss : List (List UInt8)), a = .slice A la c ∧ la ≤ c ∧ c ≤ maxLen ∧ Hid ((dg WB k).length = la ∧ la ≤ 1073741824 ∧ Pieces N k ss ∧ ss.length ≤ 2147483648) ∧
    Hid (Ow wr w.heap.size (.slice A la c) (dg WB k) ∧ wr.ownsRow w.heap.size 9 1 p ss.length (ss.map strV) ∧ Below w.heap.size w wr))
  case atStart =>
    obtain ⟨A1, c1, rfl, h1, h2⟩ := HO1.out.1.slice
    exact ⟨_, c1, A1, [], rfl, h1, h2, ⟨rfl, HL.out, Pieces.init N, by simp⟩, HO1.out.1, World.ownsRow_nil _ _ _ _, HO1.out.2⟩
  case round =>
    obtain ⟨la, c1, A1, ss, rfl, h1, h2, hv, hO⟩ := hrel
    by_cases h0 : la = 0
    · subst h0
      have hk : gk = 0 := (dg_eq_nil WB_one gk).1 (List.eq_nil_of_length_eq_zero hv.out.1)
      by_cases hN : N = 0
      · have hss := hv.out.2.2.1.zero hN
        have hp := hO.out.2.1
        rw [hss] at hp
        obtain ⟨A3, c3, rfl, -⟩ := own_slice hp
        have HN := Lib.hid hN
        clear hp hss hN hk
        go_wp2_with fail
        go_ret
        refine ⟨?_, hO.out.2.2⟩
        rw [HN.out, show Lib.decDigits 0 = [48] from by rw [Lib.decDigits, dif_pos (by decide)]; rfl]
        rfl
      · obtain ⟨p1, p2⟩ := hv.out.2.2.1.none hk hN
        have hln : ss.length ≤ 4294967296 := Nat.le_trans hv.out.2.2.2 (by decide)
        obtain ⟨ls, hls⟩ : ∃ ls, ls = ss.length := ⟨_, rfl⟩
        obtain ⟨g, c3, rfl, hj⟩ := join_any w.heap.size _ ss ls hls wr hO.out.2.1 p1 hln hv.out.2.2.1.len
        have hlp : ls ≠ 0 := by rw [hls]; exact fun h => p1 (List.eq_nil_of_length_eq_zero h)
        have hlb : ((ls : Int) == 0) = false := by simp; omega
        have HJ := Lib.hid hj
        have HP := Lib.hid p2
        clear hj p1 p2 hln hlp hN hk hls
        go_wp2_with fail
        refine HJ.out.mono ?_; rintro e w5 ⟨rfl, hb5, hj5⟩
        have HJ5 := Lib.hid hj5
        have HB5 := Lib.hid hb5
        clear hj5 hb5
        go_wp2_with fail
        refine HJ5.out.mono ?_; rintro e w6 ⟨rfl, hb6⟩
        have HB6 := Lib.hid hb6
        clear hb6
        go_wp2_with fail
        go_ret
        refine ⟨by rw [HP.out]; rfl, ?_⟩
        exact below_trans (hO.out.2.2.trans HB5.out) HB6.out
    · have hk : gk ≠ 0 := by
        rintro rfl
        have := hv.out.1
        rw [dg_zero] at this
        exact h0 this.symm
      have hpos : (0 : Int) < (la : Int) := by omega
      have hbw := byWord_19 A1 c1 la gk wr hO.out.1.rd hv.out.1 h1 h2 (by have := hv.out.2.1; omega)
      have hsh := hv.out.2.2.1.short hk HN0.out
      obtain ⟨r, hr⟩ : ∃ r, r = gk % P19 := ⟨_, rfl⟩
      have hrW : r < WB := by rw [hr]; exact rest_word gk
      have hrd : (Lib.decDigits r).length ≤ 19 := decDigits_len_le 19 r (by decide) (by rw [hr]; exact rest_lt gk)
      obtain ⟨nd, hnd⟩ : ∃ nd, nd = (Lib.decDigits r).length := ⟨_, rfl⟩
      obtain ⟨sB, hsB⟩ : ∃ sB : ByteArray, sB = ⟨(Lib.decDigits r).toArray⟩ := ⟨_, rfl⟩
      have hsz : sB.size = nd := by rw [hsB, hnd]; simp [ByteArray.size]
      have hfm := fun W (h : Tab W) => formatUint_any r hrW W h
      rw [← hr] at hbw
      rw [← hsB] at hfm
      have HF := Lib.hid hfm
      have HBW := Lib.hid hbw
      have HX := Lib.hid (And.intro hsh (And.intro hr (And.intro hrd (And.intro hnd (And.intro hsB hk)))))
      have HSZ := Lib.hid hsz
      have hTw : Tab wr := HT.out.keep hO.out.2.2
      have HTW := Lib.hid hTw
      clear hfm hbw hsh hr hrW hrd hnd hsB hk hTw hsz
      go_wp2_with fail
      refine HBW.out.mono ?_; rintro e w2 ⟨v2, rfl, hO2, hb2⟩
      obtain ⟨A2, c2, rfl, h3, h4⟩ := hO2.slice
      have H2 := Lib.hid (And.intro hO2 hb2)
      obtain ⟨l2, hl2⟩ : ∃ l2, l2 = (dg WB (gk / P19)).length := ⟨_, rfl⟩
      rw [← hl2] at h3 ⊢
      have HL2 := Lib.hid hl2
      clear hO2 hb2 hl2
      go_wp2_with fail
      refine (HF.out _ (HTW.out.keep H2.out.2)).mono ?_; rintro e w3 ⟨rfl, hb3⟩
      have H3 := Lib.hid hb3
      clear hb3
      have H3' := Lib.hid (below_trans H2.out.2 H3.out)
      by_cases hl0 : l2 = 0
      · subst hl0
        go_wp2_with (at_builtin; refine wpList_append_own _ rfl _ _ 89 rfl w.heap.size 9 i0 (.string ByteArray.empty) 1 16 Tryd.underlying89 hi hz0 hz1 hz2 rfl (by decide) _ _ _ rfl (own_keepT (own_keepT hO.out.2.1 (KeepT.below H3'.out)) (KeepT.alloc _ _)) ⟨w3.heap.size, 0, none⟩ 1 1 [.string sB] rfl rfl (cell_one_new _ _ _) ?c2 ?c3 ?c4 ?c5 ?_)
        case c2 => intro u hu; rw [List.mem_singleton] at hu; subst hu; rfl
        case c3 => have := hv.out.2.2.2; unfold maxLen; omega
        case c4 => have := hv.out.2.2.2; omega
        case c5 => exact Nat.le_trans hO.out.2.2.size (Nat.le_trans H3'.out.size (by simp))
        intro v5 w5 hown hgrow _
        have hq : gk / P19 = 0 := (dg_eq_nil WB_one _).1 (List.eq_nil_of_length_eq_zero (by rw [← HL2.out]))
        have hp := hv.out.2.2.1.last HX.out.2.2.2.2.2 hq
        obtain ⟨k1, k2⟩ := text_put hO.out.2.1 hO.out.2.2 H3'.out (H2.out.1.keep H3.out) hgrow
        rw [← HL2.out] at k1
        have K := Lib.hid (And.intro hown (And.intro hp (And.intro k1 k2)))
        have hlt := Nat.div_lt_self (Nat.pos_of_ne_zero HX.out.2.2.2.2.2) (show 1 < P19 by rw [P19_eq]; decide)
        have HLT := Lib.hid hlt
        clear hown hgrow hq hp k1 k2 hlt
        go_wp2_with fail
        go_roundg (gk / P19)
        case measure => exact HLT.out
        case rel =>
          refine ⟨0, c2, A2, _, rfl, h3, h4, ⟨HL2.out.symm, by omega, K.out.2.1, ?_⟩, K.out.2.2.1, ?_, K.out.2.2.2⟩
          · have := HX.out.1; rw [List.length_append, List.length_singleton]; omega
          · have := K.out.1
            rw [List.length_append, List.length_singleton, List.map_append, ← HX.out.2.1]
            rw [HX.out.2.2.2.2.1] at this
            exact this
      · have hpos2 : (0 : Int) < (l2 : Int) := by omega
        have hnd19 : nd ≤ 19 := by rw [HX.out.2.2.2.1]; exact HX.out.2.2.1
        obtain ⟨cc, hcc⟩ : ∃ cc, nd + cc = 19 := ⟨19 - nd, by omega⟩
        have h19 : (19 : Int) - (sB.size : Int) = (cc : Int) := by rw [HSZ.out]; omega
        have hrp := repeat_nought sB nd cc HSZ.out hcc
        have HRP := Lib.hid hrp
        have HCC := Lib.hid hcc
        have hcb : cc < 20 := by omega
        clear hrp hcc hnd19
        go_wp2_with fail
        refine (HRP.out _).mono ?_; rintro e w4 ⟨rfl, hb4⟩
        have H4 := Lib.hid hb4
        have H4' := Lib.hid (below_trans H3'.out hb4)
        clear hb4
        obtain ⟨zB, hzB⟩ : ∃ zB : ByteArray, zB = ⟨(List.replicate cc (48 : UInt8)).toArray⟩ := ⟨_, rfl⟩
        rw [← hzB]
        have hsum : zB.size + sB.size ≤ 9223372036854775807 := by
          have h1 : zB.size = cc := by rw [hzB]; simp [ByteArray.size]
          have h2 := HSZ.out
          have h3 := HCC.out
          omega
        have HZ := Lib.hid hzB
        clear hzB
        go_wp2_with (at_builtin; refine wpList_append_own _ rfl _ _ 89 rfl w.heap.size 9 i0 (.string ByteArray.empty) 1 16 Tryd.underlying89 hi hz0 hz1 hz2 rfl (by decide) _ _ _ rfl (own_keepT (own_keepT hO.out.2.1 (KeepT.below H4'.out)) (KeepT.alloc _ _)) ⟨w4.heap.size, 0, none⟩ 1 1 [.string (zB ++ sB)] rfl rfl (cell_one_new _ _ _) ?c2 ?c3 ?c4 ?c5 ?_)
        case c2 => intro u hu; rw [List.mem_singleton] at hu; subst hu; rfl
        case c3 => have := hv.out.2.2.2; unfold maxLen; omega
        case c4 => have := hv.out.2.2.2; omega
        case c5 => exact Nat.le_trans hO.out.2.2.size (Nat.le_trans H4'.out.size (by simp))
        intro v5 w5 hown hgrow _
        have hq : gk / P19 ≠ 0 := fun e => by
          have h5 := HL2.out
          rw [e, dg_zero] at h5
          exact hl0 h5
        have hp := hv.out.2.2.1.more HX.out.2.2.2.2.2 hq
        obtain ⟨k1, k2⟩ := text_put hO.out.2.1 hO.out.2.2 H4'.out ((H2.out.1.keep H3.out).keep H4.out) hgrow
        rw [← HL2.out] at k1
        have hps : (zB ++ sB) = ⟨(padded 19 (gk % P19)).toArray⟩ := by
          rw [padded_eq 19 _ (by decide) (rest_lt gk), ← HX.out.2.1, HZ.out, HX.out.2.2.2.2.1, strV_app, ← HX.out.2.2.2.1, show 19 - nd = cc from by have := HCC.out; omega]
        have K := Lib.hid (And.intro hown (And.intro hp (And.intro k1 (And.intro k2 hps))))
        have hlt := Nat.div_lt_self (Nat.pos_of_ne_zero HX.out.2.2.2.2.2) (show 1 < P19 by rw [P19_eq]; decide)
        have hl2le : l2 ≤ la := by
          rw [HL2.out, ← hv.out.1]
          exact dg_length_mono WB_one (Nat.div_le_self _ _)
        have HLT := Lib.hid (And.intro hlt hl2le)
        clear hown hgrow hq hp k1 k2 hlt hps hl2le
        go_wp2_with fail
        go_roundg (gk / P19)
        case measure => exact HLT.out.1
        case rel =>
          refine ⟨l2, c2, A2, _, rfl, h3, h4, ⟨HL2.out.symm, Nat.le_trans HLT.out.2 hv.out.2.1, K.out.2.1, ?_⟩, K.out.2.2.1, ?_, K.out.2.2.2.1⟩
          · have := HX.out.1; rw [List.length_append, List.length_singleton]; omega
          · have := K.out.1
            rw [List.length_append, List.length_singleton, List.map_append]
            rw [K.out.2.2.2.2] at this
            exact this
end Go.Proofs.YtclaiidoomdklaaDoor
namespace Go.Proofs.YtclaiidoomdklaaDoor
open Go Go.RowKit Go.Proofs Pl
set_option linter.unusedVariables false

/-- The slice v reads the words xs. -/
def Nl (w : World) (v : Value) (xs : List Nat) : Prop := ∃ A c, v = .slice A xs.length c ∧ Rd w A xs ∧ xs.length ≤ c ∧ c ≤ maxLen ∧ (A = none → c = 0)
/-- The slice v reads the number n, by L words at most. -/
def Nm (w : World) (L : Nat) (v : Value) (n : Nat) : Prop := ∃ xs, Nl w v xs ∧ xs.length ≤ L ∧ val WB xs = n
/-- v is a new number n in its one form. -/
def Rs (w w' : World) (v : Value) (n : Nat) : Prop := Ow w' w.heap.size v (dg WB n) ∧ Below w.heap.size w w'

section
variable {w w' w'' : World} {v a b : Value} {xs ys : List Nat} {L L' L1 L2 m n : Nat}
theorem Nl.keep (h : Nl w v xs) (hb : Below w.heap.size w w') : Nl w' v xs := by
  obtain ⟨A, c, h1, h2, h3⟩ := h
  exact ⟨A, c, h1, h2.keep hb, h3⟩
theorem Nm.keep (h : Nm w L v n) (hb : Below w.heap.size w w') : Nm w' L v n := by
  obtain ⟨xs, h1, h2⟩ := h
  exact ⟨xs, h1.keep hb, h2⟩
theorem below_al (w : World) (o : Obj) : Below w.heap.size w (w.alloc o) := (Below.refl _ _).alloc (Nat.le_refl _) _
theorem below_dr (w : World) (q : Nat) : Below w.heap.size w (w.drewN q) := ⟨rfl, rfl, rfl, Nat.le_refl _, fun _ _ => rfl⟩
theorem Nm.mono (h : Nm w L v n) (hL : L ≤ L') : Nm w L' v n := by
  obtain ⟨xs, h1, h2, h3⟩ := h
  exact ⟨xs, h1, Nat.le_trans h2 hL, h3⟩
theorem Nm.lt (h : Nm w L v n) : n < WB ^ L := by
  obtain ⟨xs, ⟨A, c, -, h1, -⟩, h2, h3⟩ := h
  rw [← h3]
  exact Nat.lt_of_lt_of_le (val_lt h1.1) (Nat.pow_le_pow_right WB_pos h2)
theorem Ow.nl {B : Nat} (h : Ow w B v xs) : Nl w v xs := by
  obtain ⟨A, c, rfl, h1, h2⟩ := h.slice
  exact ⟨A, c, rfl, h.rd, h1, h2, h.none_cap⟩
theorem Rs.nl (h : Rs w w' v n) : Nl w' v (dg WB n) := h.1.nl
theorem Rs.nm (h : Rs w w' v n) (hn : n < WB ^ L) : Nm w' L v n := ⟨_, h.nl, dg_length_le WB_one hn, val_dg WB_one _⟩
theorem Nl.nm (h : Nl w v xs) : Nm w xs.length v (val WB xs) := ⟨xs, h, Nat.le_refl _, rfl⟩
theorem Nl.all (h : Nl w v xs) : All WB xs := by obtain ⟨A, c, -, h1, -⟩ := h; exact h1.1
theorem nl_nil (w : World) : Nl w (.slice none 0 0) [] := ⟨none, 0, rfl, Rd.nil _ _, Nat.le_refl _, by decide, fun _ => rfl⟩
theorem nl_one (w : World) (x : Nat) (hx : x < WB) : Nl (w.alloc (.cells #[.int .u64 (x : Int)] 42)) (.slice (some ⟨w.heap.size, 0, none⟩) 1 1) [x] := ⟨_, 1, rfl, rd_one w x hx, by simp, by decide, by simp⟩
theorem rd_two (w : World) (x y : Nat) (hx : x < WB) (hy : y < WB) : Rd (w.alloc (.cells #[.int .u64 (x : Int), .int .u64 (y : Int)] 42)) (some ⟨w.heap.size, 0, none⟩) [x, y] := by
  refine ⟨All.cons hx (All.cons hy All.nil), .inr ⟨_, _, rfl, fun j z hj => ?_⟩⟩
  have := cells_new w (wis [x, y]).toArray 42 j _ (by simpa using wis_get hj)
  have e : (⟨w.heap.size, 0, none⟩ : Addr).add j = ⟨w.heap.size, 0 + j, none⟩ := by unfold Addr.add; split <;> simp_all
  rwa [e] at this
theorem nl_two (w : World) (x y : Nat) (hx : x < WB) (hy : y < WB) : Nl (w.alloc (.cells #[.int .u64 (x : Int), .int .u64 (y : Int)] 42)) (.slice (some ⟨w.heap.size, 0, none⟩) 2 2) [x, y] := ⟨_, 2, rfl, rd_two w x y hx hy, by simp, by decide, by simp⟩
theorem nm_one (w : World) (x : Nat) (hx : x < WB) : Nm (w.alloc (.cells #[.int .u64 (x : Int)] 42)) 1 (.slice (some ⟨w.heap.size, 0, none⟩) 1 1) x := ⟨_, nl_one w x hx, by simp, by simp [val]⟩

theorem add_nm (ha : Nm w L1 a m) (hb : Nm w L2 b n) (h1 : L1 ≤ 274877906944) (h2 : L2 ≤ 274877906944) : Calls Tryd.prog 30 #[a, b] w fun e w' => ∃ v, e = .returned v ∧ Rs w w' v (m + n) := by
  obtain ⟨xs, ⟨A, c, rfl, a1, a2, a3, a4⟩, a5, rfl⟩ := ha
  obtain ⟨ys, ⟨B, d, rfl, b1, b2, b3, b4⟩, b5, rfl⟩ := hb
  exact add_any A B c d xs ys w a1 b1 a2 a3 b2 b3 (by omega) (by omega)
theorem mul_nm (ha : Nm w L1 a m) (hb : Nm w L2 b n) (h1 : L1 ≤ 274877906944) (h2 : L2 ≤ 274877906944) : Calls Tryd.prog 15 #[a, b] w fun e w' => ∃ v, e = .returned v ∧ Rs w w' v (m * n) := by
  obtain ⟨xs, ⟨A, c, rfl, a1, a2, a3, a4⟩, a5, rfl⟩ := ha
  obtain ⟨ys, ⟨B, d, rfl, b1, b2, b3, b4⟩, b5, rfl⟩ := hb
  exact mul_any A B c d xs ys w a1 b1 a2 a3 b2 b3 (by omega) (by omega)
theorem trim_nm (ha : Nm w L1 a m) (h1 : L1 ≤ 274877906944) : Calls Tryd.prog 26 #[a] w fun e w' => ∃ v, e = .returned v ∧ Rs w w' v m := by
  obtain ⟨xs, ⟨A, c, rfl, a1, a2, a3, a4⟩, a5, rfl⟩ := ha
  exact trim_any A c xs w a1 a2 a3 (by omega)
theorem cmp_nm (ha : Nm w L1 a m) (hb : Nm w L2 b n) : Calls Tryd.prog 11 #[a, b] w fun e w' => e = .returned (.int .i64 (cmpN m n)) ∧ Below w.heap.size w w' := by
  obtain ⟨xs, ⟨A, c, rfl, a1, a2, a3, a4⟩, a5, rfl⟩ := ha
  obtain ⟨ys, ⟨B, d, rfl, b1, b2, b3, b4⟩, b5, rfl⟩ := hb
  refine (cmp_any A B c d xs ys w a1 b1 a2 a3 b2 b3).mono ?_
  rintro e w' ⟨he, q, rfl⟩
  exact ⟨he, below_dr _ _⟩
theorem bits_nm (ha : Nm w L1 a m) (h1 : L1 ≤ 274877906944) : Calls Tryd.prog 39 #[a] w fun e w' => e = .returned (.int .i64 (nb m : Int)) ∧ Below w.heap.size w w' := by
  obtain ⟨xs, ⟨A, c, rfl, a1, a2, a3, a4⟩, a5, rfl⟩ := ha
  refine (bits_any A c xs w a1 a2 a3 (by omega)).mono ?_
  rintro e w' ⟨he, q, rfl⟩
  exact ⟨he, below_dr _ _⟩
theorem gcd_nm (ha : Nm w L1 a m) (hb : Nm w L2 b n) (h1 : L1 ≤ 274877906944) (h2 : L2 ≤ 274877906944) : Calls Tryd.prog 40 #[a, b] w fun e w' => ∃ v, e = .returned v ∧ Rs w w' v (Nat.gcd m n) := by
  obtain ⟨xs, ⟨A, c, rfl, a1, a2, a3, a4⟩, a5, rfl⟩ := ha
  obtain ⟨ys, ⟨B, d, rfl, b1, b2, b3, b4⟩, b5, rfl⟩ := hb
  exact gcd_any A B c d xs ys w a1 b1 a2 a3 b2 b3 (by omega) (by omega)
theorem shl_nm {k : Nat} (ha : Nm w L1 a m) (h1 : L1 ≤ 274877906944) (hk : k ≤ 65536) : Calls Tryd.prog 67 #[a, .int .i64 (k : Int)] w fun e w' => ∃ v, e = .returned (.tuple #[v, .int .i64 0]) ∧ Rs w w' v (m * 2 ^ k) := by
  obtain ⟨xs, ⟨A, c, rfl, a1, a2, a3, a4⟩, a5, rfl⟩ := ha
  exact shl_any A c xs k w a1 a4 a2 a3 hk (by omega)
theorem shr_nm {k : Nat} (ha : Nm w L1 a m) (h1 : L1 ≤ 274877906944) (hk : k ≤ 65536) : Calls Tryd.prog 70 #[a, .int .i64 (k : Int)] w fun e w' => ∃ v, e = .returned (.tuple #[v, .int .i64 0]) ∧ Rs w w' v (m / 2 ^ k) := by
  obtain ⟨xs, ⟨A, c, rfl, a1, a2, a3, a4⟩, a5, rfl⟩ := ha
  exact shr_any A c xs k w a1 a4 a2 a3 hk (by omega)
theorem text_nm (ha : Nm w L1 a m) (h1 : L1 ≤ 1073741824) (ht : Tab w) : Calls Tryd.prog 34 #[a] w fun e w' => e = .returned (.string ⟨(Lib.decDigits m).toArray⟩) ∧ Below w.heap.size w w' := by
  obtain ⟨xs, ⟨A, c, rfl, a1, a2, a3, a4⟩, a5, rfl⟩ := ha
  exact text_any A c xs w a1 a2 a3 (by omega) ht
theorem divMod_nm (ha : Nm w L1 a m) (hb : Nm w L2 b n) (h1 : L1 ≤ 274877906944) (h0 : n ≠ 0) : Calls Tryd.prog 41 #[a, b] w fun e w' => ∃ q r, e = .returned (.tuple #[q, r, .int .i64 0]) ∧ Rs w w' q (m / n) ∧ Rs w w' r (m % n) := by
  obtain ⟨xs, ⟨A, c, rfl, a1, a2, a3, a4⟩, a5, rfl⟩ := ha
  obtain ⟨ys, ⟨B, d, rfl, b1, b2, b3, b4⟩, b5, rfl⟩ := hb
  refine (divMod_any A B c d xs ys w a1 b1 a4 a2 a3 b2 b3 (by omega)).mono ?_
  rintro e w' ⟨q, r, he, hq, hr, hb⟩
  rw [if_neg h0] at he hr
  exact ⟨q, r, he, ⟨hq, hb⟩, ⟨hr, hb⟩⟩
theorem divMod_by0 (ha : Nm w L1 a m) (hb : Nm w L2 b n) (h0 : n = 0) : Calls Tryd.prog 41 #[a, b] w fun e w' => e = .returned (.tuple #[.slice none 0 0, .slice none 0 0, .int .i64 3]) ∧ w = w' := by
  obtain ⟨xs, ⟨A, c, rfl, a1, a2, a3, a4⟩, a5, rfl⟩ := ha
  obtain ⟨ys, ⟨B, d, rfl, b1, b2, b3, b4⟩, b5, rfl⟩ := hb
  exact divMod_zero A B c d xs ys w a1 b1 a2 a3 b2 b3 h0
end

/-- Numbers that are alive. -/
def Lv (w : World) (l : List (Value × Nat × Nat)) : Prop := ∀ (i : Nat) (v : Value) (L n : Nat), l[i]? = some (v, L, n) → Nm w L v n
theorem Lv.nil (w : World) : Lv w [] := fun i v L n h => by simp at h
theorem Lv.keep {w w' : World} {l : List (Value × Nat × Nat)} (h : Lv w l) (hb : Below w.heap.size w w') : Lv w' l := fun i v L n hi => (h i v L n hi).keep hb
theorem Lv.add {w : World} {l : List (Value × Nat × Nat)} {v : Value} {L n : Nat} (h : Lv w l) (hn : Nm w L v n) : Lv w ((v, L, n) :: l) := fun i v' L' n' hi => by
  cases i with
  | zero => simp at hi; obtain ⟨rfl, rfl, rfl⟩ := hi; exact hn
  | succ i => exact h i v' L' n' (by simpa using hi)
theorem Lv.at_ {w : World} {l : List (Value × Nat × Nat)} (h : Lv w l) (i : Nat) {v : Value} {L n : Nat} (hi : l[i]? = some (v, L, n)) : Nm w L v n := h i v L n hi
end Go.Proofs.YtclaiidoomdklaaDoor
namespace Go.Proofs.YtclaiidoomdklaaDoor
open Go Go.RowKit Go.Proofs Pl
set_option linter.unusedVariables false

theorem take_snoc {xs : List Nat} {k : Nat} (h : k < xs.length) : xs.take (k + 1) = xs.take k ++ [atD xs k] := by
  rw [List.take_succ_eq_append_getElem h, atD_get h]
set_option maxRecDepth 100000 in
theorem same_walk (A B : Option Addr) (c d : Nat) (xs ys : List Nat) (w : World) (hx : Rd w A xs) (hy : Rd w B ys) (hlx : xs.length ≤ c) (hcx : c ≤ maxLen) (hly : ys.length ≤ d) (hcy : d ≤ maxLen) :
    Calls Tryd.prog 17 #[.slice A xs.length c, .slice B ys.length d] w fun e w' => e = .returned (.bool (decide (xs = ys))) ∧ Below w.heap.size w w' := by
  by_cases hl : xs.length = ys.length
  · obtain ⟨n, hn⟩ : ∃ n, n = xs.length := ⟨_, rfl⟩
    have hn2 : ys.length = n := by omega
    rw [← hn, hn2]
    have hnm : n ≤ 9223372036854775807 := by unfold maxLen at *; omega
    have hb0 : ((n : Int) != (n : Int)) = false := by simp
    have HX := Lib.hid hx
    have HY := Lib.hid hy
    have HN := Lib.hid (And.intro hn.symm hn2)
    clear hx hy hlx hcx hly hcy hl hn hn2
    go_enter Tryd.func17, Tryd.ntmps17
    go_wp2_with fail
    go_loopw [5] (fun i wr => ∃ k : Nat, i = .int .i64 (k : Int) ∧ k ≤ n ∧ Hid (xs.take k = ys.take k ∧ ∃ q, wr = w.drewN q)) (fun i _ => n - (intOf i).toNat)
    case atStart => exact ⟨0, rfl, by omega, by simp, 0, rfl⟩
    case round =>
      obtain ⟨k, rfl, hk, ht, q, hw⟩ := hrel
      have HT := Lib.hid ht
      clear ht
      subst hw
      by_cases hlt : k < n
      · obtain ⟨b1, o1, rfl, hc1⟩ := HX.out.at_ (j := k) (by rw [HN.out.1]; exact hlt)
        obtain ⟨b2, o2, rfl, hc2⟩ := HY.out.at_ (j := k) (by rw [HN.out.2]; exact hlt)
        have m1 := hc1 k _ (atD_some (by rw [HN.out.1]; exact hlt))
        have m2 := hc2 k _ (atD_some (by rw [HN.out.2]; exact hlt))
        have i0 : (0 : Int) ≤ (k : Int) := by omega
        have i1 : (k : Int) < (n : Int) := by omega
        clear hc1 hc2
        by_cases he : atD xs k = atD ys k
        · have hb1 : ((atD xs k : Int) != (atD ys k : Int)) = false := by rw [he]; simp
          have HE := Lib.hid he
          clear he
          go_wp2_with fail
          go_quiet (fail)
          go_wp2_with fail
          go_roundw
          case rel =>
            refine ⟨k + 1, by go_num, by omega, ?_, q + nq, ?_⟩
            · rw [take_snoc (by rw [HN.out.1]; exact hlt), take_snoc (by rw [HN.out.2]; exact hlt), HT.out, HE.out]
            · rfl
          case measure => simp [intOf]; omega
        · have hb1 : ((atD xs k : Int) != (atD ys k : Int)) = true := by simpa using fun h : (atD xs k : Int) = (atD ys k : Int) => he (by omega)
          have HE := Lib.hid he
          clear he
          go_wp2_with fail
          go_quiet (fail)
          go_wp2_with fail
          go_ret
          have hne : xs ≠ ys := fun h => HE.out (by rw [h])
          refine ⟨?_, ?_⟩
          · simp [hne]
          · first | exact below_dr _ _ | (rw [World.drewN_drewN]; exact below_dr _ _)
      · obtain rfl : k = n := by omega
        go_wp2_with fail
        go_ret
        have he : xs = ys := by
          have h1 := HT.out
          rwa [List.take_of_length_le (by rw [HN.out.1]; exact Nat.le_refl _), List.take_of_length_le (by rw [HN.out.2]; exact Nat.le_refl _)] at h1
        exact ⟨by simp [he], below_dr _ _⟩
  · have hb0 : ((xs.length : Int) != (ys.length : Int)) = true := by simp; omega
    have hne : xs ≠ ys := fun h => hl (by rw [h])
    have hd : decide (xs = ys) = false := by simp [hne]
    rw [hd]
    obtain ⟨n, hn⟩ : ∃ n, n = xs.length := ⟨_, rfl⟩
    obtain ⟨m, hm⟩ : ∃ m, m = ys.length := ⟨_, rfl⟩
    rw [← hn, ← hm] at hb0 ⊢
    clear hx hy hlx hcx hly hcy hl hne hd hn hm
    go_enter Tryd.func17, Tryd.ntmps17
    go_wp2_with fail
    go_ret
    exact ⟨rfl, Below.refl _ _⟩
theorem same_nl {w : World} {a b : Value} {xs ys : List Nat} (ha : Nl w a xs) (hb : Nl w b ys) :
    Calls Tryd.prog 17 #[a, b] w fun e w' => e = .returned (.bool (decide (xs = ys))) ∧ Below w.heap.size w w' := by
  obtain ⟨A, c, rfl, a1, a2, a3, a4⟩ := ha
  obtain ⟨B, d, rfl, b1, b2, b3, b4⟩ := hb
  exact same_walk A B c d xs ys w a1 b1 a2 a3 b2 b3
theorem same_yes {w : World} {a b : Value} {xs ys : List Nat} (ha : Nl w a xs) (hb : Nl w b ys) (h : xs = ys) :
    Calls Tryd.prog 17 #[a, b] w fun e w' => e = .returned (.bool true) ∧ Below w.heap.size w w' :=
  (same_nl ha hb).mono fun e w' ⟨h1, h2⟩ => ⟨by rw [h1, h]; simp, h2⟩
end Go.Proofs.YtclaiidoomdklaaDoor
namespace Go.Proofs.YtclaiidoomdklaaDoor
open Go Go.RowKit Go.Proofs Pl
set_option linter.unusedVariables false

theorem dg_is {n : Nat} (xs : List Nat) (hA : All WB xs) (hC : Canon xs) (hv : val WB xs = n) : dg WB n = xs := by rw [← hv]; exact dg_val WB_one hA hC
theorem dg_one {n : Nat} (h0 : 0 < n) (h : n < WB) : dg WB n = [n] := dg_is [n] (All.cons h All.nil) (by unfold Canon; cases n with | zero => omega | succ n => rfl) (by simp [val])
theorem nl_one' (w : World) (x b : Nat) (hb : b = w.heap.size) (hx : x < WB) : Nl (w.alloc (.cells #[.int .u64 (x : Int)] 42)) (.slice (some ⟨b, 0, none⟩) 1 1) [x] := by subst hb; exact nl_one w x hx
/-- Two new numbers of a word. -/
theorem two_new (w : World) (x y : Nat) (hx : x < WB) (hy : y < WB) :
    Nm ((w.alloc (.cells #[.int .u64 (x : Int)] 42)).alloc (.cells #[.int .u64 (y : Int)] 42)) 1 (.slice (some ⟨w.heap.size, 0, none⟩) 1 1) x ∧
    Nm ((w.alloc (.cells #[.int .u64 (x : Int)] 42)).alloc (.cells #[.int .u64 (y : Int)] 42)) 1 (.slice (some ⟨w.heap.size + 1, 0, none⟩) 1 1) y ∧
    Below w.heap.size w ((w.alloc (.cells #[.int .u64 (x : Int)] 42)).alloc (.cells #[.int .u64 (y : Int)] 42)) :=
  ⟨(nm_one w x hx).keep (below_al _ _), ⟨_, nl_one' _ y _ (by simp) hy, by simp, by simp [val]⟩, below_trans (below_al _ _) (below_al _ _)⟩
theorem word_lt {x : Nat} (h : x < 18446744073709551616) : x < WB := by rw [WB_eq]; exact h
theorem num_text : Lib.decDigits 18446744073709551616 = [49, 56, 52, 52, 54, 55, 52, 52, 48, 55, 51, 55, 48, 57, 53, 53, 49, 54, 49, 54] := by simp [Lib.decDigits]
theorem num_read : decV [49, 56, 52, 52, 54, 55, 52, 52, 48, 55, 51, 55, 48, 57, 53, 53, 49, 54, 49, 54] = 18446744073709551616 := by decide +kernel
theorem num_good : parseErr [49, 56, 52, 52, 54, 55, 52, 52, 48, 55, 51, 55, 48, 57, 53, 53, 49, 54, 49, 54] = 0 := by decide +kernel

theorem parse_ok (s : ByteArray) (n : Nat) (w : World) (hs : s.size ≤ 9223372036854775807) (h1 : parseErr s.data.toList = 0) (h2 : decV s.data.toList = n) :
    Calls Tryd.prog 22 #[.string s] w fun e w' => ∃ v, e = .returned (.tuple #[v, .int .i64 0]) ∧ Rs w w' v n := by
  refine (parse_any s w hs).mono ?_
  rintro e w' ⟨v, he, ho, hb⟩
  rw [h1] at he
  rw [h1, if_pos rfl, h2] at ho
  exact ⟨v, he, ho, hb⟩
end Go.Proofs.YtclaiidoomdklaaDoor
