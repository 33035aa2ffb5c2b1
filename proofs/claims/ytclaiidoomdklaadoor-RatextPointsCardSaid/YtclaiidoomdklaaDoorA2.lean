/-
  nat: bare, at, clone, Add, less, Trim, Cmp, Sub.
-/
import Derived.Test.YtclaiidoomdklaaDoorA1
import Derived.Test.YtclaiidoomdklaaDoorShelf
import Derived.Deep.RegionWith
import Derived.BigRegion
import Derived.Shelf.Spec.BitsCarry
namespace Go.Proofs.YtclaiidoomdklaaDoor
open Go Go.RowKit Go.Proofs Pl
set_option linter.unusedVariables false

set_option maxHeartbeats 400000 in
theorem bare_any (A : Option Addr) (c : Nat) (xs : List Nat) (w : World) (hx : Rd w A xs) (hl : xs.length ≤ c) (hc : c ≤ maxLen) :
    Calls Tryd.prog 23 #[.slice A xs.length c] w fun e w' => e = .returned (.slice A (strip xs).length c) ∧ w = w' := by
  unfold maxLen at hc
  go_enter Tryd.func23, Tryd.ntmps23
  go_wp2
  go_loop [3] (fun n => ∃ k : Nat, k ≤ xs.length ∧ n = .int .i64 k ∧ Hid (strip xs = strip (xs.take k))) (fun n => (intOf n).toNat)
  case atStart => exact ⟨xs.length, Nat.le_refl _, rfl, by show _ = _; rw [List.take_length]⟩
  case round =>
    obtain ⟨k, hk, rfl, hs⟩ := hrel
    cases k with
    | zero =>
      have hfin : Hid ((strip xs).length = 0) := by show _ = _; rw [hs.out]; rfl
      go_wp2
      go_ret
      exact ⟨by rw [hfin.out]; rfl, rfl⟩
    | succ m =>
      obtain ⟨b, o, rfl, hcell⟩ := hx.at_ (j := m) (by omega)
      have hm := hcell m _ (List.getElem?_eq_getElem (by omega))
      have hss := strip_snoc (xs.take m) xs[m]
      rw [← List.take_succ_eq_append_getElem (by omega)] at hss
      rw [Hid, hss] at hs
      clear hss hcell hx
      by_cases h0 : xs[m] = 0
      · rw [if_pos h0] at hs
        rw [h0] at hm
        have HS := Lib.hid hs
        clear hs h0
        go_wp2
        go_round
        case rel => exact ⟨m, by omega, by go_num, HS⟩
        case measure => simp [intOf]
      · rw [if_neg h0] at hs
        have h0' : ((xs[m] : Int) == 0) = false := by simp; omega
        have hfin : Hid ((strip xs).length = m + 1) := by show _ = _; rw [hs]; simp; omega
        clear hs h0
        go_wp2
        go_ret
        exact ⟨by rw [hfin.out]; rfl, rfl⟩

theorem atD_lt {xs : List Nat} (h : All WB xs) (i : Nat) : atD xs i < WB := h.getD WB_pos i

set_option maxHeartbeats 400000 in
theorem at_any (A : Option Addr) (c : Nat) (xs : List Nat) (i : Int) (w : World) (hx : Rd w A xs) (hl : xs.length ≤ maxLen) (hi : 0 ≤ i) :
    Calls Tryd.prog 51 #[.slice A xs.length c, .int .i64 i] w fun e w' => e = .returned (.int .u64 (atD xs i.toNat : Int)) ∧ w = w' := by
  unfold maxLen at hl
  obtain ⟨n, rfl⟩ := Int.eq_ofNat_of_zero_le hi
  rw [Int.toNat_natCast]
  by_cases hn : n < xs.length
  · obtain ⟨b, o, rfl, hcell⟩ := hx.at_ hn
    have hm := hcell n _ (List.getElem?_eq_getElem hn)
    have hv : atD xs n = xs[n] := by unfold atD; rw [List.getD_eq_getElem?_getD, List.getElem?_eq_getElem hn]; rfl
    have HV := Lib.hid hv
    clear hv hx hcell hi
    go_enter Tryd.func51, Tryd.ntmps51
    go_wp2
    go_ret
    exact ⟨by rw [HV.out]; rfl, rfl⟩
  · have hv : atD xs n = 0 := by unfold atD; rw [List.getD_eq_getElem?_getD, List.getElem?_eq_none (by omega)]; rfl
    have HV := Lib.hid hv
    clear hv hx hi
    go_enter Tryd.func51, Tryd.ntmps51
    go_wp2
    go_ret
    exact ⟨by rw [HV.out]; rfl, rfl⟩

theorem rd_cells {w : World} {A : Option Addr} {xs : List Nat} (h : Rd w A xs) (ad : Addr) (hA : A = some ad) : ∀ j u, (wis xs)[j]? = some u → w.cell? (ad.add j) = some u := by
  intro j u hj
  have hlt : j < xs.length := by
    have := (List.getElem?_eq_some_iff.1 hj).1
    rwa [wis_length] at this
  obtain ⟨b, o, hA', hc⟩ := h.at_ hlt
  rw [hA] at hA'
  injection hA' with hA'
  subst hA'
  have e : (⟨b, o, none⟩ : Addr).add j = ⟨b, o + j, none⟩ := by unfold Addr.add; split <;> simp_all
  rw [e, hc j _ (List.getElem?_eq_getElem hlt)]
  rw [wis_get (List.getElem?_eq_getElem hlt)] at hj
  exact hj

set_option maxHeartbeats 400000 in
/-- slices.Clone. -/
theorem clone_any (A : Option Addr) (c : Nat) (xs : List Nat) (w : World) (hx : Rd w A xs) (hlen : xs.length * 8 ≤ 140737488355328) :
    Calls Tryd.prog 42 #[.slice A xs.length c] w fun e w' => ∃ v, e = .returned v ∧ Ow w' w.heap.size v xs ∧ Below w.heap.size w w' := by
  cases A with
  | none =>
    have h0 : xs = [] := by
      rcases hx.2 with h | ⟨b, o, h, _⟩
      · exact h
      · cases h
    subst h0
    exact (Tryd.slices_Clone_nil 0 c w).mono fun e w' ⟨h1, h2⟩ => ⟨_, h1, by rw [h2]; exact Ow.nil _ _, by rw [h2]; exact Below.refl _ _⟩
  | some ad =>
    obtain ⟨i0, hi0, hz0, hz1, hz2⟩ := info_parts word_info
    have hcells := rd_cells hx ad rfl
    have hall := hx.1
    clear hx
    have H1 := Lib.hid hcells
    have H2 := Lib.hid hall
    clear hcells hall
    have hnil := fun W => Lib.run_eql_slice_nil (P := Tryd.prog) W 23 42 (some ad) xs.length c 0 0 Tryd.underlying23
    go_enter Tryd.func42, Tryd.ntmps42
    go_wp2_with (at_builtin; refine wpList_append_own _ rfl (.tmp 5) (.tmp 6) 23 rfl w.heap.size 42 i0 _ 1 8 Tryd.underlying23 hi0 hz0 hz1 hz2 rfl (by decide) _ 0 [] rfl ?ho ad xs.length c (wis xs) rfl (by rw [wis_length]; omega) ?hc (wis_one xs) (by unfold maxLen; omega) (by omega) (by simp) ?_)
    case ho =>
      have h0 := World.ownsRow_made (base := w.heap.size) (e := 42) (size := 1) w #[] 0 (Nat.le_refl _) (by decide) rfl
      exact h0
    case hc => exact fun j u hj => (Below.cell ((Below.refl w.heap.size w).alloc (Nat.le_refl _) _) (cell_lt' (H1.out j u hj))).trans (H1.out j u hj)
    · intro v w1 hown hg _
      go_wp2_with fail
      go_ret
      refine ⟨v, rfl, ⟨H2.out, ?_⟩, ((Below.refl _ _).alloc (Nat.le_refl _) _).grown hg (by simp) ?_⟩
      · simpa using hown
      · intro k hk; simp [Value.ownBlock] at hk; omega
end Go.Proofs.YtclaiidoomdklaaDoor
namespace Go.Proofs.YtclaiidoomdklaaDoor
open Go Go.RowKit Go.Proofs Pl
set_option linter.unusedVariables false

theorem add64_run (x y c : Nat) (hx : x < WB) (hy : y < WB) (hc : c ≤ 1) (w : World) :
    (callFunc 49 #[.int .u64 (x : Int), .int .u64 (y : Int), .int .u64 (c : Int)]).run Tryd.prog w =
      .ok (.value (.tuple #[.int .u64 (((x + y + c) % WB : Nat) : Int), .int .u64 (((x + y + c) / WB : Nat) : Int)])) w := by
  unfold WB at *
  rw [run_callFunc_extern Tryd.func49 (by kernel_rfl) (by kernel_rfl) (by kernel_rfl) (e := add64Entry) (by kernel_rfl), run_add64 x y c (by omega) (by omega) (by omega) (by omega)]
  simp only [Result.andThen]
  congr 5 <;> omega
theorem sub64_run (x y b : Nat) (hb : b ≤ 1) (w : World) :
    (callFunc 50 #[.int .u64 (x : Int), .int .u64 (y : Int), .int .u64 (b : Int)]).run Tryd.prog w =
      .ok (.value (.tuple #[.int .u64 (((x + WB - y - b) % WB : Nat) : Int), .int .u64 ((if x < y + b then 1 else 0 : Nat) : Int)])) w := by
  unfold WB at *
  rw [run_callFunc_extern Tryd.func50 (by kernel_rfl) (by kernel_rfl) (by kernel_rfl) (e := sub64Entry) (by kernel_rfl), run_sub64 x y b hb]
  rfl
theorem at_left {P : Program} {f : FuncId} {args : Array Value} {w : World} {v : Value} (h : Calls P f args w fun e w' => e = .returned v ∧ w = w') : Calls P f args w fun e w' => e = .returned v ∧ w' = w :=
  h.mono fun _ _ ⟨a, b⟩ => ⟨a, b.symm⟩

theorem at_nat (A : Option Addr) (c : Nat) (xs : List Nat) (i : Nat) (w : World) (hx : Rd w A xs) (hl : xs.length ≤ maxLen) :
    Calls Tryd.prog 51 #[.slice A xs.length c, .int .i64 (i : Int)] w fun e w' => e = .returned (.int .u64 (atD xs i : Int)) ∧ w = w' := by
  have := at_any A c xs i w hx hl (by omega)
  rwa [Int.toNat_natCast] at this
theorem made_words (n : Nat) : (madeCells (Value.int .u64 0).cells (n * 1)).toList = wis (List.replicate n 0) := by
  rw [Nat.mul_one]
  apply List.ext_getElem
  · simp [madeCells, wis]
  · intro i h1 h2
    have e : i % 1 = 0 := Nat.mod_one i
    simp [madeCells, wis, Value.cells, e]

set_option maxRecDepth 100000 in
set_option maxHeartbeats 2000000 in
/-- nat.Add: the sum. -/
theorem add_any (A0 B0 : Option Addr) (c0 d0 : Nat) (xs0 ys0 : List Nat) (w : World) (hx0 : Rd w A0 xs0) (hy0 : Rd w B0 ys0) (hlx0 : xs0.length ≤ c0) (hcx0 : c0 ≤ maxLen) (hly0 : ys0.length ≤ d0) (hcy0 : d0 ≤ maxLen) (hlen0 : xs0.length + 1 ≤ 17592186044416) (hlen20 : ys0.length + 1 ≤ 17592186044416) :
    Calls Tryd.prog 30 #[.slice A0 xs0.length c0, .slice B0 ys0.length d0] w fun e w' => ∃ v, e = .returned v ∧ Ow w' w.heap.size v (dg WB (val WB xs0 + val WB ys0)) ∧ Below w.heap.size w w' := by
  unfold maxLen at hcx0 hcy0
  obtain ⟨i0, hi0, hz0, hz1, hz2⟩ := info_parts word_info
  go_enter Tryd.func30, Tryd.ntmps30
  go_upto_if 12 with (fail)
  go_cut [0, 1] (fun a b w1 => ∃ (A B : Option Addr) (c d : Nat) (xs ys : List Nat), a = .slice A xs.length c ∧ b = .slice B ys.length d ∧ Rd w A xs ∧ Rd w B ys ∧ xs.length ≤ c ∧ c ≤ 9223372036854775807 ∧ ys.length ≤ d ∧ d ≤ 9223372036854775807 ∧ ys.length ≤ xs.length ∧ xs.length + 1 ≤ 17592186044416 ∧ Hid (val WB xs + val WB ys = val WB xs0 + val WB ys0) ∧ w = w1)
  case first =>
    by_cases hle : xs0.length < ys0.length
    · go_wp2_with fail
      go_meet
      exact ⟨_, _, _, _, ys0, xs0, rfl, rfl, hy0, hx0, hly0, by omega, hlx0, by omega, by omega, hlen20, Nat.add_comm _ _, rfl⟩
    · go_wp2_with fail
      go_meet
      exact ⟨_, _, _, _, xs0, ys0, rfl, rfl, hx0, hy0, hlx0, by omega, hly0, by omega, by omega, hlen0, rfl, rfl⟩
  case rest =>
  obtain ⟨A, B, c, d, xs, ys, rfl, rfl, hx, hy, hlx, hcx, hly, hcy, hle, hlen, hsum, rfl⟩ := hcut
  clear hx0 hy0 hlx0 hcx0 hly0 hcy0 hlen0 hlen20
  go_wp2_with (at_make; refine wpList_make_full _ rfl (.tmp 17) (.tmp 17) 23 rfl w.heap.size 42 i0 _ 1 Tryd.underlying23 hi0 hz0 hz1 .i64 .i64 _ _ (xs.length + 1) rfl rfl (by simp) (by simp) (by rw [hz2]; omega) (by unfold maxLen; omega) (Nat.le_refl _) ?_; intro w1 hown0 hg0)
  rw [made_words] at hown0
  have hb1 : Below w.heap.size w w1 := (Below.refl _ _).grown hg0 (Nat.le_refl _) (by simp)
  have hO : Ow w1 w.heap.size (.slice (some ⟨w.heap.size, 0, none⟩) (xs.length + 1) (xs.length + 1)) (List.replicate (xs.length + 1) 0) := ⟨All.replicate WB_pos _, by rw [List.length_replicate]; exact hown0⟩
  clear hown0 hg0
  go_loopw [6, 21] (fun c i wr => ∃ (zs : List Nat) (q : Nat), i = .int .i64 zs.length ∧ zs.length ≤ xs.length ∧ c = .int .u64 (q : Int) ∧ q ≤ 1 ∧ Ow wr w.heap.size (.slice (some ⟨w.heap.size, 0, none⟩) (xs.length + 1) (xs.length + 1)) (zs ++ List.replicate (xs.length + 1 - zs.length) 0) ∧ Hid (val WB zs + WB ^ zs.length * q = vt WB xs zs.length + vt WB ys zs.length) ∧ Below w.heap.size w wr) (fun _ i _ => xs.length - (intOf i).toNat)
  case atStart => exact ⟨[], 0, rfl, by simp, rfl, by omega, hO, by show _ = _; rfl, hb1⟩
  case round =>
    obtain ⟨zs, q, rfl, hz, rfl, hq, hO, hv, hbw⟩ := hrel
    have hxr := hx.keep hbw
    have hyr := hy.keep hbw
    by_cases hlt : zs.length < xs.length
    · obtain ⟨b, o, rfl, hcell⟩ := hxr.at_ hlt
      have hm := hcell _ _ (List.getElem?_eq_getElem hlt)
      obtain ⟨g, hg, -, hg1, hg2, -, -, hcs, hfr⟩ := hO.at_ (j := zs.length) (by simp; omega)
      injection hg with hg
      injection hg with hg
      subst hg
      have hc0 := hcs zs.length 0 (by rw [List.getElem?_append_right (Nat.le_refl _), Nat.sub_self, List.getElem?_replicate, if_pos (by omega)])
      have hf0 := hfr zs.length
      have hx0 : xs[zs.length] < WB := hx.1.get hlt
      have hy0 : atD ys zs.length < WB := hy.1.getD WB_pos zs.length
      have hat := at_nat B d ys zs.length
      clear hcs hfr
      have hz' : (atD xs zs.length + atD ys zs.length + q) % WB < WB := Nat.mod_lt _ WB_pos
      have hc' : (atD xs zs.length + atD ys zs.length + q) / WB ≤ 1 := by
        have : (atD xs zs.length + atD ys zs.length + q) < WB * 2 := by rw [atD_get hlt]; omega
        have := Nat.div_lt_of_lt_mul this
        omega
      have hset := (hO.drewN 1).set_ (g := w.heap.size) (j := zs.length) (by simp; omega) hz'
      rw [fill_step zs _ _ (by omega)] at hset
      have hstep := add_step (ys := ys) rfl hv.out
      have hbs := (below_drewN hbw 1).setCell (p := ⟨w.heap.size, zs.length, none⟩) (Nat.le_refl _) (.int .u64 (((atD xs zs.length + atD ys zs.length + q) % WB : Nat) : Int))
      have hA := add64_run (atD xs zs.length) (atD ys zs.length) q (by rw [atD_get hlt]; exact hx0) hy0 hq
      rw [← atD_get hlt] at hm
      have HO := Lib.hid (And.intro hset (And.intro hstep (And.intro hbs hc')))
      have HYR := Lib.hid hyr
      have HAT := Lib.hid hat
      clear hO hx hy hyr hat hxr hcell hlen hi0 hz0 hz1 hz2 hset hstep hbs hc' hz' hbw hv hx0 hy0 hb1
      go_upto_region 8 with (fail)
      go_region_with (go_at_call 51; refine (HAT.out _ (HYR.out.drewN 1) (by unfold maxLen; omega)).mono ?_; rintro e w' ⟨rfl, rfl⟩)
      all_goals
        clear hA hm HAT HYR hc0 hf0
        go_wp2_with fail
        go_roundw
        case rel => exact ⟨_, _, by rw [List.length_append]; rfl, by simp; omega, rfl, HO.out.2.2.2, HO.out.1, by unfold Hid; simpa using HO.out.2.1, HO.out.2.2.1⟩
        case measure => simp [intOf]; omega
    · have hzl : zs.length = xs.length := by omega
      obtain ⟨g, hg, -, hg1, hg2, -, -, hcs, hfr⟩ := hO.at_ (j := zs.length) (by simp; omega)
      injection hg with hg
      injection hg with hg
      subst hg
      have hc0 := hcs zs.length 0 (by rw [List.getElem?_append_right (Nat.le_refl _), Nat.sub_self, List.getElem?_replicate, if_pos (by omega)])
      have hf0 := hfr zs.length
      rw [hzl] at hc0 hf0
      have hset := hO.set_ (g := w.heap.size) (j := zs.length) (x := q) (by simp; omega) (Nat.lt_of_le_of_lt hq WB_one)
      rw [fill_step zs _ _ (by omega), show xs.length + 1 - (zs ++ [q]).length = 0 from by simp; omega, List.replicate_zero, List.append_nil, hzl] at hset
      have hbs := hbw.setCell (p := ⟨w.heap.size, xs.length, none⟩) (Nat.le_refl _) (.int .u64 (q : Int))
      have hfin : dg WB (val WB (zs ++ [q])) = dg WB (val WB xs0 + val WB ys0) := by
        rw [val_snoc, hv.out, vt_all _ _ (by omega), vt_all _ _ (by omega), hsum.out]
      have hlz : (zs ++ [q]).length = xs.length + 1 := by simp; omega
      have hbare := bare_any (some ⟨w.heap.size, 0, none⟩) (xs.length + 1) (zs ++ [q]) _ hset.rd (by omega) (by unfold maxLen; omega)
      rw [hlz] at hbare
      have HB := Lib.hid hbare
      have hlt2 : ¬ zs.length < xs.length := hlt
      have HR := Lib.hid (And.intro hset.strip (And.intro hbs (And.intro hfin (strip_eq_dg WB_one hset.1))))
      clear hzl hO hx hy hyr hxr hlen hi0 hz0 hz1 hz2 hset hbs hfin hbw hv hb1 hbare hlz hcs hfr
      go_wp2_with (go_at_call 23; refine HB.out.mono ?_; rintro e w' ⟨rfl, rfl⟩)
      go_ret
      exact ⟨_, rfl, by rw [← HR.out.2.2.1, ← HR.out.2.2.2]; exact HR.out.1, HR.out.2.1⟩
end Go.Proofs.YtclaiidoomdklaaDoor
namespace Go.Proofs.YtclaiidoomdklaaDoor
open Go Go.RowKit Go.Proofs Pl
set_option linter.unusedVariables false

set_option maxRecDepth 100000 in
set_option maxHeartbeats 2000000 in
/-- nat.less: the difference of a number and one that is no greater. -/
theorem less_any (A B : Option Addr) (c d : Nat) (xs ys : List Nat) (w : World) (hx : Rd w A xs) (hy : Rd w B ys) (hly : ys.length ≤ d) (hcy : d ≤ maxLen) (hle : ys.length ≤ xs.length) (hv0 : val WB ys ≤ val WB xs) (hlen : xs.length * 8 ≤ 140737488355328) :
    Calls Tryd.prog 29 #[.slice A xs.length c, .slice B ys.length d] w fun e w' => ∃ v, e = .returned v ∧ Ow w' w.heap.size v (dg WB (val WB xs - val WB ys)) ∧ Below w.heap.size w w' := by
  unfold maxLen at hcy
  have hcl := clone_any A c xs w hx hlen
  have HCL := Lib.hid hcl
  clear hcl
  have HX := Lib.hid hx.1
  clear hx
  have HV0 := Lib.hid hv0
  clear hv0
  go_enter Tryd.func29, Tryd.ntmps29
  go_wp2_with (go_at_call 42; refine HCL.out.mono ?_; rintro e w1 ⟨v1, rfl, hO1, hb1⟩; obtain ⟨G, k, rfl, hk1, hk2⟩ := hO1.slice)
  unfold maxLen at hk2
  go_loopw [6, 12] (fun c i wr => ∃ (zs : List Nat) (q : Nat), i = .int .i64 zs.length ∧ zs.length ≤ xs.length ∧ c = .int .u64 (q : Int) ∧ q ≤ 1 ∧ Ow wr w.heap.size (.slice G xs.length k) (zs ++ xs.drop zs.length) ∧ Hid (val WB zs + vt WB ys zs.length = vt WB xs zs.length + WB ^ zs.length * q) ∧ Below w.heap.size w wr) (fun _ i _ => xs.length - (intOf i).toNat)
  case atStart => exact ⟨[], 0, rfl, by simp, rfl, by omega, hO1, by show _ = _; rfl, hb1⟩
  case round =>
    obtain ⟨zs, q, rfl, hz, rfl, hq, hO, hv, hbw⟩ := hrel
    have hyr := hy.keep hbw
    have hlo : (zs ++ xs.drop zs.length).length = xs.length := by simp; omega
    by_cases hlt : zs.length < xs.length
    · obtain ⟨g, rfl, -, hg1, hg2, -, -, hcs, hfr⟩ := hO.at_ (j := zs.length) (by rw [hlo]; exact hlt)
      have hm := hcs zs.length _ (over_get hlt)
      have hf0 := hfr zs.length
      have hx0 : atD xs zs.length < WB := HX.out.getD WB_pos zs.length
      have hy0 : atD ys zs.length < WB := hy.1.getD WB_pos zs.length
      have hat := at_nat B d ys zs.length
      have hset := (hO.drewN 1).set_ (g := g) hlo.symm (j := zs.length) (x := (atD xs zs.length + WB - atD ys zs.length - q) % WB) (Nat.mod_lt _ WB_pos)
      rw [over_step _ hlt] at hset
      have hstep := sub_step WB_pos hx0 hy0 hq rfl hv.out
      have hbs := (below_drewN hbw 1).setCell (p := ⟨g, zs.length, none⟩) hg1 (.int .u64 (((atD xs zs.length + WB - atD ys zs.length - q) % WB : Nat) : Int))
      have hA := sub64_run (atD xs zs.length) (atD ys zs.length) q hq
      have hq' : (if atD xs zs.length < atD ys zs.length + q then 1 else 0) ≤ 1 := by split <;> omega
      obtain ⟨q', hqq⟩ : ∃ q', q' = (if atD xs zs.length < atD ys zs.length + q then 1 else 0) := ⟨_, rfl⟩
      rw [← hqq] at hstep hA hq'
      have HO := Lib.hid (And.intro hset (And.intro hstep (And.intro hbs hq')))
      have HYR := Lib.hid hyr
      have HAT := Lib.hid hat
      clear hO hy hyr hat hlen hset hstep hbs hbw hv hx0 hy0 hb1 hcs hfr hlo hO1 hqq hq'
      go_upto_region 6 with (fail)
      go_region_with (go_at_call 51; refine (HAT.out _ (HYR.out.drewN 1) (by unfold maxLen; omega)).mono ?_; rintro e w' ⟨rfl, rfl⟩)
      all_goals
        clear hA hm HAT HYR hf0
        go_wp2_with fail
        go_roundw
        case rel => exact ⟨_, _, by rw [List.length_append]; rfl, by simp; omega, rfl, HO.out.2.2.2, HO.out.1, by unfold Hid; simpa using HO.out.2.1, HO.out.2.2.1⟩
        case measure => simp [intOf]; omega
    · have hzl : zs.length = xs.length := by omega
      have hO' : Ow wr w.heap.size (.slice G xs.length k) zs := by
        rw [List.drop_eq_nil_of_le (by omega), List.append_nil] at hO; exact hO
      have hfin : val WB zs = val WB xs - val WB ys := by
        have h1 := hv.out
        rw [vt_all _ _ (by omega), vt_all _ _ (by omega)] at h1
        have h2 := val_lt hO'.1
        have h3 := HV0.out
        have h4 : q = 0 ∨ q = 1 := by omega
        rcases h4 with rfl | rfl <;> omega
      have hbare := bare_any G k zs wr hO'.rd (by omega) (by unfold maxLen; omega)
      rw [hzl] at hbare
      have HB := Lib.hid hbare
      have hst := hO'.strip
      have hdg := strip_eq_dg WB_one hO'.1
      rw [hfin] at hdg
      have HR := Lib.hid (And.intro hst (And.intro hbw hdg))
      clear hO hO' hy hyr hlen hbw hv hb1 hbare hlo hst hdg hfin hzl hO1
      go_wp2_with (go_at_call 23; refine HB.out.mono ?_; rintro e w' ⟨rfl, rfl⟩)
      go_ret
      exact ⟨_, rfl, by rw [← HR.out.2.2]; exact HR.out.1, HR.out.2.1⟩
end Go.Proofs.YtclaiidoomdklaaDoor
namespace Go.Proofs.YtclaiidoomdklaaDoor
namespace Pl

def cmpN (a b : Nat) : Int := if a < b then -1 else if b < a then 1 else 0

/-- The topmost place that differs decides. -/
theorem val_lt_of {B : Nat} {P Q : List Nat} {i : Nat} (hP : All B P) (hl : P.length = Q.length) (hi : i < P.length) (hd : P.drop (i + 1) = Q.drop (i + 1)) (h : P[i] < Q[i]'(by omega)) : val B P < val B Q := by
  have e1 := val_take_drop B P i (by omega)
  have e2 := val_take_drop B Q i (by omega)
  rw [List.drop_eq_getElem_cons hi, val_cons, hd] at e1
  rw [List.drop_eq_getElem_cons (show i < Q.length by omega), val_cons] at e2
  have h1 := val_lt (hP.take i)
  rw [List.length_take, Nat.min_eq_left (by omega)] at h1
  have h2 : B ^ i * (P[i] + 1 + B * val B (Q.drop (i + 1))) ≤ B ^ i * (Q[i]'(by omega) + B * val B (Q.drop (i + 1))) := Nat.mul_le_mul_left _ (by omega)
  rw [show P[i] + 1 + B * val B (Q.drop (i + 1)) = (P[i] + B * val B (Q.drop (i + 1))) + 1 from by omega, Nat.mul_add, Nat.mul_one] at h2
  omega
theorem canon_length_lt {B : Nat} (hB : 1 < B) {P Q : List Nat} (hP : All B P) (hQ : All B Q) (cQ : Canon Q) (h : P.length < Q.length) : val B P < val B Q := by
  have h1 := val_lt hP
  have e := dg_val hB hQ cQ
  rcases Nat.lt_or_ge (val B Q) (B ^ P.length) with h2 | h2
  · have := dg_length_le hB h2
    rw [e] at this; omega
  · omega
theorem strip_length_mono {B : Nat} (hB : 1 < B) {P Q : List Nat} (hP : All B P) (hQ : All B Q) (h : val B P ≤ val B Q) : (strip P).length ≤ (strip Q).length := by
  rw [strip_eq_dg hB hP, strip_eq_dg hB hQ]; exact dg_length_mono hB h
end Pl
end Go.Proofs.YtclaiidoomdklaaDoor
namespace Go.Proofs.YtclaiidoomdklaaDoor
open Go Go.RowKit Go.Proofs Pl
set_option linter.unusedVariables false

set_option maxRecDepth 100000 in
set_option maxHeartbeats 1000000 in
/-- nat.Trim: the one form. -/
theorem trim_any (A : Option Addr) (c : Nat) (xs : List Nat) (w : World) (hx : Rd w A xs) (hl : xs.length ≤ c) (hc : c ≤ maxLen) (hlen : xs.length * 8 ≤ 140737488355328) :
    Calls Tryd.prog 26 #[.slice A xs.length c] w fun e w' => ∃ v, e = .returned v ∧ Ow w' w.heap.size v (dg WB (val WB xs)) ∧ Below w.heap.size w w' := by
  have hb := bare_any A c xs w hx hl hc
  have hle := strip_length_le xs
  have hcl := clone_any A c (strip xs) w hx.strip (by omega)
  rw [strip_eq_dg WB_one hx.1] at hcl hb
  have HB := Lib.hid hb
  have HC := Lib.hid hcl
  clear hb hcl hlen hle hx
  go_enter Tryd.func26, Tryd.ntmps26
  go_wp2_with (first
    | (go_at_call 23; refine HB.out.mono ?_; rintro e w' ⟨rfl, rfl⟩)
    | (go_at_call 42; refine HC.out.mono ?_; rintro e w' ⟨v, rfl, hO, hbw⟩))
  go_ret
  exact ⟨v, rfl, hO, hbw⟩

set_option maxRecDepth 100000 in
set_option maxHeartbeats 1000000 in
/-- nat.Cmp: which is the greater. -/
theorem cmp_any (A B : Option Addr) (c d : Nat) (xs ys : List Nat) (w : World) (hx : Rd w A xs) (hy : Rd w B ys) (hlx : xs.length ≤ c) (hcx : c ≤ maxLen) (hly : ys.length ≤ d) (hcy : d ≤ maxLen) :
    Calls Tryd.prog 11 #[.slice A xs.length c, .slice B ys.length d] w fun e w' => e = .returned (.int .i64 (cmpN (val WB xs) (val WB ys))) ∧ ∃ q, w' = w.drewN q := by
  have hbx := bare_any A c xs w hx hlx hcx
  have hby := bare_any B d ys w hy hly hcy
  obtain ⟨P, hP⟩ : ∃ P, P = strip xs := ⟨_, rfl⟩
  obtain ⟨Q, hQ⟩ : ∃ Q, Q = strip ys := ⟨_, rfl⟩
  have rP : Rd w A P := hP ▸ hx.strip
  have rQ : Rd w B Q := hQ ▸ hy.strip
  have cP : Canon P := hP ▸ canon_strip xs
  have cQ : Canon Q := hQ ▸ canon_strip ys
  have vP : val WB xs = val WB P := by rw [hP, val_strip]
  have vQ : val WB ys = val WB Q := by rw [hQ, val_strip]
  have lP : P.length ≤ c := by rw [hP]; exact Nat.le_trans (strip_length_le xs) hlx
  have lQ : Q.length ≤ d := by rw [hQ]; exact Nat.le_trans (strip_length_le ys) hly
  rw [← hP] at hbx
  rw [← hQ] at hby
  have HBX := Lib.hid hbx
  have HBY := Lib.hid hby
  clear hbx hby hP hQ hx hy
  unfold maxLen at *
  by_cases hl : P.length = Q.length
  · have hlI : ((P.length : Int) != (Q.length : Int)) = false := by simp; omega
    have hlQ : Q.length ≤ P.length := by omega
    have hlP : P.length ≤ Q.length := by omega
    have HL := Lib.hid hl
    clear hl
    go_enter Tryd.func11, Tryd.ntmps11
    go_wp2_with fail
    refine HBX.out.mono ?_; rintro e w' ⟨rfl, rfl⟩
    go_wp2_with fail
    refine HBY.out.mono ?_; rintro e w' ⟨rfl, rfl⟩
    have HV : Hid (val WB xs = val WB P ∧ val WB ys = val WB Q) := ⟨vP, vQ⟩
    clear vP vQ
    have HRP := Lib.hid rP
    have HRQ := Lib.hid rQ
    clear rP rQ
    go_wp2_with fail
    go_loopw [5] (fun i wr => ∃ k q : Nat, i = .int .i64 ((k : Int) - 1) ∧ k ≤ P.length ∧ Hid (P.drop k = Q.drop k) ∧ wr = w.drewN q) (fun i _ => (intOf i + 1).toNat)
    case atStart => exact ⟨P.length, 0, rfl, Nat.le_refl _, by show _ = _; rw [List.drop_length, List.drop_eq_nil_of_le (by omega)], rfl⟩
    case round =>
      obtain ⟨k, q, rfl, hk, hd, rfl⟩ := hrel
      cases k with
      | zero =>
        have hfin : Hid (cmpN (val WB xs) (val WB ys) = 0) := by
          show _ = _
          have e : P = Q := hd.out
          rw [HV.out.1, HV.out.2, e]; simp [cmpN]
        go_wp2_with fail
        go_ret
        exact ⟨by rw [hfin.out]; rfl, q, rfl⟩
      | succ m =>
        have hm : m < P.length := by omega
        have hmQ : m < Q.length := by omega
        obtain ⟨b, o, rfl, hcell⟩ := HRP.out.at_ hm
        obtain ⟨b', o', rfl, hcell'⟩ := HRQ.out.at_ hmQ
        have e1 := hcell m _ (List.getElem?_eq_getElem hm)
        have e2 := hcell' m _ (List.getElem?_eq_getElem hmQ)
        clear hcell hcell'
        have hkm : (((m + 1 : Nat) : Int) - 1) = (m : Int) := by omega
        rw [hkm]
        clear hkm
        rcases Nat.lt_trichotomy P[m] Q[m] with h | h | h
        · have hlt := val_lt_of HRP.out.1 HL.out hm hd.out h
          have hfin : Hid (cmpN (val WB xs) (val WB ys) = -1) := by
            show _ = _
            rw [HV.out.1, HV.out.2]; simp [cmpN, hlt]
          have h' : (P[m] : Int) < (Q[m] : Int) := by omega
          clear hlt h
          go_wp2_with fail
          go_quiet (fail)
          go_wp2_with fail
          go_ret
          exact ⟨by rw [hfin.out]; rfl, _, by simp; rfl⟩
        · have hd' : Hid (P.drop m = Q.drop m) := by
            show _ = _
            rw [List.drop_eq_getElem_cons hm, List.drop_eq_getElem_cons hmQ, h, hd.out]
          have h1 : ¬ (P[m] : Int) < (Q[m] : Int) := by omega
          have h2 : ¬ (Q[m] : Int) < (P[m] : Int) := by omega
          clear h
          go_wp2_with fail
          go_quiet (fail)
          go_wp2_with fail
          go_quiet (fail)
          go_wp2_with fail
          go_roundw
          case rel => exact ⟨m, _, rfl, by omega, hd', by first | rfl | (simp; rfl)⟩
          case measure => simp [intOf]
        · have hlt := val_lt_of HRQ.out.1 HL.out.symm hmQ hd.out.symm h
          have hfin : Hid (cmpN (val WB xs) (val WB ys) = 1) := by
            show _ = _
            rw [HV.out.1, HV.out.2, cmpN, if_neg (by omega), if_pos hlt]
          have h1 : ¬ (P[m] : Int) < (Q[m] : Int) := by omega
          have h2 : (Q[m] : Int) < (P[m] : Int) := by omega
          clear hlt h
          go_wp2_with fail
          go_quiet (fail)
          go_wp2_with fail
          go_quiet (fail)
          go_wp2_with fail
          go_ret
          exact ⟨by rw [hfin.out]; rfl, _, by simp; rfl⟩
  · have hlI : ((P.length : Int) != (Q.length : Int)) = true := by simp; omega
    rcases Nat.lt_or_gt_of_ne hl with h | h
    · have hlt := canon_length_lt WB_one rP.1 rQ.1 cQ h
      have hfin : Hid (cmpN (val WB xs) (val WB ys) = -1) := by
        show _ = _
        rw [vP, vQ]; simp [cmpN, hlt]
      clear hlt vP vQ hl rP rQ cP cQ
      go_enter Tryd.func11, Tryd.ntmps11
      go_wp2_with fail
      refine HBX.out.mono ?_; rintro e w' ⟨rfl, rfl⟩
      go_wp2_with fail
      refine HBY.out.mono ?_; rintro e w' ⟨rfl, rfl⟩
      go_wp2_with fail
      go_ret
      exact ⟨by rw [hfin.out]; rfl, 0, rfl⟩
    · have hlt := canon_length_lt WB_one rQ.1 rP.1 cP h
      have hfin : Hid (cmpN (val WB xs) (val WB ys) = 1) := by
        show _ = _
        rw [vP, vQ, cmpN, if_neg (by omega), if_pos hlt]
      have h2 : ¬ P.length < Q.length := by omega
      clear hlt vP vQ hl rP rQ cP cQ h
      go_enter Tryd.func11, Tryd.ntmps11
      go_wp2_with fail
      refine HBX.out.mono ?_; rintro e w' ⟨rfl, rfl⟩
      go_wp2_with fail
      refine HBY.out.mono ?_; rintro e w' ⟨rfl, rfl⟩
      go_wp2_with fail
      go_ret
      exact ⟨by rw [hfin.out]; rfl, 0, rfl⟩

/-- The number of the difference's error. -/
def subErr (a b : Nat) : Nat := if a < b then 4 else 0
end Go.Proofs.YtclaiidoomdklaaDoor
