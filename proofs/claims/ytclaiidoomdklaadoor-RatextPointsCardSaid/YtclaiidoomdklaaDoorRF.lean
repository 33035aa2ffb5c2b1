/-
  The law RatextPoints, walked.
-/
import Derived.Test.YtclaiidoomdklaaDoorRE
namespace Go.Proofs.YtclaiidoomdklaaDoor
section
open Go Go.RowKit Go.Proofs Pl
set_option linter.unusedVariables false
set_option maxRecDepth 100000 in
set_option maxHeartbeats 2000000 in
theorem points_out (w : World) (ht : Tab w) {s : ByteArray} (hs : s.size ≤ 9223372036854775807) (h : s.size < 2 ∨ 90 < s.size) (p q : Int) :
    Calls Tryd.prog 3 #[.string s, .int .i64 p, .int .i64 q] w fun e w' => e = .returned (.bool true) ∧ Below w.heap.size w w' := by
  have S0 := Lib.hid (And.intro ht (Below.refl w.heap.size w))
  clear ht
  go_enter Tryd.func3, Tryd.ntmps3
  go_wp2_with fail
  refine (speaks_r _ S0.out.1).mono ?_; rintro e w1 ⟨rfl, hb⟩
  have S1 := Lib.hid (below_trans S0.out.2 hb)
  clear hb S0
  rcases h with h | h
  · have d1 : decide ((s.size : Int) < 2) = true := decide_eq_true (by omega)
    go_wp2_with fail
    go_ret
    exact ⟨rfl, S1.out⟩
  · have d1 : decide ((s.size : Int) < 2) = false := decide_eq_false (by omega)
    have d2 : decide ((90 : Int) < (s.size : Int)) = true := decide_eq_true (by omega)
    go_wp2_with fail
    go_ret
    exact ⟨rfl, S1.out⟩
theorem dig_take {s : ByteArray} {i : Nat} (hi : i < s.size) (h : allDig (s.data.toList.take i) = true) (h1 : 48 ≤ s[i].toNat) (h2 : s[i].toNat ≤ 57) : allDig (s.data.toList.take (i + 1)) = true := by
  have hl : i < s.data.toList.length := by rw [← Lib.size_eq]; exact hi
  rw [List.take_succ_eq_append_getElem hl, allDig_app, h]
  show (digB s[i] && true) = true
  unfold digB
  rw [decide_eq_true h1, decide_eq_true h2]
  rfl
set_option maxRecDepth 100000 in
set_option maxHeartbeats 2000000 in
theorem points_not (w : World) (ht : Tab w) {s : ByteArray} (h2 : 2 ≤ s.size) (h9 : s.size ≤ 90) (hd : allDig s.data.toList = false) (p q : Int) :
    Calls Tryd.prog 3 #[.string s, .int .i64 p, .int .i64 q] w fun e w' => e = .returned (.bool true) ∧ Below w.heap.size w w' := by
  have S0 := Lib.hid (And.intro ht (Below.refl w.heap.size w))
  have HD := Lib.hid hd
  clear ht hd
  have d1 : decide ((s.size : Int) < 2) = false := decide_eq_false (by omega)
  have d2 : decide ((90 : Int) < (s.size : Int)) = false := decide_eq_false (by omega)
  go_enter Tryd.func3, Tryd.ntmps3
  go_wp2_with fail
  refine (speaks_r _ S0.out.1).mono ?_; rintro e w1 ⟨rfl, hb⟩
  have S1 := Lib.hid (below_trans S0.out.2 hb)
  clear hb S0
  go_wp2_with fail
  go_loop [7] (fun v => ∃ i : Nat, v = .int .i64 (i : Int) ∧ i ≤ s.size ∧ Hid (allDig (s.data.toList.take i) = true)) (fun v => s.size - (intOf v).toNat)
  case atStart => exact ⟨0, rfl, by omega, rfl⟩
  case round =>
    obtain ⟨i, rfl, hi, hI⟩ := hrel
    by_cases hlt : i < s.size
    · by_cases h1 : s[i].toNat < 48
      · have e1 : decide ((s[i].toNat : Int) < 48) = true := decide_eq_true (by omega)
        go_wp2_with fail
        go_ret
        exact ⟨rfl, S1.out⟩
      · have e1 : decide ((s[i].toNat : Int) < 48) = false := decide_eq_false (by omega)
        by_cases h3 : 57 < s[i].toNat
        · have e2 : decide ((57 : Int) < (s[i].toNat : Int)) = true := decide_eq_true (by omega)
          go_wp2_with fail
          go_ret
          exact ⟨rfl, S1.out⟩
        · have e2 : decide ((57 : Int) < (s[i].toNat : Int)) = false := decide_eq_false (by omega)
          have N := Lib.hid (dig_take hlt hI.out (by omega) (by omega))
          go_wp2_with fail
          go_round
          case rel => exact ⟨i + 1, by go_num, by omega, N.out⟩
          case measure => simp [intOf]; omega
    · exfalso
      have e : s.data.toList.take i = s.data.toList := List.take_of_length_le (by rw [← Lib.size_eq]; omega)
      have a := hI.out
      rw [e, HD.out] at a
      cases a
theorem st_zeros (j : Nat) : St (List.replicate j 48) ++ ByteArray.mk #[48] = St (List.replicate (j + 1) 48) := by
  rw [List.replicate_succ', ← st_app]; rfl
theorem conv_one (W : World) (b : UInt8) : (convert 31 9 (.slice (some ⟨W.heap.size, 0, none⟩) 1 1)).run Tryd.prog (W.alloc (.cells #[.int .u8 (b.toNat : Int)] 5)) = .ok (.string (St [b])) (W.alloc (.cells #[.int .u8 (b.toNat : Int)] 5)) := by
  refine run_convert_bytes_back _ 31 9 5 ⟨W.heap.size, 0, none⟩ 1 [b] Tryd.underlying31 Tryd.underlying5 Tryd.underlying9 (fun j hj => ?_)
  obtain rfl : j = 0 := by simpa using hj
  have e : (⟨W.heap.size, 0, none⟩ : Addr).add 0 = ⟨W.heap.size, 0, none⟩ := by unfold Addr.add; split <;> simp_all
  rw [e, cell_of_row _ W.heap.size 0 #[.int .u8 (b.toNat : Int)] 5 _ (heap_alloc_new _ _)]
  rfl
set_option maxRecDepth 100000 in
set_option maxHeartbeats 2000000 in
theorem points_main (w : World) (ht : Tab w) {s : ByteArray} {k m n : Nat} {p q z y : Int} {u v : Nat} (h2 : 2 ≤ s.size) (h9 : s.size ≤ 90) (hd : allDig s.data.toList = true)
    (hp : ((p % 1024).toNat) % (s.size - 1) + 1 = k) (hm : s.size - k = m) (hn : (q % 1024).toNat % 9 = n)
    (hp1 : Gives (s.extract 0 k ++ ByteArray.mk #[46] ++ s.extract k s.size) z u) (hp2 : Gives (s ++ ByteArray.mk #[47, 49] ++ St (List.replicate m 48)) z u)
    (hp3 : Gives (ByteArray.mk #[45] ++ s ++ ByteArray.mk #[101] ++ St [UInt8.ofNat (48 + n)]) y v) (hp4 : Gives (ByteArray.mk #[45] ++ s ++ St (List.replicate n 48)) y v) :
    Calls Tryd.prog 3 #[.string s, .int .i64 p, .int .i64 q] w fun e w' => e = .returned (.bool true) ∧ Below w.heap.size w w' := by
  have S0 := Lib.hid (And.intro ht (Below.refl w.heap.size w))
  have HP := Lib.hid (And.intro hp1 (And.intro hp2 (And.intro hp3 hp4)))
  have HD := Lib.hid hd
  obtain ⟨x, hx⟩ : ∃ x, (p % 1024).toNat = x := ⟨_, rfl⟩
  obtain ⟨r, hr⟩ : ∃ r, (q % 1024).toNat = r := ⟨_, rfl⟩
  have a1 : bits .and .i64 p 1023 = (x : Int) := by rw [i64_and1023]; omega
  have a2 : bits .and .i64 q 1023 = (r : Int) := by rw [i64_and1023]; omega
  obtain ⟨L, hL⟩ : ∃ L, s.size - 1 = L := ⟨_, rfl⟩
  obtain ⟨k0, hk0⟩ : ∃ k0, x % L = k0 := ⟨_, rfl⟩
  rw [hx, hL, hk0] at hp
  rw [hr] at hn
  have hLp : 0 < L := by omega
  have hk0L : k0 < L := by rw [← hk0]; exact Nat.mod_lt _ hLp
  have a3 : IntKind.i64.wrap ((s.size : Int) - 1) = (L : Int) := by rw [IntKind.wrap_i64]; omega
  have a4 : (x : Int) % (L : Int) = (k0 : Int) := by rw [← hk0]; rfl
  have a5 : IntKind.i64.wrap (1 + (k0 : Int)) = (k : Int) := by rw [IntKind.wrap_i64]; omega
  have a6 : (r : Int) % 9 = (n : Int) := by omega
  have a7 : IntKind.i64.wrap ((s.size : Int) - (k : Int)) = (m : Int) := by rw [IntKind.wrap_i64]; omega
  have b1 : (L : Int) ≠ 0 := by omega
  have n9 : n < 9 := by omega
  have HK := Lib.hid (And.intro (show k ≤ s.size by omega) (show m ≤ 90 by omega))
  have HA := Lib.hid (And.intro a1 (And.intro a2 (And.intro a3 (And.intro a4 (And.intro a5 (And.intro a6 (And.intro a7 b1)))))))
  clear ht hp1 hp2 hp3 hp4 hd hx hr hL hk0 hp hn hm a1 a2 a3 a4 a5 a6 a7 b1 hLp hk0L
  have d1 : decide ((s.size : Int) < 2) = false := decide_eq_false (by omega)
  have d2 : decide ((90 : Int) < (s.size : Int)) = false := decide_eq_false (by omega)
  go_enter Tryd.func3, Tryd.ntmps3
  go_wp2_with fail
  refine (speaks_r _ S0.out.1).mono ?_; rintro e w1 ⟨rfl, hb⟩
  have S1 := Lib.hid (And.intro (S0.out.1.keep hb) (below_trans S0.out.2 hb))
  clear hb S0
  go_wp2_with fail
  go_loop [7] (fun v => ∃ i : Nat, v = .int .i64 (i : Int) ∧ i ≤ s.size) (fun v => s.size - (intOf v).toNat)
  case atStart => exact ⟨0, rfl, by omega⟩
  case round =>
    obtain ⟨i, rfl, hi⟩ := hrel
    by_cases hlt : i < s.size
    · have hg := allDig_get HD.out (k := i) (by rw [← Lib.size_eq]; exact hlt)
      rw [show s.data.toList[i]'(by rw [← Lib.size_eq]; exact hlt) = s[i] from rfl] at hg
      have e1 : decide ((s[i].toNat : Int) < 48) = false := decide_eq_false (by omega)
      have e2 : decide ((57 : Int) < (s[i].toNat : Int)) = false := decide_eq_false (by omega)
      clear hg
      go_wp2_with fail
      go_round
      case rel => exact ⟨i + 1, by go_num, by omega⟩
      case measure => simp [intOf]; omega
    · obtain ⟨a1, a2, a3, a4, a5, a6, a7, b1⟩ := HA.out
      clear d1 d2
      go_wp2_with fail
      clear a1 a2 a3 a4 a5 a6
      go_loop [10, 11] (fun v i => ∃ j : Nat, v = .string (St (List.replicate j 48)) ∧ i = .int .i64 (j : Int) ∧ j ≤ m) (fun _ i => m - (intOf i).toNat)
      case atStart => exact ⟨0, rfl, rfl, by omega⟩
      case round =>
        obtain ⟨j, rfl, rfl, hj⟩ := hrel
        have hm9 := HK.out.2
        by_cases hlj : j < m
        · have hjI : (j : Int) < (m : Int) := by omega
          obtain ⟨Z, hZ⟩ : ∃ Z, St (List.replicate j 48) = Z := ⟨_, rfl⟩
          have zs : Z.size ≤ 90 := by rw [← hZ, st_size, List.length_replicate]; omega
          rw [hZ]
          go_wp2_with fail
          case roundEnd => exact ⟨⟨j + 1, by rw [← hZ, ← st_zeros], by go_num, by omega⟩, by simp [intOf]; omega⟩
        · have hjI : ¬ (j : Int) < (m : Int) := by omega
          obtain rfl : j = m := by omega
          obtain ⟨Z, hZ⟩ : ∃ Z, St (List.replicate j 48) = Z := ⟨_, rfl⟩
          have zs : Z.size ≤ 90 := by rw [← hZ, st_size, List.length_replicate]; omega
          rw [hZ] at HP ⊢
          clear hjI hlj hm9
          go_wp2_with fail
          go_loop [12, 13] (fun v i => ∃ j : Nat, v = .string (St (List.replicate j 48)) ∧ i = .int .i64 (j : Int) ∧ j ≤ n) (fun _ i => n - (intOf i).toNat)
          case atStart => exact ⟨0, rfl, rfl, by omega⟩
          case round =>
            obtain ⟨c, rfl, rfl, hc⟩ := hrel
            by_cases hcn : c < n
            · have hjI : (c : Int) < (n : Int) := by omega
              obtain ⟨Y, hY⟩ : ∃ Y, St (List.replicate c 48) = Y := ⟨_, rfl⟩
              have ys : Y.size ≤ 9 := by rw [← hY, st_size, List.length_replicate]; omega
              rw [hY]
              go_wp2_with fail
              case roundEnd => exact ⟨⟨c + 1, by rw [← hY, ← st_zeros], by go_num, by omega⟩, by simp [intOf]; omega⟩
            · have hjI : ¬ (c : Int) < (n : Int) := by omega
              obtain rfl : c = n := by omega
              obtain ⟨Y, hY⟩ : ∃ Y, St (List.replicate c 48) = Y := ⟨_, rfl⟩
              have ys : Y.size ≤ 9 := by rw [← hY, st_size, List.length_replicate]; omega
              rw [hY] at HP ⊢
              have hk := HK.out.1
              have hkI : (k : Int) ≤ (s.size : Int) := by omega
              have x1 : (s.extract 0 k).size ≤ 90 := by rw [ByteArray.size_extract]; omega
              have x2 : (s.extract k s.size).size ≤ 90 := by rw [ByteArray.size_extract]; omega
              go_upto_region 22 with (fail)
              clear hjI hcn hlt hi hc hj
              go_cut [14, 15] (fun s14 s15 wx => ∃ (g : Nat) (b : Bool) (A : Option Addr) (l c1 : Nat) (A2 : Option Addr) (l2 c2 : Nat), s14 = .pointer (some ⟨g, 0, none⟩) ∧ s15 = .int .i64 0 ∧ Below w1.heap.size w1 wx ∧ B3 27 wx g (.bool b) (.slice A l c1) (.slice A2 l2 c2) ∧ Qo wx (.agg #[.bool b, .slice A l c1, .slice A2 l2 c2]) z u)
              case first =>
                refine wp_region_held_drew (S := fun _ => True) (by kernel_rfl) trivial (fun hHeld => ?_)
                refine rgTake 0 hHeld ?_; try simp only [Act.put, List.setIfInBounds_toArray, List.set_cons_zero, List.set_cons_succ]
                refine rgTake 1 hHeld ?_; try simp only [Act.put, List.setIfInBounds_toArray, List.set_cons_zero, List.set_cons_succ]
                refine rgTake 2 hHeld ?_; try simp only [Act.put, List.setIfInBounds_toArray, List.set_cons_zero, List.set_cons_succ]
                refine rgTake 3 hHeld ?_; try simp only [Act.put, List.setIfInBounds_toArray, List.set_cons_zero, List.set_cons_succ]
                refine rgTake 4 hHeld ?_; try simp only [Act.put, List.setIfInBounds_toArray, List.set_cons_zero, List.set_cons_succ]
                refine rgTake 5 hHeld ?_; try simp only [Act.put, List.setIfInBounds_toArray, List.set_cons_zero, List.set_cons_succ]
                refine rgTake 6 hHeld ?_; try simp only [Act.put, List.setIfInBounds_toArray, List.set_cons_zero, List.set_cons_succ]
                refine rgTake 7 hHeld ?_; try simp only [Act.put, List.setIfInBounds_toArray, List.set_cons_zero, List.set_cons_succ]
                have hB := (show Below w1.heap.size w1 w1.drew from below_dr _ 1)
                generalize w1.drew = Wd at hB hHeld ⊢
                refine rgReady [8, 12] (rgOne (fun K hK => ?_) (rgOne (fun K hK => ?_) rgNil))
                ·
                  go_simp
                  go_at_call 5; refine (HP.out.1 _).mono ?_; rintro e w3 ⟨v3, rfl, h3⟩
                  obtain ⟨b, A, l, c1, A2, l2, c2, rfl⟩ := h3.parts
                  have hB3 := below_trans hB h3.below
                  have H3 := Lib.hid h3.qo
                  clear h3 hB
                  go_wp2_with fail
                  refine hK.out _ _ trivial (fun hHeld => ?_); clear hK K; try simp only [Act.put, List.setIfInBounds_toArray, List.set_cons_zero, List.set_cons_succ]
                  refine rgTake 9 hHeld ?_; try simp only [Act.put, List.setIfInBounds_toArray, List.set_cons_zero, List.set_cons_succ]
                  refine rgTake 10 hHeld ?_; try simp only [Act.put, List.setIfInBounds_toArray, List.set_cons_zero, List.set_cons_succ]
                  refine rgTake 11 hHeld ?_; try simp only [Act.put, List.setIfInBounds_toArray, List.set_cons_zero, List.set_cons_succ]
                  refine rgReady [12] (rgOne (fun K hK => ?_) rgNil)
                  go_simp; refine hK.out _ _ trivial (fun hHeld => ?_); clear hK K; try simp only [Act.put, List.setIfInBounds_toArray, List.set_cons_zero, List.set_cons_succ]
                  have hX := B3.new 27 w3 (.bool false) (.slice none 0 0) (.slice none 0 0)
                  have hal := below_al w3 (.cells #[.bool false, .slice none 0 0, .slice none 0 0] 27)
                  obtain ⟨g, hg⟩ : ∃ g, g = w3.heap.size := ⟨_, rfl⟩
                  have hgz : w1.heap.size ≤ g := by rw [hg]; exact hB3.size
                  have H4 := H3.out.keep hal
                  have hB4 := below_trans hB3 hal
                  rw [← hg] at hX ⊢
                  generalize w3.alloc _ = W4 at hX H4 hB4 hHeld ⊢
                  clear hal hg H3 hB3
                  obtain ⟨f0, f1, f2, f3, f4, f5⟩ := hX.facts
                  refine rgReady [13] (rgOne (fun K hK => ?_) rgNil)
                  go_simp; clear f0 f1 f2 f3 f4 f5
                  refine hK.out _ _ trivial (fun hHeld => ?_); clear hK K; try simp only [Act.put, List.setIfInBounds_toArray, List.set_cons_zero, List.set_cons_succ]
                  refine rgTake 14 hHeld ?_; try simp only [Act.put, List.setIfInBounds_toArray, List.set_cons_zero, List.set_cons_succ]
                  refine wpAnyH_done (by kernel_rfl) ?_ _
                  go_wp2_with fail
                  go_meet
                  exact ⟨g, b, A, l, c1, A2, l2, c2, rfl, rfl, hX.below hB4 hgz _ _ _, hX.set _ _ _, Ql.put3 H4.ql hX _ _ _⟩
                ·
                  go_simp; refine hK.out _ _ trivial (fun hHeld => ?_); clear hK K; try simp only [Act.put, List.setIfInBounds_toArray, List.set_cons_zero, List.set_cons_succ]
                  have hX := B3.new 27 Wd (.bool false) (.slice none 0 0) (.slice none 0 0)
                  have hal := below_al Wd (.cells #[.bool false, .slice none 0 0, .slice none 0 0] 27)
                  obtain ⟨g, hg⟩ : ∃ g, g = Wd.heap.size := ⟨_, rfl⟩
                  have hgz : w1.heap.size ≤ g := by rw [hg]; exact hB.size
                  have hB2 := below_trans hB hal
                  rw [← hg] at hX ⊢
                  generalize Wd.alloc _ = W2 at hX hB2 hHeld ⊢
                  clear hal hg hB
                  have hB := hB2
                  clear hB2
                  refine rgReady [8] (rgOne (fun K hK => ?_) rgNil)
                  go_simp
                  go_at_call 5; refine (HP.out.1 _).mono ?_; rintro e w3 ⟨v3, rfl, h3⟩
                  obtain ⟨b, A, l, c1, A2, l2, c2, rfl⟩ := h3.parts
                  have hB3 := below_trans hB h3.below
                  have H4 := h3.qo
                  have hX := hX.keep h3.below
                  have hB4 := hB3
                  clear hB3 hB h3
                  go_wp2_with fail
                  refine hK.out _ _ trivial (fun hHeld => ?_); clear hK K; try simp only [Act.put, List.setIfInBounds_toArray, List.set_cons_zero, List.set_cons_succ]
                  refine rgTake 9 hHeld ?_; try simp only [Act.put, List.setIfInBounds_toArray, List.set_cons_zero, List.set_cons_succ]
                  refine rgTake 10 hHeld ?_; try simp only [Act.put, List.setIfInBounds_toArray, List.set_cons_zero, List.set_cons_succ]
                  refine rgTake 11 hHeld ?_; try simp only [Act.put, List.setIfInBounds_toArray, List.set_cons_zero, List.set_cons_succ]
                  obtain ⟨f0, f1, f2, f3, f4, f5⟩ := hX.facts
                  refine rgReady [13] (rgOne (fun K hK => ?_) rgNil)
                  go_simp; clear f0 f1 f2 f3 f4 f5
                  refine hK.out _ _ trivial (fun hHeld => ?_); clear hK K; try simp only [Act.put, List.setIfInBounds_toArray, List.set_cons_zero, List.set_cons_succ]
                  refine rgTake 14 hHeld ?_; try simp only [Act.put, List.setIfInBounds_toArray, List.set_cons_zero, List.set_cons_succ]
                  refine wpAnyH_done (by kernel_rfl) ?_ _
                  go_wp2_with fail
                  go_meet
                  exact ⟨g, b, A, l, c1, A2, l2, c2, rfl, rfl, hX.below hB4 hgz _ _ _, hX.set _ _ _, Ql.put3 H4.ql hX _ _ _⟩
              case rest =>
                obtain ⟨gw, pw, Aw, lw, cw, Bw, mw, dw, rfl, rfl, hb, hX, hQ⟩ := hcut
                have S0 := Lib.hid (And.intro (S1.out.1.keep hb) (And.intro hX (And.intro hQ (below_trans S1.out.2 hb))))
                clear hb hX hQ S1 HK HA HD
                generalize wc = V0 at S0 ⊢
                go_wp2_with fail
                refine (HP.out.2.1 _).mono ?_; rintro e w1 ⟨v, rfl, h⟩
                obtain ⟨px, Ax, lx, cx, Bx, mx, dx, rfl⟩ := h.parts
                have S1 := Lib.hid (And.intro (S0.out.1.keep (h.below)) (And.intro (S0.out.2.1.keep (h.below)) (And.intro (S0.out.2.2.1.keep (h.below)) (And.intro (h.qo) (below_trans (S0.out.2.2.2) (h.below))))))
                clear h  S0
                go_upto_region 24 with (fail)
                have hR := B3.new 27 w1 (.bool px) (.slice Ax lx cx) (.slice Bx mx dx)
                obtain ⟨gx, hgx⟩ : ∃ g, g = w1.heap.size := ⟨_, rfl⟩
                have S2 := Lib.hid (And.intro (S1.out.1.keep ((below_al w1 (.cells #[.bool px, .slice Ax lx cx, .slice Bx mx dx] 27)))) (And.intro (S1.out.2.1.keep ((below_al w1 (.cells #[.bool px, .slice Ax lx cx, .slice Bx mx dx] 27)))) (And.intro (S1.out.2.2.1.keep ((below_al w1 (.cells #[.bool px, .slice Ax lx cx, .slice Bx mx dx] 27)))) (And.intro (S1.out.2.2.2.1.keep ((below_al w1 (.cells #[.bool px, .slice Ax lx cx, .slice Bx mx dx] 27)))) (And.intro (hR) (below_trans (S1.out.2.2.2.2) ((below_al w1 (.cells #[.bool px, .slice Ax lx cx, .slice Bx mx dx] 27)))))))))
                clear hR S1
                generalize w1.alloc _ = Wx at S2 ⊢
                rw [← hgx] at S2 ⊢
                clear hgx
                obtain ⟨x, hx⟩ : ∃ x, x = 48 + c := ⟨_, rfl⟩
                have ex : (x : Int) = 48 + (c : Int) := by omega
                have hcv := conv_one Wx (UInt8.ofNat (48 + c))
                rw [show (UInt8.ofNat (48 + c)).toNat = x from by rw [UInt8.toNat_ofNat']; omega, ex] at hcv
                obtain ⟨D, hD⟩ : ∃ D, St [UInt8.ofNat (48 + c)] = D := ⟨_, rfl⟩
                have ds : D.size ≤ 1 := by rw [← hD, st_size]; exact Nat.le_refl _
                rw [hD] at HP hcv
                clear hx hD ex
                go_wp2_with fail
                refine (HP.out.2.2.1 _).mono ?_; rintro e w3 ⟨v, rfl, h⟩
                obtain ⟨py, Ay, ly, cy, By, my, dy, rfl⟩ := h.parts
                have S3 := Lib.hid (And.intro (S2.out.1.keep ((below_trans (below_al _ _) h.below))) (And.intro (S2.out.2.1.keep ((below_trans (below_al _ _) h.below))) (And.intro (S2.out.2.2.1.keep ((below_trans (below_al _ _) h.below))) (And.intro (S2.out.2.2.2.1.keep ((below_trans (below_al _ _) h.below))) (And.intro (S2.out.2.2.2.2.1.keep ((below_trans (below_al _ _) h.below))) (And.intro (h.qo) (below_trans (S2.out.2.2.2.2.2) ((below_trans (below_al _ _) h.below)))))))))
                clear h hcv  S2
                go_upto_region 25 with (fail)
                have hR := B3.new 27 w3 (.bool py) (.slice Ay ly cy) (.slice By my dy)
                obtain ⟨gy, hgy⟩ : ∃ g, g = w3.heap.size := ⟨_, rfl⟩
                have S4 := Lib.hid (And.intro (S3.out.1.keep ((below_al w3 (.cells #[.bool py, .slice Ay ly cy, .slice By my dy] 27)))) (And.intro (S3.out.2.1.keep ((below_al w3 (.cells #[.bool py, .slice Ay ly cy, .slice By my dy] 27)))) (And.intro (S3.out.2.2.1.keep ((below_al w3 (.cells #[.bool py, .slice Ay ly cy, .slice By my dy] 27)))) (And.intro (S3.out.2.2.2.1.keep ((below_al w3 (.cells #[.bool py, .slice Ay ly cy, .slice By my dy] 27)))) (And.intro (S3.out.2.2.2.2.1.keep ((below_al w3 (.cells #[.bool py, .slice Ay ly cy, .slice By my dy] 27)))) (And.intro (S3.out.2.2.2.2.2.1.keep ((below_al w3 (.cells #[.bool py, .slice Ay ly cy, .slice By my dy] 27)))) (And.intro (hR) (below_trans (S3.out.2.2.2.2.2.2) ((below_al w3 (.cells #[.bool py, .slice Ay ly cy, .slice By my dy] 27)))))))))))
                clear hR S3
                generalize w3.alloc _ = Wy at S4 ⊢
                rw [← hgy] at S4 ⊢
                clear hgy
                go_wp2_with fail
                refine (HP.out.2.2.2 _).mono ?_; rintro e w5 ⟨v, rfl, h⟩
                obtain ⟨pz, Az, lz, cz, Bz, mz, dz, rfl⟩ := h.parts
                have S5 := Lib.hid (And.intro (S4.out.1.keep (h.below)) (And.intro (S4.out.2.1.keep (h.below)) (And.intro (S4.out.2.2.1.keep (h.below)) (And.intro (S4.out.2.2.2.1.keep (h.below)) (And.intro (S4.out.2.2.2.2.1.keep (h.below)) (And.intro (S4.out.2.2.2.2.2.1.keep (h.below)) (And.intro (S4.out.2.2.2.2.2.2.1.keep (h.below)) (And.intro (h.qo) (below_trans (S4.out.2.2.2.2.2.2.2) (h.below))))))))))
                clear h  S4
                go_upto_region 26 with (fail)
                have hR := B3.new 27 w5 (.bool pz) (.slice Az lz cz) (.slice Bz mz dz)
                obtain ⟨gz, hgz⟩ : ∃ g, g = w5.heap.size := ⟨_, rfl⟩
                have S6 := Lib.hid (And.intro (S5.out.1.keep ((below_al w5 (.cells #[.bool pz, .slice Az lz cz, .slice Bz mz dz] 27)))) (And.intro (S5.out.2.1.keep ((below_al w5 (.cells #[.bool pz, .slice Az lz cz, .slice Bz mz dz] 27)))) (And.intro (S5.out.2.2.1.keep ((below_al w5 (.cells #[.bool pz, .slice Az lz cz, .slice Bz mz dz] 27)))) (And.intro (S5.out.2.2.2.1.keep ((below_al w5 (.cells #[.bool pz, .slice Az lz cz, .slice Bz mz dz] 27)))) (And.intro (S5.out.2.2.2.2.1.keep ((below_al w5 (.cells #[.bool pz, .slice Az lz cz, .slice Bz mz dz] 27)))) (And.intro (S5.out.2.2.2.2.2.1.keep ((below_al w5 (.cells #[.bool pz, .slice Az lz cz, .slice Bz mz dz] 27)))) (And.intro (S5.out.2.2.2.2.2.2.1.keep ((below_al w5 (.cells #[.bool pz, .slice Az lz cz, .slice Bz mz dz] 27)))) (And.intro (S5.out.2.2.2.2.2.2.2.1.keep ((below_al w5 (.cells #[.bool pz, .slice Az lz cz, .slice Bz mz dz] 27)))) (And.intro (hR) (below_trans (S5.out.2.2.2.2.2.2.2.2) ((below_al w5 (.cells #[.bool pz, .slice Az lz cz, .slice Bz mz dz] 27)))))))))))))
                clear hR S5
                generalize w5.alloc _ = Wz at S6 ⊢
                rw [← hgz] at S6 ⊢
                clear hgz
                obtain ⟨wa, wb, wc, -, -, -⟩ := S6.out.2.1.facts
                obtain ⟨xa, xb, xc, -, -, -⟩ := S6.out.2.2.2.2.1.facts
                go_wp2_with fail
                refine (same_q S6.out.2.2.1.ql S6.out.2.2.2.1.ql).mono ?_; rintro e w7 ⟨rfl, hb⟩
                have S7 := Lib.hid (And.intro (S6.out.1.keep (hb)) (And.intro (S6.out.2.1.keep (hb)) (And.intro (S6.out.2.2.1.keep (hb)) (And.intro (S6.out.2.2.2.1.keep (hb)) (And.intro (S6.out.2.2.2.2.1.keep (hb)) (And.intro (S6.out.2.2.2.2.2.1.keep (hb)) (And.intro (S6.out.2.2.2.2.2.2.1.keep (hb)) (And.intro (S6.out.2.2.2.2.2.2.2.1.keep (hb)) (And.intro (S6.out.2.2.2.2.2.2.2.2.1.keep (hb)) (below_trans (S6.out.2.2.2.2.2.2.2.2.2) (hb)))))))))))
                clear hb wa wb wc xa xb xc S6
                obtain ⟨ya, yb, yc, -, -, -⟩ := S7.out.2.2.2.2.2.2.1.facts
                obtain ⟨za, zb, zc, -, -, -⟩ := S7.out.2.2.2.2.2.2.2.2.1.facts
                go_wp2_with fail
                refine (same_q S7.out.2.2.2.2.2.1.ql S7.out.2.2.2.2.2.2.2.1.ql).mono ?_; rintro e w8 ⟨rfl, hb⟩
                have S8 := Lib.hid (And.intro (S7.out.1.keep (hb)) (And.intro (S7.out.2.1.keep (hb)) (And.intro (S7.out.2.2.1.keep (hb)) (And.intro (S7.out.2.2.2.1.keep (hb)) (And.intro (S7.out.2.2.2.2.1.keep (hb)) (And.intro (S7.out.2.2.2.2.2.1.keep (hb)) (And.intro (S7.out.2.2.2.2.2.2.1.keep (hb)) (And.intro (S7.out.2.2.2.2.2.2.2.1.keep (hb)) (And.intro (S7.out.2.2.2.2.2.2.2.2.1.keep (hb)) (below_trans (S7.out.2.2.2.2.2.2.2.2.2) (hb)))))))))))
                clear hb ya yb yc za zb zc S7
                go_wp2_with fail
                go_ret
                exact ⟨rfl, S8.out.2.2.2.2.2.2.2.2.2⟩
/-- A point within digits divides by a power of ten, an e behind them multiplies by one. -/
theorem ratextPoints_walk (w : World) (ht : Tab w) (s : ByteArray) (hs : s.size ≤ 9223372036854775807) (p : Int) (hp : -9223372036854775808 ≤ p ∧ p ≤ 9223372036854775807) (q : Int) (hq : -9223372036854775808 ≤ q ∧ q ≤ 9223372036854775807) :
    Calls Tryd.prog 3 #[.string s, .int .i64 p, .int .i64 q] w fun e w' => e = .returned (.bool true) ∧ Below w.heap.size w w' := by
  by_cases h : s.size < 2 ∨ 90 < s.size
  · exact points_out w ht hs h p q
  have h2 : 2 ≤ s.size := by omega
  have h9 : s.size ≤ 90 := by omega
  cases hd : allDig s.data.toList with
  | false => exact points_not w ht h2 h9 hd p q
  | true =>
    obtain ⟨d, hdd⟩ : ∃ d, s.data.toList = d := ⟨_, rfl⟩
    have es : s = St d := by rw [← hdd]; exact (st_eta s).symm
    have el : s.size = d.length := by rw [Lib.size_eq, hdd]
    obtain ⟨k, hk⟩ : ∃ k, (p % 1024).toNat % (s.size - 1) + 1 = k := ⟨_, rfl⟩
    obtain ⟨n, hn⟩ : ∃ n, (q % 1024).toNat % 9 = n := ⟨_, rfl⟩
    have hk1 : (p % 1024).toNat % (s.size - 1) < s.size - 1 := Nat.mod_lt _ (by omega)
    have hk2 : k < d.length := by omega
    have hn9 : n < 9 := by rw [← hn]; exact Nat.mod_lt _ (by decide)
    have hcut : s.data.toList = d.take k ++ d.drop k := by rw [List.take_append_drop]; exact hdd
    have htk : (d.take k).length = k := by rw [List.length_take]; omega
    have x1 := extract_pre s hcut
    have x2 := extract_suf s hcut
    rw [htk] at x1 x2
    rw [hdd] at hd
    refine points_main w ht h2 h9 (by rw [hdd]; exact hd) hk rfl hn (z := qn (sg false (decV d)) (10 ^ (d.length - k))) (u := qd (sg false (decV d)) (10 ^ (d.length - k))) (y := qn (sg true (decV d * 10 ^ n)) 1) (v := qd (sg true (decV d * 10 ^ n)) 1) ?_ ?_ ?_ ?_
    · have := points_a hd (by omega) (k := k) (by omega) hk2
      rwa [show St (d.take k ++ 46 :: d.drop k) = s.extract 0 k ++ ByteArray.mk #[46] ++ s.extract k s.size from by
        rw [x1, x2, show ByteArray.mk #[46] = St [46] from rfl, st_app, st_app]; simp] at this
    · have := points_b hd (by omega) (by omega) (m := d.length - k) (by omega)
      rw [el]
      rwa [show St (d ++ 47 :: 49 :: List.replicate (d.length - k) 48) = s ++ ByteArray.mk #[47, 49] ++ St (List.replicate (d.length - k) 48) from by
        rw [es, show ByteArray.mk #[47, 49] = St [47, 49] from rfl, st_app, st_app]; simp] at this
    · have := points_c hd (by omega) (by omega) hn9
      rwa [show St (45 :: (d ++ 101 :: [UInt8.ofNat (48 + n)])) = ByteArray.mk #[45] ++ s ++ ByteArray.mk #[101] ++ St [UInt8.ofNat (48 + n)] from by
        rw [es, show ByteArray.mk #[45] = St [45] from rfl, show ByteArray.mk #[101] = St [101] from rfl, st_app, st_app, st_app]; simp] at this
    · have := points_d hd (by omega) (by omega) hn9
      rwa [show St (45 :: (d ++ List.replicate n 48)) = ByteArray.mk #[45] ++ s ++ St (List.replicate n 48) from by
        rw [es, show ByteArray.mk #[45] = St [45] from rfl, st_app, st_app]; simp] at this
end
end Go.Proofs.YtclaiidoomdklaaDoor
