/-
  The law ZintSmall, walked.
-/
import Derived.Test.YtgbfpimdnmmfpaaGreatDoorZL3
import Derived.Test.YtgbfpimdnmmfpaaGreatDoorZ6
namespace Go.Proofs.YtgbfpimdnmmfpaaGreatDoor
open Go Go.RowKit Go.Proofs Pl
set_option linter.unusedVariables false
set_option linter.unusedSimpArgs false

theorem cmpZ_lt {x y : Int} (h : x < y) : cmpZ x y = -1 := by unfold cmpZ; rw [if_pos h]
theorem cmpZ_gt {x y : Int} (h : y < x) : cmpZ x y = 1 := by unfold cmpZ; rw [if_neg (by omega), if_neg (by omega)]
theorem cmp_dk {w : World} {L1 L2 : Nat} {a b : Value} {x y o : Int} (ho : cmpZ x y = o) (ha : I.Zd w L1 a x) (hb : I.Zd w L2 b y) (h1 : L1 ≤ 1073741824) (h2 : L2 ≤ 1073741824) :
    Calls Tryz.prog 31 #[a, b] w fun e w' => e = .returned (.int .i64 o) ∧ Below w.heap.size w w' := by
  subst ho; exact I.cmp_d ha hb h1 h2
theorem Zd.pat {w : World} {L : Nat} {v : Value} {z : Int} (h : I.Zd w L v z) : ∃ p A n c, v = .agg #[.bool p, .slice A n c] := by
  obtain ⟨p, A, n, c, e, -⟩ := h.parts
  exact ⟨p, A, n, c, e⟩
theorem small_abs {n : Int} (h : Small64 n) : n.natAbs < WB ^ 1 := by unfold Small64 at h; rw [Nat.pow_one, WB_eq]; omega
set_option maxRecDepth 100000 in
set_option maxHeartbeats 2000000 in
theorem zintSmall_big (w : World) (ht : Tab w) {a : Value} {pa : Bool} {xa : List Nat} (ha : Zl w a pa xa) (n : Int) (hn : Small64 n) (hg : ¬ (xa.length ≤ 12 ∧ xa.length ≤ 12)) :
    Calls Tryz.prog 7 #[.int .i64 n, a] w fun e w' => e = .returned (.bool true) ∧ Below w.heap.size w w' := by
  have HG := Lib.hid hg
  have hzl := ha
  clear hg
  have HN := Lib.hid hn
  have hnn : (n != n) = false := by simp
  obtain ⟨Aa, na, ca, rfl, ea, ha⟩ := ha.parts
  have S0 := Lib.hid (And.intro (ht) (And.intro (hzl) (Below.refl w.heap.size w)))
  clear ht hzl ha ea hn 
  go_enter Tryz.func7, Tryz.ntmps7
  go_upto_region 1 with (fail)
  obtain ⟨h0, hb⟩ := box1 w 24 (.bool pa) (.slice Aa na ca)
  have S1 := Lib.hid (And.intro (S0.out.1.keep (hb)) (And.intro (S0.out.2.1.keep (hb)) (And.intro (h0) (below_trans (S0.out.2.2) (hb)))))
  clear hb h0 S0
  generalize w.alloc _ = W0 at S1 ⊢
  go_wp2_with fail
  refine (speaks_z _ S1.out.1).mono ?_; rintro e w2 ⟨rfl, hb⟩
  have S2 := Lib.hid (And.intro (S1.out.1.keep (hb)) (And.intro (S1.out.2.1.keep (hb)) (And.intro (S1.out.2.2.1.keep (hb)) (below_trans (S1.out.2.2.2) (hb)))))
  clear hb  S1
  go_wp2_with fail
  refine (of_k n HN.out _).mono ?_; rintro e w3 ⟨v1, rfl, h⟩
  obtain ⟨px, Ax, lx, cx, rfl, -⟩ := h.parts
  have S3 := Lib.hid (And.intro (S2.out.1.keep (h.below)) (And.intro (S2.out.2.1.keep (h.below)) (And.intro (S2.out.2.2.1.keep (h.below)) (And.intro (h.zo) (below_trans (S2.out.2.2.2) (h.below))))))
  clear h  S2
  go_upto_region 4 with (fail)
  obtain ⟨h0, hb⟩ := box1 w3 24 (.bool px) (.slice Ax lx cx)
  obtain ⟨gx, hgx⟩ : ∃ g, g = w3.heap.size := ⟨_, rfl⟩
  have S4 := Lib.hid (And.intro (S3.out.1.keep (hb)) (And.intro (S3.out.2.1.keep (hb)) (And.intro (S3.out.2.2.1.keep (hb)) (And.intro (S3.out.2.2.2.1.keep (hb)) (And.intro (h0) (below_trans (S3.out.2.2.2.2) (hb)))))))
  clear hb h0 S3
  generalize (w3.alloc _) = Wx at S4 ⊢
  rw [← hgx] at S4 ⊢
  clear hgx
  obtain ⟨xa, xb, -, -⟩ := S4.out.2.2.2.2.1.facts
  go_wp2_with fail
  refine (to_ok (S4.out.2.2.2.1.zn (small_abs HN.out)) (by decide) HN.out).mono ?_; rintro e w5 ⟨rfl, hb⟩
  have S5 := Lib.hid (And.intro (S4.out.1.keep (hb)) (And.intro (S4.out.2.1.keep (hb)) (And.intro (S4.out.2.2.1.keep (hb)) (And.intro (S4.out.2.2.2.1.keep (hb)) (And.intro (S4.out.2.2.2.2.1.keep (hb)) (below_trans (S4.out.2.2.2.2.2) (hb)))))))
  clear hb xa xb S4
  go_upto_region 5 with (fail)
  have S6 := Lib.hid (And.intro (S5.out.1.keep (below_dr _ 1)) (And.intro (S5.out.2.1.keep (below_dr _ 1)) (And.intro (S5.out.2.2.1.keep (below_dr _ 1)) (And.intro (S5.out.2.2.2.1.keep (below_dr _ 1)) (And.intro (S5.out.2.2.2.2.1.keep (below_dr _ 1)) (below_trans (S5.out.2.2.2.2.2) (below_dr _ 1)))))))
  have HS0 : (w5.drewN 1).cell? ⟨gx, 0, none⟩ = some (.bool px) ∧ (w5.drewN 1).cell? ⟨gx, 1, none⟩ = some (.slice Ax lx cx) := ⟨S6.out.2.2.2.2.1.facts.1, S6.out.2.2.2.2.1.facts.2.1⟩
  have HS1 := HS0
  have HS2 := HS0
  have HS3 := HS0
  go_region_held3 (fun W => W.cell? ⟨gx, 0, none⟩ = some (.bool px) ∧ W.cell? ⟨gx, 1, none⟩ = some (.slice Ax lx cx)) (first | with_reducible exact HS1 | with_reducible exact HS2 | with_reducible exact HS3 | exact HS0)
    (first
      | (have hst := S8; clear hst; go_at_call 18; refine (same_zo S8.out.2.2.2.1 S8.out.2.2.2.2.2.1 rfl).mono ?_; rintro e w9 ⟨rfl, hb⟩; have S9 := Lib.hid (And.intro (S8.out.1.keep (hb)) (And.intro (S8.out.2.1.keep (hb)) (And.intro (S8.out.2.2.1.keep (hb)) (And.intro (S8.out.2.2.2.2.1.keep (hb)) (below_trans (S8.out.2.2.2.2.2.2) (hb)))))); have HS3 : w9.cell? ⟨gx, 0, none⟩ = some (.bool px) ∧ w9.cell? ⟨gx, 1, none⟩ = some (.slice Ax lx cx) := ⟨S9.out.2.2.2.1.facts.1, S9.out.2.2.2.1.facts.2.1⟩; clear hb)
      | (have hst := S7; clear hst; go_at_call 20; refine (to_k 1 S7.out.2.2.2.2.2.1 (by decide) (small_abs HN.out) (by decide)).mono ?_; rintro e w8 ⟨v, rfl, h, hb⟩; have S8 := Lib.hid (And.intro (S7.out.1.keep (hb)) (And.intro (S7.out.2.1.keep (hb)) (And.intro (S7.out.2.2.1.keep (hb)) (And.intro (S7.out.2.2.2.1.keep (hb)) (And.intro (S7.out.2.2.2.2.1.keep (hb)) (And.intro (h) (below_trans (S7.out.2.2.2.2.2.2) (hb)))))))); have HS2 : w8.cell? ⟨gx, 0, none⟩ = some (.bool px) ∧ w8.cell? ⟨gx, 1, none⟩ = some (.slice Ax lx cx) := ⟨S8.out.2.2.2.2.1.facts.1, S8.out.2.2.2.2.1.facts.2.1⟩; clear h hb)
      | (have hst := S6; clear hst; go_at_call 40; refine (small_k n HN.out _).mono ?_; rintro e w7 ⟨v, rfl, h, hb⟩; have S7 := Lib.hid (And.intro (S6.out.1.keep (hb)) (And.intro (S6.out.2.1.keep (hb)) (And.intro (S6.out.2.2.1.keep (hb)) (And.intro (S6.out.2.2.2.1.keep (hb)) (And.intro (S6.out.2.2.2.2.1.keep (hb)) (And.intro (h) (below_trans (S6.out.2.2.2.2.2) (hb)))))))); have HS1 : w7.cell? ⟨gx, 0, none⟩ = some (.bool px) ∧ w7.cell? ⟨gx, 1, none⟩ = some (.slice Ax lx cx) := ⟨S7.out.2.2.2.2.1.facts.1, S7.out.2.2.2.2.1.facts.2.1⟩; clear h hb))
  clear HS0 HS1 HS2 HS3
  obtain ⟨aa, ab, -, -⟩ := S9.out.2.2.1.facts
  go_wp2_with fail
  refine (big_yes S9.out.2.1 S9.out.2.1 HG.out).mono ?_; rintro e w10 ⟨rfl, hb⟩
  have S10 := Lib.hid (And.intro (S9.out.1.keep (hb)) (And.intro (S9.out.2.1.keep (hb)) (And.intro (S9.out.2.2.1.keep (hb)) (And.intro (S9.out.2.2.2.1.keep (hb)) (below_trans (S9.out.2.2.2.2) (hb))))))
  clear hb aa ab S9
  go_wp2_with fail
  go_ret
  exact ⟨rfl, S10.out.2.2.2.2⟩
set_option maxRecDepth 100000 in
set_option maxHeartbeats 2000000 in
theorem zintSmall_low (w : World) (ht : Tab w) {a : Value} {pa : Bool} {xa : List Nat} (ha : Zl w a pa xa) (n : Int) (hn : Small64 n) (la : xa.length ≤ 12) (ho1 : cmpZ (sg pa (val WB xa)) (-9223372036854775808) = -1) (hs : ¬ Small64 (sg pa (val WB xa))) :
    Calls Tryz.prog 7 #[.int .i64 n, a] w fun e w' => e = .returned (.bool true) ∧ Below w.heap.size w w' := by
  obtain ⟨z, hz⟩ : ∃ z, z = sg pa (val WB xa) := ⟨_, rfl⟩
  have hza := ha.zn la
  rw [← hz] at hza ho1 hs
  have HG := Lib.hid (And.intro la (And.intro hs (And.intro hz ho1)))
  clear ho1 hs
  have hzl := ha
  have HN := Lib.hid hn
  have hnn : (n != n) = false := by simp
  obtain ⟨Aa, na, ca, rfl, ea, ha⟩ := ha.parts
  have S0 := Lib.hid (And.intro (ht) (And.intro (hzl) (And.intro (hza) (Below.refl w.heap.size w))))
  clear ht hzl ha ea hn hza la hz
  go_enter Tryz.func7, Tryz.ntmps7
  go_upto_region 1 with (fail)
  obtain ⟨h0, hb⟩ := box1 w 24 (.bool pa) (.slice Aa na ca)
  have S1 := Lib.hid (And.intro (S0.out.1.keep (hb)) (And.intro (S0.out.2.1.keep (hb)) (And.intro (S0.out.2.2.1.keep (hb)) (And.intro (h0) (below_trans (S0.out.2.2.2) (hb))))))
  clear hb h0 S0
  generalize w.alloc _ = W0 at S1 ⊢
  go_wp2_with fail
  refine (speaks_z _ S1.out.1).mono ?_; rintro e w2 ⟨rfl, hb⟩
  have S2 := Lib.hid (And.intro (S1.out.1.keep (hb)) (And.intro (S1.out.2.1.keep (hb)) (And.intro (S1.out.2.2.1.keep (hb)) (And.intro (S1.out.2.2.2.1.keep (hb)) (below_trans (S1.out.2.2.2.2) (hb))))))
  clear hb  S1
  go_wp2_with fail
  refine (of_k n HN.out _).mono ?_; rintro e w3 ⟨v1, rfl, h⟩
  obtain ⟨px, Ax, lx, cx, rfl, -⟩ := h.parts
  have S3 := Lib.hid (And.intro (S2.out.1.keep (h.below)) (And.intro (S2.out.2.1.keep (h.below)) (And.intro (S2.out.2.2.1.keep (h.below)) (And.intro (S2.out.2.2.2.1.keep (h.below)) (And.intro (h.zo) (below_trans (S2.out.2.2.2.2) (h.below)))))))
  clear h  S2
  go_upto_region 4 with (fail)
  obtain ⟨h0, hb⟩ := box1 w3 24 (.bool px) (.slice Ax lx cx)
  obtain ⟨gx, hgx⟩ : ∃ g, g = w3.heap.size := ⟨_, rfl⟩
  have S4 := Lib.hid (And.intro (S3.out.1.keep (hb)) (And.intro (S3.out.2.1.keep (hb)) (And.intro (S3.out.2.2.1.keep (hb)) (And.intro (S3.out.2.2.2.1.keep (hb)) (And.intro (S3.out.2.2.2.2.1.keep (hb)) (And.intro (h0) (below_trans (S3.out.2.2.2.2.2) (hb))))))))
  clear hb h0 S3
  generalize (w3.alloc _) = Wx at S4 ⊢
  rw [← hgx] at S4 ⊢
  clear hgx
  obtain ⟨xa, xb, -, -⟩ := S4.out.2.2.2.2.2.1.facts
  go_wp2_with fail
  refine (to_ok (S4.out.2.2.2.2.1.zn (small_abs HN.out)) (by decide) HN.out).mono ?_; rintro e w5 ⟨rfl, hb⟩
  have S5 := Lib.hid (And.intro (S4.out.1.keep (hb)) (And.intro (S4.out.2.1.keep (hb)) (And.intro (S4.out.2.2.1.keep (hb)) (And.intro (S4.out.2.2.2.1.keep (hb)) (And.intro (S4.out.2.2.2.2.1.keep (hb)) (And.intro (S4.out.2.2.2.2.2.1.keep (hb)) (below_trans (S4.out.2.2.2.2.2.2) (hb))))))))
  clear hb xa xb S4
  go_upto_region 5 with (fail)
  have S6 := Lib.hid (And.intro (S5.out.1.keep (below_dr _ 1)) (And.intro (S5.out.2.1.keep (below_dr _ 1)) (And.intro (S5.out.2.2.1.keep (below_dr _ 1)) (And.intro (S5.out.2.2.2.1.keep (below_dr _ 1)) (And.intro (S5.out.2.2.2.2.1.keep (below_dr _ 1)) (And.intro (S5.out.2.2.2.2.2.1.keep (below_dr _ 1)) (below_trans (S5.out.2.2.2.2.2.2) (below_dr _ 1))))))))
  have HS0 : (w5.drewN 1).cell? ⟨gx, 0, none⟩ = some (.bool px) ∧ (w5.drewN 1).cell? ⟨gx, 1, none⟩ = some (.slice Ax lx cx) := ⟨S6.out.2.2.2.2.2.1.facts.1, S6.out.2.2.2.2.2.1.facts.2.1⟩
  have HS1 := HS0
  have HS2 := HS0
  have HS3 := HS0
  go_region_held3 (fun W => W.cell? ⟨gx, 0, none⟩ = some (.bool px) ∧ W.cell? ⟨gx, 1, none⟩ = some (.slice Ax lx cx)) (first | with_reducible exact HS1 | with_reducible exact HS2 | with_reducible exact HS3 | exact HS0)
    (first
      | (have hst := S8; clear hst; go_at_call 18; refine (same_zo S8.out.2.2.2.2.1 S8.out.2.2.2.2.2.2.1 rfl).mono ?_; rintro e w9 ⟨rfl, hb⟩; have S9 := Lib.hid (And.intro (S8.out.1.keep (hb)) (And.intro (S8.out.2.1.keep (hb)) (And.intro (S8.out.2.2.1.keep (hb)) (And.intro (S8.out.2.2.2.1.keep (hb)) (And.intro (S8.out.2.2.2.2.2.1.keep (hb)) (below_trans (S8.out.2.2.2.2.2.2.2) (hb))))))); have HS3 : w9.cell? ⟨gx, 0, none⟩ = some (.bool px) ∧ w9.cell? ⟨gx, 1, none⟩ = some (.slice Ax lx cx) := ⟨S9.out.2.2.2.2.1.facts.1, S9.out.2.2.2.2.1.facts.2.1⟩; clear hb)
      | (have hst := S7; clear hst; go_at_call 20; refine (to_k 1 S7.out.2.2.2.2.2.2.1 (by decide) (small_abs HN.out) (by decide)).mono ?_; rintro e w8 ⟨v, rfl, h, hb⟩; have S8 := Lib.hid (And.intro (S7.out.1.keep (hb)) (And.intro (S7.out.2.1.keep (hb)) (And.intro (S7.out.2.2.1.keep (hb)) (And.intro (S7.out.2.2.2.1.keep (hb)) (And.intro (S7.out.2.2.2.2.1.keep (hb)) (And.intro (S7.out.2.2.2.2.2.1.keep (hb)) (And.intro (h) (below_trans (S7.out.2.2.2.2.2.2.2) (hb))))))))); have HS2 : w8.cell? ⟨gx, 0, none⟩ = some (.bool px) ∧ w8.cell? ⟨gx, 1, none⟩ = some (.slice Ax lx cx) := ⟨S8.out.2.2.2.2.2.1.facts.1, S8.out.2.2.2.2.2.1.facts.2.1⟩; clear h hb)
      | (have hst := S6; clear hst; go_at_call 40; refine (small_k n HN.out _).mono ?_; rintro e w7 ⟨v, rfl, h, hb⟩; have S7 := Lib.hid (And.intro (S6.out.1.keep (hb)) (And.intro (S6.out.2.1.keep (hb)) (And.intro (S6.out.2.2.1.keep (hb)) (And.intro (S6.out.2.2.2.1.keep (hb)) (And.intro (S6.out.2.2.2.2.1.keep (hb)) (And.intro (S6.out.2.2.2.2.2.1.keep (hb)) (And.intro (h) (below_trans (S6.out.2.2.2.2.2.2) (hb))))))))); have HS1 : w7.cell? ⟨gx, 0, none⟩ = some (.bool px) ∧ w7.cell? ⟨gx, 1, none⟩ = some (.slice Ax lx cx) := ⟨S7.out.2.2.2.2.2.1.facts.1, S7.out.2.2.2.2.2.1.facts.2.1⟩; clear h hb))
  clear HS0 HS1 HS2 HS3
  obtain ⟨aa, ab, -, -⟩ := S9.out.2.2.2.1.facts
  go_wp2_with fail
  refine (big_no S9.out.2.1 S9.out.2.1 HG.out.1 HG.out.1).mono ?_; rintro e w10 ⟨rfl, hb⟩
  have S10 := Lib.hid (And.intro (S9.out.1.keep (hb)) (And.intro (S9.out.2.1.keep (hb)) (And.intro (S9.out.2.2.1.keep (hb)) (And.intro (S9.out.2.2.2.1.keep (hb)) (And.intro (S9.out.2.2.2.2.1.keep (hb)) (below_trans (S9.out.2.2.2.2.2) (hb)))))))
  clear hb aa ab S9
  obtain ⟨aa, ab, -, -⟩ := S10.out.2.2.2.1.facts
  go_wp2_with fail
  refine (copy_z S10.out.2.1 (by have := HG.out.1; omega)).mono ?_; rintro e w11 ⟨v2, rfl, h, hb⟩
  have S11 := Lib.hid (And.intro (S10.out.1.keep (hb)) (And.intro (S10.out.2.1.keep (hb)) (And.intro (S10.out.2.2.1.keep (hb)) (And.intro (S10.out.2.2.2.1.keep (hb)) (And.intro (S10.out.2.2.2.2.1.keep (hb)) (And.intro (h.zn HG.out.1) (below_trans (S10.out.2.2.2.2.2) (hb))))))))
  clear h hb aa ab S10
  go_wp2_with fail
  refine (to_no S11.out.2.2.2.2.2.1 (by decide) (by rw [← HG.out.2.2.1]; exact HG.out.2.1)).mono ?_; rintro e w12 ⟨rfl, hb⟩
  have S12 := Lib.hid (And.intro (S11.out.1.keep (hb)) (And.intro (S11.out.2.1.keep (hb)) (And.intro (S11.out.2.2.1.keep (hb)) (And.intro (S11.out.2.2.2.1.keep (hb)) (And.intro (S11.out.2.2.2.2.1.keep (hb)) (And.intro (S11.out.2.2.2.2.2.1.keep (hb)) (below_trans (S11.out.2.2.2.2.2.2) (hb))))))))
  clear hb  S11
  obtain ⟨aa, ab, -, -⟩ := S12.out.2.2.2.1.facts
  go_wp2_with fail
  refine (I.of_d S12.out.2.2.1 (by decide)).mono ?_; rintro e w13 ⟨v3, rfl, h, hb⟩
  obtain ⟨pd, Ad, ld, cd, rfl⟩ := Zd.pat h
  have S13 := Lib.hid (And.intro (S12.out.1.keep (hb)) (And.intro (S12.out.2.1.keep (hb)) (And.intro (S12.out.2.2.1.keep (hb)) (And.intro (S12.out.2.2.2.1.keep (hb)) (And.intro (S12.out.2.2.2.2.1.keep (hb)) (And.intro (S12.out.2.2.2.2.2.1.keep (hb)) (And.intro (h) (below_trans (S12.out.2.2.2.2.2.2) (hb)))))))))
  clear h hb aa ab S12
  go_upto_region 11 with (fail)
  obtain ⟨h0, hb⟩ := box1 w13 33 (.bool pd) (.slice Ad ld cd)
  obtain ⟨gd, hgd⟩ : ∃ g, g = w13.heap.size := ⟨_, rfl⟩
  have S14 := Lib.hid (And.intro (S13.out.1.keep (hb)) (And.intro (S13.out.2.1.keep (hb)) (And.intro (S13.out.2.2.1.keep (hb)) (And.intro (S13.out.2.2.2.1.keep (hb)) (And.intro (S13.out.2.2.2.2.1.keep (hb)) (And.intro (S13.out.2.2.2.2.2.1.keep (hb)) (And.intro (S13.out.2.2.2.2.2.2.1.keep (hb)) (And.intro (h0) (below_trans (S13.out.2.2.2.2.2.2.2) (hb))))))))))
  clear hb h0 S13
  generalize w13.alloc _ = Wd at S14 ⊢
  rw [← hgd] at S14 ⊢
  clear hgd
  obtain ⟨da, db, -, -⟩ := S14.out.2.2.2.2.2.2.2.1.facts
  go_upto_region 11 with (fail)
  have S15 := Lib.hid (And.intro (S14.out.1.keep (below_dr _ 1)) (And.intro (S14.out.2.1.keep (below_dr _ 1)) (And.intro (S14.out.2.2.1.keep (below_dr _ 1)) (And.intro (S14.out.2.2.2.1.keep (below_dr _ 1)) (And.intro (S14.out.2.2.2.2.1.keep (below_dr _ 1)) (And.intro (S14.out.2.2.2.2.2.1.keep (below_dr _ 1)) (And.intro (S14.out.2.2.2.2.2.2.1.keep (below_dr _ 1)) (And.intro (S14.out.2.2.2.2.2.2.2.1.keep (below_dr _ 1)) (below_trans (S14.out.2.2.2.2.2.2.2.2) (below_dr _ 1))))))))))
  go_region_with (first
      | (have hst := S16; clear hst; go_at_call 31; refine (cmp_dk HG.out.2.2.2 S16.out.2.2.2.2.2.2.1 S16.out.2.2.2.2.2.2.2.2.1 (by decide) (by decide)).mono ?_; rintro e w17 ⟨rfl, hb⟩; have S17 := Lib.hid (And.intro (S16.out.1.keep (hb)) (And.intro (S16.out.2.1.keep (hb)) (And.intro (S16.out.2.2.1.keep (hb)) (And.intro (S16.out.2.2.2.1.keep (hb)) (And.intro (S16.out.2.2.2.2.1.keep (hb)) (And.intro (S16.out.2.2.2.2.2.1.keep (hb)) (And.intro (S16.out.2.2.2.2.2.2.1.keep (hb)) (And.intro (S16.out.2.2.2.2.2.2.2.1.keep (hb)) (below_trans (S16.out.2.2.2.2.2.2.2.2.2) (hb)))))))))); obtain ⟨da, db, -, -⟩ := S17.out.2.2.2.2.2.2.2.1.facts; clear hb)
      | (have hst := S15; clear hst; go_at_call 40; refine (small_k (-9223372036854775808) (by unfold Small64; decide) _).mono ?_; rintro e w16 ⟨v, rfl, h, hb⟩; have S16 := Lib.hid (And.intro (S15.out.1.keep (hb)) (And.intro (S15.out.2.1.keep (hb)) (And.intro (S15.out.2.2.1.keep (hb)) (And.intro (S15.out.2.2.2.1.keep (hb)) (And.intro (S15.out.2.2.2.2.1.keep (hb)) (And.intro (S15.out.2.2.2.2.2.1.keep (hb)) (And.intro (S15.out.2.2.2.2.2.2.1.keep (hb)) (And.intro (S15.out.2.2.2.2.2.2.2.1.keep (hb)) (And.intro (h) (below_trans (S15.out.2.2.2.2.2.2.2.2) (hb))))))))))); obtain ⟨da, db, -, -⟩ := S16.out.2.2.2.2.2.2.2.1.facts; clear h hb))
  all_goals
    clear da db
    go_wp2_with fail
    go_ret
    exact ⟨rfl, S17.out.2.2.2.2.2.2.2.2⟩
set_option maxRecDepth 100000 in
set_option maxHeartbeats 2000000 in
theorem zintSmall_high (w : World) (ht : Tab w) {a : Value} {pa : Bool} {xa : List Nat} (ha : Zl w a pa xa) (n : Int) (hn : Small64 n) (la : xa.length ≤ 12) (ho1 : cmpZ (sg pa (val WB xa)) (-9223372036854775808) = 1) (ho2 : cmpZ (sg pa (val WB xa)) 9223372036854775807 = 1) (hs : ¬ Small64 (sg pa (val WB xa))) :
    Calls Tryz.prog 7 #[.int .i64 n, a] w fun e w' => e = .returned (.bool true) ∧ Below w.heap.size w w' := by
  obtain ⟨z, hz⟩ : ∃ z, z = sg pa (val WB xa) := ⟨_, rfl⟩
  have hza := ha.zn la
  rw [← hz] at hza ho1 hs ho2
  have HG := Lib.hid (And.intro la (And.intro hs (And.intro hz ho1)))
  have HO := Lib.hid ho2
  clear ho2
  clear ho1 hs
  have hzl := ha
  have HN := Lib.hid hn
  have hnn : (n != n) = false := by simp
  obtain ⟨Aa, na, ca, rfl, ea, ha⟩ := ha.parts
  have S0 := Lib.hid (And.intro (ht) (And.intro (hzl) (And.intro (hza) (Below.refl w.heap.size w))))
  clear ht hzl ha ea hn hza la hz
  go_enter Tryz.func7, Tryz.ntmps7
  go_upto_region 1 with (fail)
  obtain ⟨h0, hb⟩ := box1 w 24 (.bool pa) (.slice Aa na ca)
  have S1 := Lib.hid (And.intro (S0.out.1.keep (hb)) (And.intro (S0.out.2.1.keep (hb)) (And.intro (S0.out.2.2.1.keep (hb)) (And.intro (h0) (below_trans (S0.out.2.2.2) (hb))))))
  clear hb h0 S0
  generalize w.alloc _ = W0 at S1 ⊢
  go_wp2_with fail
  refine (speaks_z _ S1.out.1).mono ?_; rintro e w2 ⟨rfl, hb⟩
  have S2 := Lib.hid (And.intro (S1.out.1.keep (hb)) (And.intro (S1.out.2.1.keep (hb)) (And.intro (S1.out.2.2.1.keep (hb)) (And.intro (S1.out.2.2.2.1.keep (hb)) (below_trans (S1.out.2.2.2.2) (hb))))))
  clear hb  S1
  go_wp2_with fail
  refine (of_k n HN.out _).mono ?_; rintro e w3 ⟨v1, rfl, h⟩
  obtain ⟨px, Ax, lx, cx, rfl, -⟩ := h.parts
  have S3 := Lib.hid (And.intro (S2.out.1.keep (h.below)) (And.intro (S2.out.2.1.keep (h.below)) (And.intro (S2.out.2.2.1.keep (h.below)) (And.intro (S2.out.2.2.2.1.keep (h.below)) (And.intro (h.zo) (below_trans (S2.out.2.2.2.2) (h.below)))))))
  clear h  S2
  go_upto_region 4 with (fail)
  obtain ⟨h0, hb⟩ := box1 w3 24 (.bool px) (.slice Ax lx cx)
  obtain ⟨gx, hgx⟩ : ∃ g, g = w3.heap.size := ⟨_, rfl⟩
  have S4 := Lib.hid (And.intro (S3.out.1.keep (hb)) (And.intro (S3.out.2.1.keep (hb)) (And.intro (S3.out.2.2.1.keep (hb)) (And.intro (S3.out.2.2.2.1.keep (hb)) (And.intro (S3.out.2.2.2.2.1.keep (hb)) (And.intro (h0) (below_trans (S3.out.2.2.2.2.2) (hb))))))))
  clear hb h0 S3
  generalize (w3.alloc _) = Wx at S4 ⊢
  rw [← hgx] at S4 ⊢
  clear hgx
  obtain ⟨xa, xb, -, -⟩ := S4.out.2.2.2.2.2.1.facts
  go_wp2_with fail
  refine (to_ok (S4.out.2.2.2.2.1.zn (small_abs HN.out)) (by decide) HN.out).mono ?_; rintro e w5 ⟨rfl, hb⟩
  have S5 := Lib.hid (And.intro (S4.out.1.keep (hb)) (And.intro (S4.out.2.1.keep (hb)) (And.intro (S4.out.2.2.1.keep (hb)) (And.intro (S4.out.2.2.2.1.keep (hb)) (And.intro (S4.out.2.2.2.2.1.keep (hb)) (And.intro (S4.out.2.2.2.2.2.1.keep (hb)) (below_trans (S4.out.2.2.2.2.2.2) (hb))))))))
  clear hb xa xb S4
  go_upto_region 5 with (fail)
  have S6 := Lib.hid (And.intro (S5.out.1.keep (below_dr _ 1)) (And.intro (S5.out.2.1.keep (below_dr _ 1)) (And.intro (S5.out.2.2.1.keep (below_dr _ 1)) (And.intro (S5.out.2.2.2.1.keep (below_dr _ 1)) (And.intro (S5.out.2.2.2.2.1.keep (below_dr _ 1)) (And.intro (S5.out.2.2.2.2.2.1.keep (below_dr _ 1)) (below_trans (S5.out.2.2.2.2.2.2) (below_dr _ 1))))))))
  have HS0 : (w5.drewN 1).cell? ⟨gx, 0, none⟩ = some (.bool px) ∧ (w5.drewN 1).cell? ⟨gx, 1, none⟩ = some (.slice Ax lx cx) := ⟨S6.out.2.2.2.2.2.1.facts.1, S6.out.2.2.2.2.2.1.facts.2.1⟩
  have HS1 := HS0
  have HS2 := HS0
  have HS3 := HS0
  go_region_held3 (fun W => W.cell? ⟨gx, 0, none⟩ = some (.bool px) ∧ W.cell? ⟨gx, 1, none⟩ = some (.slice Ax lx cx)) (first | with_reducible exact HS1 | with_reducible exact HS2 | with_reducible exact HS3 | exact HS0)
    (first
      | (have hst := S8; clear hst; go_at_call 18; refine (same_zo S8.out.2.2.2.2.1 S8.out.2.2.2.2.2.2.1 rfl).mono ?_; rintro e w9 ⟨rfl, hb⟩; have S9 := Lib.hid (And.intro (S8.out.1.keep (hb)) (And.intro (S8.out.2.1.keep (hb)) (And.intro (S8.out.2.2.1.keep (hb)) (And.intro (S8.out.2.2.2.1.keep (hb)) (And.intro (S8.out.2.2.2.2.2.1.keep (hb)) (below_trans (S8.out.2.2.2.2.2.2.2) (hb))))))); have HS3 : w9.cell? ⟨gx, 0, none⟩ = some (.bool px) ∧ w9.cell? ⟨gx, 1, none⟩ = some (.slice Ax lx cx) := ⟨S9.out.2.2.2.2.1.facts.1, S9.out.2.2.2.2.1.facts.2.1⟩; clear hb)
      | (have hst := S7; clear hst; go_at_call 20; refine (to_k 1 S7.out.2.2.2.2.2.2.1 (by decide) (small_abs HN.out) (by decide)).mono ?_; rintro e w8 ⟨v, rfl, h, hb⟩; have S8 := Lib.hid (And.intro (S7.out.1.keep (hb)) (And.intro (S7.out.2.1.keep (hb)) (And.intro (S7.out.2.2.1.keep (hb)) (And.intro (S7.out.2.2.2.1.keep (hb)) (And.intro (S7.out.2.2.2.2.1.keep (hb)) (And.intro (S7.out.2.2.2.2.2.1.keep (hb)) (And.intro (h) (below_trans (S7.out.2.2.2.2.2.2.2) (hb))))))))); have HS2 : w8.cell? ⟨gx, 0, none⟩ = some (.bool px) ∧ w8.cell? ⟨gx, 1, none⟩ = some (.slice Ax lx cx) := ⟨S8.out.2.2.2.2.2.1.facts.1, S8.out.2.2.2.2.2.1.facts.2.1⟩; clear h hb)
      | (have hst := S6; clear hst; go_at_call 40; refine (small_k n HN.out _).mono ?_; rintro e w7 ⟨v, rfl, h, hb⟩; have S7 := Lib.hid (And.intro (S6.out.1.keep (hb)) (And.intro (S6.out.2.1.keep (hb)) (And.intro (S6.out.2.2.1.keep (hb)) (And.intro (S6.out.2.2.2.1.keep (hb)) (And.intro (S6.out.2.2.2.2.1.keep (hb)) (And.intro (S6.out.2.2.2.2.2.1.keep (hb)) (And.intro (h) (below_trans (S6.out.2.2.2.2.2.2) (hb))))))))); have HS1 : w7.cell? ⟨gx, 0, none⟩ = some (.bool px) ∧ w7.cell? ⟨gx, 1, none⟩ = some (.slice Ax lx cx) := ⟨S7.out.2.2.2.2.2.1.facts.1, S7.out.2.2.2.2.2.1.facts.2.1⟩; clear h hb))
  clear HS0 HS1 HS2 HS3
  obtain ⟨aa, ab, -, -⟩ := S9.out.2.2.2.1.facts
  go_wp2_with fail
  refine (big_no S9.out.2.1 S9.out.2.1 HG.out.1 HG.out.1).mono ?_; rintro e w10 ⟨rfl, hb⟩
  have S10 := Lib.hid (And.intro (S9.out.1.keep (hb)) (And.intro (S9.out.2.1.keep (hb)) (And.intro (S9.out.2.2.1.keep (hb)) (And.intro (S9.out.2.2.2.1.keep (hb)) (And.intro (S9.out.2.2.2.2.1.keep (hb)) (below_trans (S9.out.2.2.2.2.2) (hb)))))))
  clear hb aa ab S9
  obtain ⟨aa, ab, -, -⟩ := S10.out.2.2.2.1.facts
  go_wp2_with fail
  refine (copy_z S10.out.2.1 (by have := HG.out.1; omega)).mono ?_; rintro e w11 ⟨v2, rfl, h, hb⟩
  have S11 := Lib.hid (And.intro (S10.out.1.keep (hb)) (And.intro (S10.out.2.1.keep (hb)) (And.intro (S10.out.2.2.1.keep (hb)) (And.intro (S10.out.2.2.2.1.keep (hb)) (And.intro (S10.out.2.2.2.2.1.keep (hb)) (And.intro (h.zn HG.out.1) (below_trans (S10.out.2.2.2.2.2) (hb))))))))
  clear h hb aa ab S10
  go_wp2_with fail
  refine (to_no S11.out.2.2.2.2.2.1 (by decide) (by rw [← HG.out.2.2.1]; exact HG.out.2.1)).mono ?_; rintro e w12 ⟨rfl, hb⟩
  have S12 := Lib.hid (And.intro (S11.out.1.keep (hb)) (And.intro (S11.out.2.1.keep (hb)) (And.intro (S11.out.2.2.1.keep (hb)) (And.intro (S11.out.2.2.2.1.keep (hb)) (And.intro (S11.out.2.2.2.2.1.keep (hb)) (And.intro (S11.out.2.2.2.2.2.1.keep (hb)) (below_trans (S11.out.2.2.2.2.2.2) (hb))))))))
  clear hb  S11
  obtain ⟨aa, ab, -, -⟩ := S12.out.2.2.2.1.facts
  go_wp2_with fail
  refine (I.of_d S12.out.2.2.1 (by decide)).mono ?_; rintro e w13 ⟨v3, rfl, h, hb⟩
  obtain ⟨pd, Ad, ld, cd, rfl⟩ := Zd.pat h
  have S13 := Lib.hid (And.intro (S12.out.1.keep (hb)) (And.intro (S12.out.2.1.keep (hb)) (And.intro (S12.out.2.2.1.keep (hb)) (And.intro (S12.out.2.2.2.1.keep (hb)) (And.intro (S12.out.2.2.2.2.1.keep (hb)) (And.intro (S12.out.2.2.2.2.2.1.keep (hb)) (And.intro (h) (below_trans (S12.out.2.2.2.2.2.2) (hb)))))))))
  clear h hb aa ab S12
  go_upto_region 11 with (fail)
  obtain ⟨h0, hb⟩ := box1 w13 33 (.bool pd) (.slice Ad ld cd)
  obtain ⟨gd, hgd⟩ : ∃ g, g = w13.heap.size := ⟨_, rfl⟩
  have S14 := Lib.hid (And.intro (S13.out.1.keep (hb)) (And.intro (S13.out.2.1.keep (hb)) (And.intro (S13.out.2.2.1.keep (hb)) (And.intro (S13.out.2.2.2.1.keep (hb)) (And.intro (S13.out.2.2.2.2.1.keep (hb)) (And.intro (S13.out.2.2.2.2.2.1.keep (hb)) (And.intro (S13.out.2.2.2.2.2.2.1.keep (hb)) (And.intro (h0) (below_trans (S13.out.2.2.2.2.2.2.2) (hb))))))))))
  clear hb h0 S13
  generalize w13.alloc _ = Wd at S14 ⊢
  rw [← hgd] at S14 ⊢
  clear hgd
  go_upto_region 11 with (fail)
  have S15 := Lib.hid (And.intro (S14.out.1.keep (below_dr _ 1)) (And.intro (S14.out.2.1.keep (below_dr _ 1)) (And.intro (S14.out.2.2.1.keep (below_dr _ 1)) (And.intro (S14.out.2.2.2.1.keep (below_dr _ 1)) (And.intro (S14.out.2.2.2.2.1.keep (below_dr _ 1)) (And.intro (S14.out.2.2.2.2.2.1.keep (below_dr _ 1)) (And.intro (S14.out.2.2.2.2.2.2.1.keep (below_dr _ 1)) (And.intro (S14.out.2.2.2.2.2.2.2.1.keep (below_dr _ 1)) (below_trans (S14.out.2.2.2.2.2.2.2.2) (below_dr _ 1))))))))))
  have HS0 : (Wd.drewN 1).cell? ⟨gd, 0, none⟩ = some (.bool pd) ∧ (Wd.drewN 1).cell? ⟨gd, 1, none⟩ = some (.slice Ad ld cd) := ⟨S15.out.2.2.2.2.2.2.2.1.facts.1, S15.out.2.2.2.2.2.2.2.1.facts.2.1⟩
  have HS1 := HS0
  have HS2 := HS0
  have HS3 := HS0
  have HS4 := HS0
  go_region_held3 (fun W => W.cell? ⟨gd, 0, none⟩ = some (.bool pd) ∧ W.cell? ⟨gd, 1, none⟩ = some (.slice Ad ld cd)) (first | with_reducible exact HS1 | with_reducible exact HS2 | with_reducible exact HS3 | with_reducible exact HS4 | exact HS0)
    (first
      | (have hst := S18; clear hst; go_at_call 31; refine (cmp_dk HO.out S18.out.2.2.2.2.2.2.1 S18.out.2.2.2.2.2.2.2.2.1 (by decide) (by decide)).mono ?_; rintro e w19 ⟨rfl, hb⟩; have S19 := Lib.hid (And.intro (S18.out.1.keep (hb)) (And.intro (S18.out.2.1.keep (hb)) (And.intro (S18.out.2.2.1.keep (hb)) (And.intro (S18.out.2.2.2.1.keep (hb)) (And.intro (S18.out.2.2.2.2.1.keep (hb)) (And.intro (S18.out.2.2.2.2.2.1.keep (hb)) (And.intro (S18.out.2.2.2.2.2.2.1.keep (hb)) (And.intro (S18.out.2.2.2.2.2.2.2.1.keep (hb)) (below_trans (S18.out.2.2.2.2.2.2.2.2.2) (hb)))))))))); have HS4 : w19.cell? ⟨gd, 0, none⟩ = some (.bool pd) ∧ w19.cell? ⟨gd, 1, none⟩ = some (.slice Ad ld cd) := ⟨S19.out.2.2.2.2.2.2.2.1.facts.1, S19.out.2.2.2.2.2.2.2.1.facts.2.1⟩; clear hb)
      | (have hst := S17; clear hst; go_at_call 40; refine (small_k 9223372036854775807 (by unfold Small64; decide) _).mono ?_; rintro e w18 ⟨v, rfl, h, hb⟩; have S18 := Lib.hid (And.intro (S17.out.1.keep (hb)) (And.intro (S17.out.2.1.keep (hb)) (And.intro (S17.out.2.2.1.keep (hb)) (And.intro (S17.out.2.2.2.1.keep (hb)) (And.intro (S17.out.2.2.2.2.1.keep (hb)) (And.intro (S17.out.2.2.2.2.2.1.keep (hb)) (And.intro (S17.out.2.2.2.2.2.2.1.keep (hb)) (And.intro (S17.out.2.2.2.2.2.2.2.1.keep (hb)) (And.intro (h) (below_trans (S17.out.2.2.2.2.2.2.2.2) (hb))))))))))); have HS3 : w18.cell? ⟨gd, 0, none⟩ = some (.bool pd) ∧ w18.cell? ⟨gd, 1, none⟩ = some (.slice Ad ld cd) := ⟨S18.out.2.2.2.2.2.2.2.1.facts.1, S18.out.2.2.2.2.2.2.2.1.facts.2.1⟩; clear h hb)
      | (have hst := S16; clear hst; go_at_call 31; refine (cmp_dk HG.out.2.2.2 S16.out.2.2.2.2.2.2.1 S16.out.2.2.2.2.2.2.2.2.1 (by decide) (by decide)).mono ?_; rintro e w17 ⟨rfl, hb⟩; have S17 := Lib.hid (And.intro (S16.out.1.keep (hb)) (And.intro (S16.out.2.1.keep (hb)) (And.intro (S16.out.2.2.1.keep (hb)) (And.intro (S16.out.2.2.2.1.keep (hb)) (And.intro (S16.out.2.2.2.2.1.keep (hb)) (And.intro (S16.out.2.2.2.2.2.1.keep (hb)) (And.intro (S16.out.2.2.2.2.2.2.1.keep (hb)) (And.intro (S16.out.2.2.2.2.2.2.2.1.keep (hb)) (below_trans (S16.out.2.2.2.2.2.2.2.2.2) (hb)))))))))); have HS2 : w17.cell? ⟨gd, 0, none⟩ = some (.bool pd) ∧ w17.cell? ⟨gd, 1, none⟩ = some (.slice Ad ld cd) := ⟨S17.out.2.2.2.2.2.2.2.1.facts.1, S17.out.2.2.2.2.2.2.2.1.facts.2.1⟩; clear hb)
      | (have hst := S15; clear hst; go_at_call 40; refine (small_k (-9223372036854775808) (by unfold Small64; decide) _).mono ?_; rintro e w16 ⟨v, rfl, h, hb⟩; have S16 := Lib.hid (And.intro (S15.out.1.keep (hb)) (And.intro (S15.out.2.1.keep (hb)) (And.intro (S15.out.2.2.1.keep (hb)) (And.intro (S15.out.2.2.2.1.keep (hb)) (And.intro (S15.out.2.2.2.2.1.keep (hb)) (And.intro (S15.out.2.2.2.2.2.1.keep (hb)) (And.intro (S15.out.2.2.2.2.2.2.1.keep (hb)) (And.intro (S15.out.2.2.2.2.2.2.2.1.keep (hb)) (And.intro (h) (below_trans (S15.out.2.2.2.2.2.2.2.2) (hb))))))))))); have HS1 : w16.cell? ⟨gd, 0, none⟩ = some (.bool pd) ∧ w16.cell? ⟨gd, 1, none⟩ = some (.slice Ad ld cd) := ⟨S16.out.2.2.2.2.2.2.2.1.facts.1, S16.out.2.2.2.2.2.2.2.1.facts.2.1⟩; clear h hb))
  clear HS0 HS1 HS2 HS3 HS4
  go_wp2_with fail
  go_ret
  exact ⟨rfl, S19.out.2.2.2.2.2.2.2.2⟩
set_option maxRecDepth 100000 in
set_option maxHeartbeats 2000000 in
theorem zintSmall_in1 (w : World) (ht : Tab w) {a : Value} {pa : Bool} {xa : List Nat} (ha : Zl w a pa xa) (n : Int) (hn : Small64 n) (la : xa.length ≤ 12) (ho1 : cmpZ (sg pa (val WB xa)) (-9223372036854775808) = 0) (ho2 : cmpZ (sg pa (val WB xa)) 9223372036854775807 = -1) (hs : Small64 (sg pa (val WB xa))) :
    Calls Tryz.prog 7 #[.int .i64 n, a] w fun e w' => e = .returned (.bool true) ∧ Below w.heap.size w w' := by
  obtain ⟨z, hz⟩ : ∃ z, z = sg pa (val WB xa) := ⟨_, rfl⟩
  have hza := ha.zn la
  rw [← hz] at hza ho1 hs ho2
  have HG := Lib.hid (And.intro la (And.intro hs (And.intro hz ho1)))
  have HO := Lib.hid ho2
  clear ho2
  clear ho1 hs
  have hzl := ha
  have HN := Lib.hid hn
  have hnn : (n != n) = false := by simp
  obtain ⟨Aa, na, ca, rfl, ea, ha⟩ := ha.parts
  have S0 := Lib.hid (And.intro (ht) (And.intro (hzl) (And.intro (hza) (Below.refl w.heap.size w))))
  clear ht hzl ha ea hn hza la hz
  go_enter Tryz.func7, Tryz.ntmps7
  go_upto_region 1 with (fail)
  obtain ⟨h0, hb⟩ := box1 w 24 (.bool pa) (.slice Aa na ca)
  have S1 := Lib.hid (And.intro (S0.out.1.keep (hb)) (And.intro (S0.out.2.1.keep (hb)) (And.intro (S0.out.2.2.1.keep (hb)) (And.intro (h0) (below_trans (S0.out.2.2.2) (hb))))))
  clear hb h0 S0
  generalize w.alloc _ = W0 at S1 ⊢
  go_wp2_with fail
  refine (speaks_z _ S1.out.1).mono ?_; rintro e w2 ⟨rfl, hb⟩
  have S2 := Lib.hid (And.intro (S1.out.1.keep (hb)) (And.intro (S1.out.2.1.keep (hb)) (And.intro (S1.out.2.2.1.keep (hb)) (And.intro (S1.out.2.2.2.1.keep (hb)) (below_trans (S1.out.2.2.2.2) (hb))))))
  clear hb  S1
  go_wp2_with fail
  refine (of_k n HN.out _).mono ?_; rintro e w3 ⟨v1, rfl, h⟩
  obtain ⟨px, Ax, lx, cx, rfl, -⟩ := h.parts
  have S3 := Lib.hid (And.intro (S2.out.1.keep (h.below)) (And.intro (S2.out.2.1.keep (h.below)) (And.intro (S2.out.2.2.1.keep (h.below)) (And.intro (S2.out.2.2.2.1.keep (h.below)) (And.intro (h.zo) (below_trans (S2.out.2.2.2.2) (h.below)))))))
  clear h  S2
  go_upto_region 4 with (fail)
  obtain ⟨h0, hb⟩ := box1 w3 24 (.bool px) (.slice Ax lx cx)
  obtain ⟨gx, hgx⟩ : ∃ g, g = w3.heap.size := ⟨_, rfl⟩
  have S4 := Lib.hid (And.intro (S3.out.1.keep (hb)) (And.intro (S3.out.2.1.keep (hb)) (And.intro (S3.out.2.2.1.keep (hb)) (And.intro (S3.out.2.2.2.1.keep (hb)) (And.intro (S3.out.2.2.2.2.1.keep (hb)) (And.intro (h0) (below_trans (S3.out.2.2.2.2.2) (hb))))))))
  clear hb h0 S3
  generalize (w3.alloc _) = Wx at S4 ⊢
  rw [← hgx] at S4 ⊢
  clear hgx
  obtain ⟨xa, xb, -, -⟩ := S4.out.2.2.2.2.2.1.facts
  go_wp2_with fail
  refine (to_ok (S4.out.2.2.2.2.1.zn (small_abs HN.out)) (by decide) HN.out).mono ?_; rintro e w5 ⟨rfl, hb⟩
  have S5 := Lib.hid (And.intro (S4.out.1.keep (hb)) (And.intro (S4.out.2.1.keep (hb)) (And.intro (S4.out.2.2.1.keep (hb)) (And.intro (S4.out.2.2.2.1.keep (hb)) (And.intro (S4.out.2.2.2.2.1.keep (hb)) (And.intro (S4.out.2.2.2.2.2.1.keep (hb)) (below_trans (S4.out.2.2.2.2.2.2) (hb))))))))
  clear hb xa xb S4
  go_upto_region 5 with (fail)
  have S6 := Lib.hid (And.intro (S5.out.1.keep (below_dr _ 1)) (And.intro (S5.out.2.1.keep (below_dr _ 1)) (And.intro (S5.out.2.2.1.keep (below_dr _ 1)) (And.intro (S5.out.2.2.2.1.keep (below_dr _ 1)) (And.intro (S5.out.2.2.2.2.1.keep (below_dr _ 1)) (And.intro (S5.out.2.2.2.2.2.1.keep (below_dr _ 1)) (below_trans (S5.out.2.2.2.2.2.2) (below_dr _ 1))))))))
  have HS0 : (w5.drewN 1).cell? ⟨gx, 0, none⟩ = some (.bool px) ∧ (w5.drewN 1).cell? ⟨gx, 1, none⟩ = some (.slice Ax lx cx) := ⟨S6.out.2.2.2.2.2.1.facts.1, S6.out.2.2.2.2.2.1.facts.2.1⟩
  have HS1 := HS0
  have HS2 := HS0
  have HS3 := HS0
  go_region_held3 (fun W => W.cell? ⟨gx, 0, none⟩ = some (.bool px) ∧ W.cell? ⟨gx, 1, none⟩ = some (.slice Ax lx cx)) (first | with_reducible exact HS1 | with_reducible exact HS2 | with_reducible exact HS3 | exact HS0)
    (first
      | (have hst := S8; clear hst; go_at_call 18; refine (same_zo S8.out.2.2.2.2.1 S8.out.2.2.2.2.2.2.1 rfl).mono ?_; rintro e w9 ⟨rfl, hb⟩; have S9 := Lib.hid (And.intro (S8.out.1.keep (hb)) (And.intro (S8.out.2.1.keep (hb)) (And.intro (S8.out.2.2.1.keep (hb)) (And.intro (S8.out.2.2.2.1.keep (hb)) (And.intro (S8.out.2.2.2.2.2.1.keep (hb)) (below_trans (S8.out.2.2.2.2.2.2.2) (hb))))))); have HS3 : w9.cell? ⟨gx, 0, none⟩ = some (.bool px) ∧ w9.cell? ⟨gx, 1, none⟩ = some (.slice Ax lx cx) := ⟨S9.out.2.2.2.2.1.facts.1, S9.out.2.2.2.2.1.facts.2.1⟩; clear hb)
      | (have hst := S7; clear hst; go_at_call 20; refine (to_k 1 S7.out.2.2.2.2.2.2.1 (by decide) (small_abs HN.out) (by decide)).mono ?_; rintro e w8 ⟨v, rfl, h, hb⟩; have S8 := Lib.hid (And.intro (S7.out.1.keep (hb)) (And.intro (S7.out.2.1.keep (hb)) (And.intro (S7.out.2.2.1.keep (hb)) (And.intro (S7.out.2.2.2.1.keep (hb)) (And.intro (S7.out.2.2.2.2.1.keep (hb)) (And.intro (S7.out.2.2.2.2.2.1.keep (hb)) (And.intro (h) (below_trans (S7.out.2.2.2.2.2.2.2) (hb))))))))); have HS2 : w8.cell? ⟨gx, 0, none⟩ = some (.bool px) ∧ w8.cell? ⟨gx, 1, none⟩ = some (.slice Ax lx cx) := ⟨S8.out.2.2.2.2.2.1.facts.1, S8.out.2.2.2.2.2.1.facts.2.1⟩; clear h hb)
      | (have hst := S6; clear hst; go_at_call 40; refine (small_k n HN.out _).mono ?_; rintro e w7 ⟨v, rfl, h, hb⟩; have S7 := Lib.hid (And.intro (S6.out.1.keep (hb)) (And.intro (S6.out.2.1.keep (hb)) (And.intro (S6.out.2.2.1.keep (hb)) (And.intro (S6.out.2.2.2.1.keep (hb)) (And.intro (S6.out.2.2.2.2.1.keep (hb)) (And.intro (S6.out.2.2.2.2.2.1.keep (hb)) (And.intro (h) (below_trans (S6.out.2.2.2.2.2.2) (hb))))))))); have HS1 : w7.cell? ⟨gx, 0, none⟩ = some (.bool px) ∧ w7.cell? ⟨gx, 1, none⟩ = some (.slice Ax lx cx) := ⟨S7.out.2.2.2.2.2.1.facts.1, S7.out.2.2.2.2.2.1.facts.2.1⟩; clear h hb))
  clear HS0 HS1 HS2 HS3
  obtain ⟨aa, ab, -, -⟩ := S9.out.2.2.2.1.facts
  go_wp2_with fail
  refine (big_no S9.out.2.1 S9.out.2.1 HG.out.1 HG.out.1).mono ?_; rintro e w10 ⟨rfl, hb⟩
  have S10 := Lib.hid (And.intro (S9.out.1.keep (hb)) (And.intro (S9.out.2.1.keep (hb)) (And.intro (S9.out.2.2.1.keep (hb)) (And.intro (S9.out.2.2.2.1.keep (hb)) (And.intro (S9.out.2.2.2.2.1.keep (hb)) (below_trans (S9.out.2.2.2.2.2) (hb)))))))
  clear hb aa ab S9
  obtain ⟨aa, ab, -, -⟩ := S10.out.2.2.2.1.facts
  go_wp2_with fail
  refine (copy_z S10.out.2.1 (by have := HG.out.1; omega)).mono ?_; rintro e w11 ⟨v2, rfl, h, hb⟩
  have S11 := Lib.hid (And.intro (S10.out.1.keep (hb)) (And.intro (S10.out.2.1.keep (hb)) (And.intro (S10.out.2.2.1.keep (hb)) (And.intro (S10.out.2.2.2.1.keep (hb)) (And.intro (S10.out.2.2.2.2.1.keep (hb)) (And.intro (h.zn HG.out.1) (below_trans (S10.out.2.2.2.2.2) (hb))))))))
  clear h hb aa ab S10
  go_wp2_with fail
  refine (to_ok S11.out.2.2.2.2.2.1 (by decide) (by rw [← HG.out.2.2.1]; exact HG.out.2.1)).mono ?_; rintro e w12 ⟨rfl, hb⟩
  rw [← HG.out.2.2.1]
  have S12 := Lib.hid (And.intro (S11.out.1.keep (hb)) (And.intro (S11.out.2.1.keep (hb)) (And.intro (S11.out.2.2.1.keep (hb)) (And.intro (S11.out.2.2.2.1.keep (hb)) (And.intro (S11.out.2.2.2.2.1.keep (hb)) (And.intro (S11.out.2.2.2.2.2.1.keep (hb)) (below_trans (S11.out.2.2.2.2.2.2) (hb))))))))
  clear hb  S11
  obtain ⟨aa, ab, -, -⟩ := S12.out.2.2.2.1.facts
  go_wp2_with fail
  refine (I.of_d S12.out.2.2.1 (by decide)).mono ?_; rintro e w13 ⟨v3, rfl, h, hb⟩
  obtain ⟨pd, Ad, ld, cd, rfl⟩ := Zd.pat h
  have S13 := Lib.hid (And.intro (S12.out.1.keep (hb)) (And.intro (S12.out.2.1.keep (hb)) (And.intro (S12.out.2.2.1.keep (hb)) (And.intro (S12.out.2.2.2.1.keep (hb)) (And.intro (S12.out.2.2.2.2.1.keep (hb)) (And.intro (S12.out.2.2.2.2.2.1.keep (hb)) (And.intro (h) (below_trans (S12.out.2.2.2.2.2.2) (hb)))))))))
  clear h hb aa ab S12
  go_upto_region 11 with (fail)
  obtain ⟨h0, hb⟩ := box1 w13 33 (.bool pd) (.slice Ad ld cd)
  obtain ⟨gd, hgd⟩ : ∃ g, g = w13.heap.size := ⟨_, rfl⟩
  have S14 := Lib.hid (And.intro (S13.out.1.keep (hb)) (And.intro (S13.out.2.1.keep (hb)) (And.intro (S13.out.2.2.1.keep (hb)) (And.intro (S13.out.2.2.2.1.keep (hb)) (And.intro (S13.out.2.2.2.2.1.keep (hb)) (And.intro (S13.out.2.2.2.2.2.1.keep (hb)) (And.intro (S13.out.2.2.2.2.2.2.1.keep (hb)) (And.intro (h0) (below_trans (S13.out.2.2.2.2.2.2.2) (hb))))))))))
  clear hb h0 S13
  generalize w13.alloc _ = Wd at S14 ⊢
  rw [← hgd] at S14 ⊢
  clear hgd
  go_upto_region 11 with (fail)
  have S15 := Lib.hid (And.intro (S14.out.1.keep (below_dr _ 1)) (And.intro (S14.out.2.1.keep (below_dr _ 1)) (And.intro (S14.out.2.2.1.keep (below_dr _ 1)) (And.intro (S14.out.2.2.2.1.keep (below_dr _ 1)) (And.intro (S14.out.2.2.2.2.1.keep (below_dr _ 1)) (And.intro (S14.out.2.2.2.2.2.1.keep (below_dr _ 1)) (And.intro (S14.out.2.2.2.2.2.2.1.keep (below_dr _ 1)) (And.intro (S14.out.2.2.2.2.2.2.2.1.keep (below_dr _ 1)) (below_trans (S14.out.2.2.2.2.2.2.2.2) (below_dr _ 1))))))))))
  have HS0 : (Wd.drewN 1).cell? ⟨gd, 0, none⟩ = some (.bool pd) ∧ (Wd.drewN 1).cell? ⟨gd, 1, none⟩ = some (.slice Ad ld cd) := ⟨S15.out.2.2.2.2.2.2.2.1.facts.1, S15.out.2.2.2.2.2.2.2.1.facts.2.1⟩
  have HS1 := HS0
  have HS2 := HS0
  have HS3 := HS0
  have HS4 := HS0
  go_region_held3 (fun W => W.cell? ⟨gd, 0, none⟩ = some (.bool pd) ∧ W.cell? ⟨gd, 1, none⟩ = some (.slice Ad ld cd)) (first | with_reducible exact HS1 | with_reducible exact HS2 | with_reducible exact HS3 | with_reducible exact HS4 | exact HS0)
    (first
      | (have hst := S18; clear hst; go_at_call 31; refine (cmp_dk HO.out S18.out.2.2.2.2.2.2.1 S18.out.2.2.2.2.2.2.2.2.1 (by decide) (by decide)).mono ?_; rintro e w19 ⟨rfl, hb⟩; have S19 := Lib.hid (And.intro (S18.out.1.keep (hb)) (And.intro (S18.out.2.1.keep (hb)) (And.intro (S18.out.2.2.1.keep (hb)) (And.intro (S18.out.2.2.2.1.keep (hb)) (And.intro (S18.out.2.2.2.2.1.keep (hb)) (And.intro (S18.out.2.2.2.2.2.1.keep (hb)) (And.intro (S18.out.2.2.2.2.2.2.1.keep (hb)) (And.intro (S18.out.2.2.2.2.2.2.2.1.keep (hb)) (below_trans (S18.out.2.2.2.2.2.2.2.2.2) (hb)))))))))); have HS4 : w19.cell? ⟨gd, 0, none⟩ = some (.bool pd) ∧ w19.cell? ⟨gd, 1, none⟩ = some (.slice Ad ld cd) := ⟨S19.out.2.2.2.2.2.2.2.1.facts.1, S19.out.2.2.2.2.2.2.2.1.facts.2.1⟩; clear hb)
      | (have hst := S17; clear hst; go_at_call 40; refine (small_k 9223372036854775807 (by unfold Small64; decide) _).mono ?_; rintro e w18 ⟨v, rfl, h, hb⟩; have S18 := Lib.hid (And.intro (S17.out.1.keep (hb)) (And.intro (S17.out.2.1.keep (hb)) (And.intro (S17.out.2.2.1.keep (hb)) (And.intro (S17.out.2.2.2.1.keep (hb)) (And.intro (S17.out.2.2.2.2.1.keep (hb)) (And.intro (S17.out.2.2.2.2.2.1.keep (hb)) (And.intro (S17.out.2.2.2.2.2.2.1.keep (hb)) (And.intro (S17.out.2.2.2.2.2.2.2.1.keep (hb)) (And.intro (h) (below_trans (S17.out.2.2.2.2.2.2.2.2) (hb))))))))))); have HS3 : w18.cell? ⟨gd, 0, none⟩ = some (.bool pd) ∧ w18.cell? ⟨gd, 1, none⟩ = some (.slice Ad ld cd) := ⟨S18.out.2.2.2.2.2.2.2.1.facts.1, S18.out.2.2.2.2.2.2.2.1.facts.2.1⟩; clear h hb)
      | (have hst := S16; clear hst; go_at_call 31; refine (cmp_dk HG.out.2.2.2 S16.out.2.2.2.2.2.2.1 S16.out.2.2.2.2.2.2.2.2.1 (by decide) (by decide)).mono ?_; rintro e w17 ⟨rfl, hb⟩; have S17 := Lib.hid (And.intro (S16.out.1.keep (hb)) (And.intro (S16.out.2.1.keep (hb)) (And.intro (S16.out.2.2.1.keep (hb)) (And.intro (S16.out.2.2.2.1.keep (hb)) (And.intro (S16.out.2.2.2.2.1.keep (hb)) (And.intro (S16.out.2.2.2.2.2.1.keep (hb)) (And.intro (S16.out.2.2.2.2.2.2.1.keep (hb)) (And.intro (S16.out.2.2.2.2.2.2.2.1.keep (hb)) (below_trans (S16.out.2.2.2.2.2.2.2.2.2) (hb)))))))))); have HS2 : w17.cell? ⟨gd, 0, none⟩ = some (.bool pd) ∧ w17.cell? ⟨gd, 1, none⟩ = some (.slice Ad ld cd) := ⟨S17.out.2.2.2.2.2.2.2.1.facts.1, S17.out.2.2.2.2.2.2.2.1.facts.2.1⟩; clear hb)
      | (have hst := S15; clear hst; go_at_call 40; refine (small_k (-9223372036854775808) (by unfold Small64; decide) _).mono ?_; rintro e w16 ⟨v, rfl, h, hb⟩; have S16 := Lib.hid (And.intro (S15.out.1.keep (hb)) (And.intro (S15.out.2.1.keep (hb)) (And.intro (S15.out.2.2.1.keep (hb)) (And.intro (S15.out.2.2.2.1.keep (hb)) (And.intro (S15.out.2.2.2.2.1.keep (hb)) (And.intro (S15.out.2.2.2.2.2.1.keep (hb)) (And.intro (S15.out.2.2.2.2.2.2.1.keep (hb)) (And.intro (S15.out.2.2.2.2.2.2.2.1.keep (hb)) (And.intro (h) (below_trans (S15.out.2.2.2.2.2.2.2.2) (hb))))))))))); have HS1 : w16.cell? ⟨gd, 0, none⟩ = some (.bool pd) ∧ w16.cell? ⟨gd, 1, none⟩ = some (.slice Ad ld cd) := ⟨S16.out.2.2.2.2.2.2.2.1.facts.1, S16.out.2.2.2.2.2.2.2.1.facts.2.1⟩; clear h hb))
  clear HS0 HS1 HS2 HS3 HS4
  go_upto_region 13 with (fail)
  have S20 := Lib.hid (And.intro (S19.out.1.keep (below_dr _ 1)) (And.intro (S19.out.2.1.keep (below_dr _ 1)) (And.intro (S19.out.2.2.1.keep (below_dr _ 1)) (And.intro (S19.out.2.2.2.1.keep (below_dr _ 1)) (And.intro (S19.out.2.2.2.2.1.keep (below_dr _ 1)) (And.intro (S19.out.2.2.2.2.2.1.keep (below_dr _ 1)) (And.intro (S19.out.2.2.2.2.2.2.1.keep (below_dr _ 1)) (And.intro (S19.out.2.2.2.2.2.2.2.1.keep (below_dr _ 1)) (below_trans (S19.out.2.2.2.2.2.2.2.2) (below_dr _ 1))))))))))
  have HS0 : (w19.drewN 1).cell? ⟨gd, 0, none⟩ = some (.bool pd) ∧ (w19.drewN 1).cell? ⟨gd, 1, none⟩ = some (.slice Ad ld cd) := ⟨S20.out.2.2.2.2.2.2.2.1.facts.1, S20.out.2.2.2.2.2.2.2.1.facts.2.1⟩
  have HS1 := HS0
  have HS2 := HS0
  go_region_held3 (fun W => W.cell? ⟨gd, 0, none⟩ = some (.bool pd) ∧ W.cell? ⟨gd, 1, none⟩ = some (.slice Ad ld cd)) (first | with_reducible exact HS1 | with_reducible exact HS2 | exact HS0)
    (first
      | (have hst := S21; clear hst; go_at_call 31; refine (cmp_dk (cmpZ_self z) S21.out.2.2.2.2.2.2.2.2.1 S21.out.2.2.2.2.2.2.1 (by decide) (by decide)).mono ?_; rintro e w22 ⟨rfl, hb⟩; have S22 := Lib.hid (And.intro (S21.out.1.keep (hb)) (And.intro (S21.out.2.1.keep (hb)) (And.intro (S21.out.2.2.1.keep (hb)) (And.intro (S21.out.2.2.2.1.keep (hb)) (And.intro (S21.out.2.2.2.2.1.keep (hb)) (And.intro (S21.out.2.2.2.2.2.1.keep (hb)) (And.intro (S21.out.2.2.2.2.2.2.1.keep (hb)) (And.intro (S21.out.2.2.2.2.2.2.2.1.keep (hb)) (below_trans (S21.out.2.2.2.2.2.2.2.2.2) (hb)))))))))); have HS2 : w22.cell? ⟨gd, 0, none⟩ = some (.bool pd) ∧ w22.cell? ⟨gd, 1, none⟩ = some (.slice Ad ld cd) := ⟨S22.out.2.2.2.2.2.2.2.1.facts.1, S22.out.2.2.2.2.2.2.2.1.facts.2.1⟩; clear hb)
      | (have hst := S20; clear hst; go_at_call 40; refine (small_k z HG.out.2.1 _).mono ?_; rintro e w21 ⟨v, rfl, h, hb⟩; have S21 := Lib.hid (And.intro (S20.out.1.keep (hb)) (And.intro (S20.out.2.1.keep (hb)) (And.intro (S20.out.2.2.1.keep (hb)) (And.intro (S20.out.2.2.2.1.keep (hb)) (And.intro (S20.out.2.2.2.2.1.keep (hb)) (And.intro (S20.out.2.2.2.2.2.1.keep (hb)) (And.intro (S20.out.2.2.2.2.2.2.1.keep (hb)) (And.intro (S20.out.2.2.2.2.2.2.2.1.keep (hb)) (And.intro (h) (below_trans (S20.out.2.2.2.2.2.2.2.2) (hb))))))))))); have HS1 : w21.cell? ⟨gd, 0, none⟩ = some (.bool pd) ∧ w21.cell? ⟨gd, 1, none⟩ = some (.slice Ad ld cd) := ⟨S21.out.2.2.2.2.2.2.2.1.facts.1, S21.out.2.2.2.2.2.2.2.1.facts.2.1⟩; clear h hb))
  clear HS0 HS1 HS2
  go_wp2_with fail
  go_ret
  exact ⟨rfl, S22.out.2.2.2.2.2.2.2.2⟩
set_option maxRecDepth 100000 in
set_option maxHeartbeats 2000000 in
theorem zintSmall_in2 (w : World) (ht : Tab w) {a : Value} {pa : Bool} {xa : List Nat} (ha : Zl w a pa xa) (n : Int) (hn : Small64 n) (la : xa.length ≤ 12) (ho1 : cmpZ (sg pa (val WB xa)) (-9223372036854775808) = 1) (ho2 : cmpZ (sg pa (val WB xa)) 9223372036854775807 = -1) (hs : Small64 (sg pa (val WB xa))) :
    Calls Tryz.prog 7 #[.int .i64 n, a] w fun e w' => e = .returned (.bool true) ∧ Below w.heap.size w w' := by
  obtain ⟨z, hz⟩ : ∃ z, z = sg pa (val WB xa) := ⟨_, rfl⟩
  have hza := ha.zn la
  rw [← hz] at hza ho1 hs ho2
  have HG := Lib.hid (And.intro la (And.intro hs (And.intro hz ho1)))
  have HO := Lib.hid ho2
  clear ho2
  clear ho1 hs
  have hzl := ha
  have HN := Lib.hid hn
  have hnn : (n != n) = false := by simp
  obtain ⟨Aa, na, ca, rfl, ea, ha⟩ := ha.parts
  have S0 := Lib.hid (And.intro (ht) (And.intro (hzl) (And.intro (hza) (Below.refl w.heap.size w))))
  clear ht hzl ha ea hn hza la hz
  go_enter Tryz.func7, Tryz.ntmps7
  go_upto_region 1 with (fail)
  obtain ⟨h0, hb⟩ := box1 w 24 (.bool pa) (.slice Aa na ca)
  have S1 := Lib.hid (And.intro (S0.out.1.keep (hb)) (And.intro (S0.out.2.1.keep (hb)) (And.intro (S0.out.2.2.1.keep (hb)) (And.intro (h0) (below_trans (S0.out.2.2.2) (hb))))))
  clear hb h0 S0
  generalize w.alloc _ = W0 at S1 ⊢
  go_wp2_with fail
  refine (speaks_z _ S1.out.1).mono ?_; rintro e w2 ⟨rfl, hb⟩
  have S2 := Lib.hid (And.intro (S1.out.1.keep (hb)) (And.intro (S1.out.2.1.keep (hb)) (And.intro (S1.out.2.2.1.keep (hb)) (And.intro (S1.out.2.2.2.1.keep (hb)) (below_trans (S1.out.2.2.2.2) (hb))))))
  clear hb  S1
  go_wp2_with fail
  refine (of_k n HN.out _).mono ?_; rintro e w3 ⟨v1, rfl, h⟩
  obtain ⟨px, Ax, lx, cx, rfl, -⟩ := h.parts
  have S3 := Lib.hid (And.intro (S2.out.1.keep (h.below)) (And.intro (S2.out.2.1.keep (h.below)) (And.intro (S2.out.2.2.1.keep (h.below)) (And.intro (S2.out.2.2.2.1.keep (h.below)) (And.intro (h.zo) (below_trans (S2.out.2.2.2.2) (h.below)))))))
  clear h  S2
  go_upto_region 4 with (fail)
  obtain ⟨h0, hb⟩ := box1 w3 24 (.bool px) (.slice Ax lx cx)
  obtain ⟨gx, hgx⟩ : ∃ g, g = w3.heap.size := ⟨_, rfl⟩
  have S4 := Lib.hid (And.intro (S3.out.1.keep (hb)) (And.intro (S3.out.2.1.keep (hb)) (And.intro (S3.out.2.2.1.keep (hb)) (And.intro (S3.out.2.2.2.1.keep (hb)) (And.intro (S3.out.2.2.2.2.1.keep (hb)) (And.intro (h0) (below_trans (S3.out.2.2.2.2.2) (hb))))))))
  clear hb h0 S3
  generalize (w3.alloc _) = Wx at S4 ⊢
  rw [← hgx] at S4 ⊢
  clear hgx
  obtain ⟨xa, xb, -, -⟩ := S4.out.2.2.2.2.2.1.facts
  go_wp2_with fail
  refine (to_ok (S4.out.2.2.2.2.1.zn (small_abs HN.out)) (by decide) HN.out).mono ?_; rintro e w5 ⟨rfl, hb⟩
  have S5 := Lib.hid (And.intro (S4.out.1.keep (hb)) (And.intro (S4.out.2.1.keep (hb)) (And.intro (S4.out.2.2.1.keep (hb)) (And.intro (S4.out.2.2.2.1.keep (hb)) (And.intro (S4.out.2.2.2.2.1.keep (hb)) (And.intro (S4.out.2.2.2.2.2.1.keep (hb)) (below_trans (S4.out.2.2.2.2.2.2) (hb))))))))
  clear hb xa xb S4
  go_upto_region 5 with (fail)
  have S6 := Lib.hid (And.intro (S5.out.1.keep (below_dr _ 1)) (And.intro (S5.out.2.1.keep (below_dr _ 1)) (And.intro (S5.out.2.2.1.keep (below_dr _ 1)) (And.intro (S5.out.2.2.2.1.keep (below_dr _ 1)) (And.intro (S5.out.2.2.2.2.1.keep (below_dr _ 1)) (And.intro (S5.out.2.2.2.2.2.1.keep (below_dr _ 1)) (below_trans (S5.out.2.2.2.2.2.2) (below_dr _ 1))))))))
  have HS0 : (w5.drewN 1).cell? ⟨gx, 0, none⟩ = some (.bool px) ∧ (w5.drewN 1).cell? ⟨gx, 1, none⟩ = some (.slice Ax lx cx) := ⟨S6.out.2.2.2.2.2.1.facts.1, S6.out.2.2.2.2.2.1.facts.2.1⟩
  have HS1 := HS0
  have HS2 := HS0
  have HS3 := HS0
  go_region_held3 (fun W => W.cell? ⟨gx, 0, none⟩ = some (.bool px) ∧ W.cell? ⟨gx, 1, none⟩ = some (.slice Ax lx cx)) (first | with_reducible exact HS1 | with_reducible exact HS2 | with_reducible exact HS3 | exact HS0)
    (first
      | (have hst := S8; clear hst; go_at_call 18; refine (same_zo S8.out.2.2.2.2.1 S8.out.2.2.2.2.2.2.1 rfl).mono ?_; rintro e w9 ⟨rfl, hb⟩; have S9 := Lib.hid (And.intro (S8.out.1.keep (hb)) (And.intro (S8.out.2.1.keep (hb)) (And.intro (S8.out.2.2.1.keep (hb)) (And.intro (S8.out.2.2.2.1.keep (hb)) (And.intro (S8.out.2.2.2.2.2.1.keep (hb)) (below_trans (S8.out.2.2.2.2.2.2.2) (hb))))))); have HS3 : w9.cell? ⟨gx, 0, none⟩ = some (.bool px) ∧ w9.cell? ⟨gx, 1, none⟩ = some (.slice Ax lx cx) := ⟨S9.out.2.2.2.2.1.facts.1, S9.out.2.2.2.2.1.facts.2.1⟩; clear hb)
      | (have hst := S7; clear hst; go_at_call 20; refine (to_k 1 S7.out.2.2.2.2.2.2.1 (by decide) (small_abs HN.out) (by decide)).mono ?_; rintro e w8 ⟨v, rfl, h, hb⟩; have S8 := Lib.hid (And.intro (S7.out.1.keep (hb)) (And.intro (S7.out.2.1.keep (hb)) (And.intro (S7.out.2.2.1.keep (hb)) (And.intro (S7.out.2.2.2.1.keep (hb)) (And.intro (S7.out.2.2.2.2.1.keep (hb)) (And.intro (S7.out.2.2.2.2.2.1.keep (hb)) (And.intro (h) (below_trans (S7.out.2.2.2.2.2.2.2) (hb))))))))); have HS2 : w8.cell? ⟨gx, 0, none⟩ = some (.bool px) ∧ w8.cell? ⟨gx, 1, none⟩ = some (.slice Ax lx cx) := ⟨S8.out.2.2.2.2.2.1.facts.1, S8.out.2.2.2.2.2.1.facts.2.1⟩; clear h hb)
      | (have hst := S6; clear hst; go_at_call 40; refine (small_k n HN.out _).mono ?_; rintro e w7 ⟨v, rfl, h, hb⟩; have S7 := Lib.hid (And.intro (S6.out.1.keep (hb)) (And.intro (S6.out.2.1.keep (hb)) (And.intro (S6.out.2.2.1.keep (hb)) (And.intro (S6.out.2.2.2.1.keep (hb)) (And.intro (S6.out.2.2.2.2.1.keep (hb)) (And.intro (S6.out.2.2.2.2.2.1.keep (hb)) (And.intro (h) (below_trans (S6.out.2.2.2.2.2.2) (hb))))))))); have HS1 : w7.cell? ⟨gx, 0, none⟩ = some (.bool px) ∧ w7.cell? ⟨gx, 1, none⟩ = some (.slice Ax lx cx) := ⟨S7.out.2.2.2.2.2.1.facts.1, S7.out.2.2.2.2.2.1.facts.2.1⟩; clear h hb))
  clear HS0 HS1 HS2 HS3
  obtain ⟨aa, ab, -, -⟩ := S9.out.2.2.2.1.facts
  go_wp2_with fail
  refine (big_no S9.out.2.1 S9.out.2.1 HG.out.1 HG.out.1).mono ?_; rintro e w10 ⟨rfl, hb⟩
  have S10 := Lib.hid (And.intro (S9.out.1.keep (hb)) (And.intro (S9.out.2.1.keep (hb)) (And.intro (S9.out.2.2.1.keep (hb)) (And.intro (S9.out.2.2.2.1.keep (hb)) (And.intro (S9.out.2.2.2.2.1.keep (hb)) (below_trans (S9.out.2.2.2.2.2) (hb)))))))
  clear hb aa ab S9
  obtain ⟨aa, ab, -, -⟩ := S10.out.2.2.2.1.facts
  go_wp2_with fail
  refine (copy_z S10.out.2.1 (by have := HG.out.1; omega)).mono ?_; rintro e w11 ⟨v2, rfl, h, hb⟩
  have S11 := Lib.hid (And.intro (S10.out.1.keep (hb)) (And.intro (S10.out.2.1.keep (hb)) (And.intro (S10.out.2.2.1.keep (hb)) (And.intro (S10.out.2.2.2.1.keep (hb)) (And.intro (S10.out.2.2.2.2.1.keep (hb)) (And.intro (h.zn HG.out.1) (below_trans (S10.out.2.2.2.2.2) (hb))))))))
  clear h hb aa ab S10
  go_wp2_with fail
  refine (to_ok S11.out.2.2.2.2.2.1 (by decide) (by rw [← HG.out.2.2.1]; exact HG.out.2.1)).mono ?_; rintro e w12 ⟨rfl, hb⟩
  rw [← HG.out.2.2.1]
  have S12 := Lib.hid (And.intro (S11.out.1.keep (hb)) (And.intro (S11.out.2.1.keep (hb)) (And.intro (S11.out.2.2.1.keep (hb)) (And.intro (S11.out.2.2.2.1.keep (hb)) (And.intro (S11.out.2.2.2.2.1.keep (hb)) (And.intro (S11.out.2.2.2.2.2.1.keep (hb)) (below_trans (S11.out.2.2.2.2.2.2) (hb))))))))
  clear hb  S11
  obtain ⟨aa, ab, -, -⟩ := S12.out.2.2.2.1.facts
  go_wp2_with fail
  refine (I.of_d S12.out.2.2.1 (by decide)).mono ?_; rintro e w13 ⟨v3, rfl, h, hb⟩
  obtain ⟨pd, Ad, ld, cd, rfl⟩ := Zd.pat h
  have S13 := Lib.hid (And.intro (S12.out.1.keep (hb)) (And.intro (S12.out.2.1.keep (hb)) (And.intro (S12.out.2.2.1.keep (hb)) (And.intro (S12.out.2.2.2.1.keep (hb)) (And.intro (S12.out.2.2.2.2.1.keep (hb)) (And.intro (S12.out.2.2.2.2.2.1.keep (hb)) (And.intro (h) (below_trans (S12.out.2.2.2.2.2.2) (hb)))))))))
  clear h hb aa ab S12
  go_upto_region 11 with (fail)
  obtain ⟨h0, hb⟩ := box1 w13 33 (.bool pd) (.slice Ad ld cd)
  obtain ⟨gd, hgd⟩ : ∃ g, g = w13.heap.size := ⟨_, rfl⟩
  have S14 := Lib.hid (And.intro (S13.out.1.keep (hb)) (And.intro (S13.out.2.1.keep (hb)) (And.intro (S13.out.2.2.1.keep (hb)) (And.intro (S13.out.2.2.2.1.keep (hb)) (And.intro (S13.out.2.2.2.2.1.keep (hb)) (And.intro (S13.out.2.2.2.2.2.1.keep (hb)) (And.intro (S13.out.2.2.2.2.2.2.1.keep (hb)) (And.intro (h0) (below_trans (S13.out.2.2.2.2.2.2.2) (hb))))))))))
  clear hb h0 S13
  generalize w13.alloc _ = Wd at S14 ⊢
  rw [← hgd] at S14 ⊢
  clear hgd
  go_upto_region 11 with (fail)
  have S15 := Lib.hid (And.intro (S14.out.1.keep (below_dr _ 1)) (And.intro (S14.out.2.1.keep (below_dr _ 1)) (And.intro (S14.out.2.2.1.keep (below_dr _ 1)) (And.intro (S14.out.2.2.2.1.keep (below_dr _ 1)) (And.intro (S14.out.2.2.2.2.1.keep (below_dr _ 1)) (And.intro (S14.out.2.2.2.2.2.1.keep (below_dr _ 1)) (And.intro (S14.out.2.2.2.2.2.2.1.keep (below_dr _ 1)) (And.intro (S14.out.2.2.2.2.2.2.2.1.keep (below_dr _ 1)) (below_trans (S14.out.2.2.2.2.2.2.2.2) (below_dr _ 1))))))))))
  have HS0 : (Wd.drewN 1).cell? ⟨gd, 0, none⟩ = some (.bool pd) ∧ (Wd.drewN 1).cell? ⟨gd, 1, none⟩ = some (.slice Ad ld cd) := ⟨S15.out.2.2.2.2.2.2.2.1.facts.1, S15.out.2.2.2.2.2.2.2.1.facts.2.1⟩
  have HS1 := HS0
  have HS2 := HS0
  have HS3 := HS0
  have HS4 := HS0
  go_region_held3 (fun W => W.cell? ⟨gd, 0, none⟩ = some (.bool pd) ∧ W.cell? ⟨gd, 1, none⟩ = some (.slice Ad ld cd)) (first | with_reducible exact HS1 | with_reducible exact HS2 | with_reducible exact HS3 | with_reducible exact HS4 | exact HS0)
    (first
      | (have hst := S18; clear hst; go_at_call 31; refine (cmp_dk HO.out S18.out.2.2.2.2.2.2.1 S18.out.2.2.2.2.2.2.2.2.1 (by decide) (by decide)).mono ?_; rintro e w19 ⟨rfl, hb⟩; have S19 := Lib.hid (And.intro (S18.out.1.keep (hb)) (And.intro (S18.out.2.1.keep (hb)) (And.intro (S18.out.2.2.1.keep (hb)) (And.intro (S18.out.2.2.2.1.keep (hb)) (And.intro (S18.out.2.2.2.2.1.keep (hb)) (And.intro (S18.out.2.2.2.2.2.1.keep (hb)) (And.intro (S18.out.2.2.2.2.2.2.1.keep (hb)) (And.intro (S18.out.2.2.2.2.2.2.2.1.keep (hb)) (below_trans (S18.out.2.2.2.2.2.2.2.2.2) (hb)))))))))); have HS4 : w19.cell? ⟨gd, 0, none⟩ = some (.bool pd) ∧ w19.cell? ⟨gd, 1, none⟩ = some (.slice Ad ld cd) := ⟨S19.out.2.2.2.2.2.2.2.1.facts.1, S19.out.2.2.2.2.2.2.2.1.facts.2.1⟩; clear hb)
      | (have hst := S17; clear hst; go_at_call 40; refine (small_k 9223372036854775807 (by unfold Small64; decide) _).mono ?_; rintro e w18 ⟨v, rfl, h, hb⟩; have S18 := Lib.hid (And.intro (S17.out.1.keep (hb)) (And.intro (S17.out.2.1.keep (hb)) (And.intro (S17.out.2.2.1.keep (hb)) (And.intro (S17.out.2.2.2.1.keep (hb)) (And.intro (S17.out.2.2.2.2.1.keep (hb)) (And.intro (S17.out.2.2.2.2.2.1.keep (hb)) (And.intro (S17.out.2.2.2.2.2.2.1.keep (hb)) (And.intro (S17.out.2.2.2.2.2.2.2.1.keep (hb)) (And.intro (h) (below_trans (S17.out.2.2.2.2.2.2.2.2) (hb))))))))))); have HS3 : w18.cell? ⟨gd, 0, none⟩ = some (.bool pd) ∧ w18.cell? ⟨gd, 1, none⟩ = some (.slice Ad ld cd) := ⟨S18.out.2.2.2.2.2.2.2.1.facts.1, S18.out.2.2.2.2.2.2.2.1.facts.2.1⟩; clear h hb)
      | (have hst := S16; clear hst; go_at_call 31; refine (cmp_dk HG.out.2.2.2 S16.out.2.2.2.2.2.2.1 S16.out.2.2.2.2.2.2.2.2.1 (by decide) (by decide)).mono ?_; rintro e w17 ⟨rfl, hb⟩; have S17 := Lib.hid (And.intro (S16.out.1.keep (hb)) (And.intro (S16.out.2.1.keep (hb)) (And.intro (S16.out.2.2.1.keep (hb)) (And.intro (S16.out.2.2.2.1.keep (hb)) (And.intro (S16.out.2.2.2.2.1.keep (hb)) (And.intro (S16.out.2.2.2.2.2.1.keep (hb)) (And.intro (S16.out.2.2.2.2.2.2.1.keep (hb)) (And.intro (S16.out.2.2.2.2.2.2.2.1.keep (hb)) (below_trans (S16.out.2.2.2.2.2.2.2.2.2) (hb)))))))))); have HS2 : w17.cell? ⟨gd, 0, none⟩ = some (.bool pd) ∧ w17.cell? ⟨gd, 1, none⟩ = some (.slice Ad ld cd) := ⟨S17.out.2.2.2.2.2.2.2.1.facts.1, S17.out.2.2.2.2.2.2.2.1.facts.2.1⟩; clear hb)
      | (have hst := S15; clear hst; go_at_call 40; refine (small_k (-9223372036854775808) (by unfold Small64; decide) _).mono ?_; rintro e w16 ⟨v, rfl, h, hb⟩; have S16 := Lib.hid (And.intro (S15.out.1.keep (hb)) (And.intro (S15.out.2.1.keep (hb)) (And.intro (S15.out.2.2.1.keep (hb)) (And.intro (S15.out.2.2.2.1.keep (hb)) (And.intro (S15.out.2.2.2.2.1.keep (hb)) (And.intro (S15.out.2.2.2.2.2.1.keep (hb)) (And.intro (S15.out.2.2.2.2.2.2.1.keep (hb)) (And.intro (S15.out.2.2.2.2.2.2.2.1.keep (hb)) (And.intro (h) (below_trans (S15.out.2.2.2.2.2.2.2.2) (hb))))))))))); have HS1 : w16.cell? ⟨gd, 0, none⟩ = some (.bool pd) ∧ w16.cell? ⟨gd, 1, none⟩ = some (.slice Ad ld cd) := ⟨S16.out.2.2.2.2.2.2.2.1.facts.1, S16.out.2.2.2.2.2.2.2.1.facts.2.1⟩; clear h hb))
  clear HS0 HS1 HS2 HS3 HS4
  go_upto_region 13 with (fail)
  have S20 := Lib.hid (And.intro (S19.out.1.keep (below_dr _ 1)) (And.intro (S19.out.2.1.keep (below_dr _ 1)) (And.intro (S19.out.2.2.1.keep (below_dr _ 1)) (And.intro (S19.out.2.2.2.1.keep (below_dr _ 1)) (And.intro (S19.out.2.2.2.2.1.keep (below_dr _ 1)) (And.intro (S19.out.2.2.2.2.2.1.keep (below_dr _ 1)) (And.intro (S19.out.2.2.2.2.2.2.1.keep (below_dr _ 1)) (And.intro (S19.out.2.2.2.2.2.2.2.1.keep (below_dr _ 1)) (below_trans (S19.out.2.2.2.2.2.2.2.2) (below_dr _ 1))))))))))
  have HS0 : (w19.drewN 1).cell? ⟨gd, 0, none⟩ = some (.bool pd) ∧ (w19.drewN 1).cell? ⟨gd, 1, none⟩ = some (.slice Ad ld cd) := ⟨S20.out.2.2.2.2.2.2.2.1.facts.1, S20.out.2.2.2.2.2.2.2.1.facts.2.1⟩
  have HS1 := HS0
  have HS2 := HS0
  go_region_held3 (fun W => W.cell? ⟨gd, 0, none⟩ = some (.bool pd) ∧ W.cell? ⟨gd, 1, none⟩ = some (.slice Ad ld cd)) (first | with_reducible exact HS1 | with_reducible exact HS2 | exact HS0)
    (first
      | (have hst := S21; clear hst; go_at_call 31; refine (cmp_dk (cmpZ_self z) S21.out.2.2.2.2.2.2.2.2.1 S21.out.2.2.2.2.2.2.1 (by decide) (by decide)).mono ?_; rintro e w22 ⟨rfl, hb⟩; have S22 := Lib.hid (And.intro (S21.out.1.keep (hb)) (And.intro (S21.out.2.1.keep (hb)) (And.intro (S21.out.2.2.1.keep (hb)) (And.intro (S21.out.2.2.2.1.keep (hb)) (And.intro (S21.out.2.2.2.2.1.keep (hb)) (And.intro (S21.out.2.2.2.2.2.1.keep (hb)) (And.intro (S21.out.2.2.2.2.2.2.1.keep (hb)) (And.intro (S21.out.2.2.2.2.2.2.2.1.keep (hb)) (below_trans (S21.out.2.2.2.2.2.2.2.2.2) (hb)))))))))); have HS2 : w22.cell? ⟨gd, 0, none⟩ = some (.bool pd) ∧ w22.cell? ⟨gd, 1, none⟩ = some (.slice Ad ld cd) := ⟨S22.out.2.2.2.2.2.2.2.1.facts.1, S22.out.2.2.2.2.2.2.2.1.facts.2.1⟩; clear hb)
      | (have hst := S20; clear hst; go_at_call 40; refine (small_k z HG.out.2.1 _).mono ?_; rintro e w21 ⟨v, rfl, h, hb⟩; have S21 := Lib.hid (And.intro (S20.out.1.keep (hb)) (And.intro (S20.out.2.1.keep (hb)) (And.intro (S20.out.2.2.1.keep (hb)) (And.intro (S20.out.2.2.2.1.keep (hb)) (And.intro (S20.out.2.2.2.2.1.keep (hb)) (And.intro (S20.out.2.2.2.2.2.1.keep (hb)) (And.intro (S20.out.2.2.2.2.2.2.1.keep (hb)) (And.intro (S20.out.2.2.2.2.2.2.2.1.keep (hb)) (And.intro (h) (below_trans (S20.out.2.2.2.2.2.2.2.2) (hb))))))))))); have HS1 : w21.cell? ⟨gd, 0, none⟩ = some (.bool pd) ∧ w21.cell? ⟨gd, 1, none⟩ = some (.slice Ad ld cd) := ⟨S21.out.2.2.2.2.2.2.2.1.facts.1, S21.out.2.2.2.2.2.2.2.1.facts.2.1⟩; clear h hb))
  clear HS0 HS1 HS2
  go_wp2_with fail
  go_ret
  exact ⟨rfl, S22.out.2.2.2.2.2.2.2.2⟩
set_option maxRecDepth 100000 in
set_option maxHeartbeats 2000000 in
theorem zintSmall_in3 (w : World) (ht : Tab w) {a : Value} {pa : Bool} {xa : List Nat} (ha : Zl w a pa xa) (n : Int) (hn : Small64 n) (la : xa.length ≤ 12) (ho1 : cmpZ (sg pa (val WB xa)) (-9223372036854775808) = 1) (ho2 : cmpZ (sg pa (val WB xa)) 9223372036854775807 = 0) (hs : Small64 (sg pa (val WB xa))) :
    Calls Tryz.prog 7 #[.int .i64 n, a] w fun e w' => e = .returned (.bool true) ∧ Below w.heap.size w w' := by
  obtain ⟨z, hz⟩ : ∃ z, z = sg pa (val WB xa) := ⟨_, rfl⟩
  have hza := ha.zn la
  rw [← hz] at hza ho1 hs ho2
  have HG := Lib.hid (And.intro la (And.intro hs (And.intro hz ho1)))
  have HO := Lib.hid ho2
  clear ho2
  clear ho1 hs
  have hzl := ha
  have HN := Lib.hid hn
  have hnn : (n != n) = false := by simp
  obtain ⟨Aa, na, ca, rfl, ea, ha⟩ := ha.parts
  have S0 := Lib.hid (And.intro (ht) (And.intro (hzl) (And.intro (hza) (Below.refl w.heap.size w))))
  clear ht hzl ha ea hn hza la hz
  go_enter Tryz.func7, Tryz.ntmps7
  go_upto_region 1 with (fail)
  obtain ⟨h0, hb⟩ := box1 w 24 (.bool pa) (.slice Aa na ca)
  have S1 := Lib.hid (And.intro (S0.out.1.keep (hb)) (And.intro (S0.out.2.1.keep (hb)) (And.intro (S0.out.2.2.1.keep (hb)) (And.intro (h0) (below_trans (S0.out.2.2.2) (hb))))))
  clear hb h0 S0
  generalize w.alloc _ = W0 at S1 ⊢
  go_wp2_with fail
  refine (speaks_z _ S1.out.1).mono ?_; rintro e w2 ⟨rfl, hb⟩
  have S2 := Lib.hid (And.intro (S1.out.1.keep (hb)) (And.intro (S1.out.2.1.keep (hb)) (And.intro (S1.out.2.2.1.keep (hb)) (And.intro (S1.out.2.2.2.1.keep (hb)) (below_trans (S1.out.2.2.2.2) (hb))))))
  clear hb  S1
  go_wp2_with fail
  refine (of_k n HN.out _).mono ?_; rintro e w3 ⟨v1, rfl, h⟩
  obtain ⟨px, Ax, lx, cx, rfl, -⟩ := h.parts
  have S3 := Lib.hid (And.intro (S2.out.1.keep (h.below)) (And.intro (S2.out.2.1.keep (h.below)) (And.intro (S2.out.2.2.1.keep (h.below)) (And.intro (S2.out.2.2.2.1.keep (h.below)) (And.intro (h.zo) (below_trans (S2.out.2.2.2.2) (h.below)))))))
  clear h  S2
  go_upto_region 4 with (fail)
  obtain ⟨h0, hb⟩ := box1 w3 24 (.bool px) (.slice Ax lx cx)
  obtain ⟨gx, hgx⟩ : ∃ g, g = w3.heap.size := ⟨_, rfl⟩
  have S4 := Lib.hid (And.intro (S3.out.1.keep (hb)) (And.intro (S3.out.2.1.keep (hb)) (And.intro (S3.out.2.2.1.keep (hb)) (And.intro (S3.out.2.2.2.1.keep (hb)) (And.intro (S3.out.2.2.2.2.1.keep (hb)) (And.intro (h0) (below_trans (S3.out.2.2.2.2.2) (hb))))))))
  clear hb h0 S3
  generalize (w3.alloc _) = Wx at S4 ⊢
  rw [← hgx] at S4 ⊢
  clear hgx
  obtain ⟨xa, xb, -, -⟩ := S4.out.2.2.2.2.2.1.facts
  go_wp2_with fail
  refine (to_ok (S4.out.2.2.2.2.1.zn (small_abs HN.out)) (by decide) HN.out).mono ?_; rintro e w5 ⟨rfl, hb⟩
  have S5 := Lib.hid (And.intro (S4.out.1.keep (hb)) (And.intro (S4.out.2.1.keep (hb)) (And.intro (S4.out.2.2.1.keep (hb)) (And.intro (S4.out.2.2.2.1.keep (hb)) (And.intro (S4.out.2.2.2.2.1.keep (hb)) (And.intro (S4.out.2.2.2.2.2.1.keep (hb)) (below_trans (S4.out.2.2.2.2.2.2) (hb))))))))
  clear hb xa xb S4
  go_upto_region 5 with (fail)
  have S6 := Lib.hid (And.intro (S5.out.1.keep (below_dr _ 1)) (And.intro (S5.out.2.1.keep (below_dr _ 1)) (And.intro (S5.out.2.2.1.keep (below_dr _ 1)) (And.intro (S5.out.2.2.2.1.keep (below_dr _ 1)) (And.intro (S5.out.2.2.2.2.1.keep (below_dr _ 1)) (And.intro (S5.out.2.2.2.2.2.1.keep (below_dr _ 1)) (below_trans (S5.out.2.2.2.2.2.2) (below_dr _ 1))))))))
  have HS0 : (w5.drewN 1).cell? ⟨gx, 0, none⟩ = some (.bool px) ∧ (w5.drewN 1).cell? ⟨gx, 1, none⟩ = some (.slice Ax lx cx) := ⟨S6.out.2.2.2.2.2.1.facts.1, S6.out.2.2.2.2.2.1.facts.2.1⟩
  have HS1 := HS0
  have HS2 := HS0
  have HS3 := HS0
  go_region_held3 (fun W => W.cell? ⟨gx, 0, none⟩ = some (.bool px) ∧ W.cell? ⟨gx, 1, none⟩ = some (.slice Ax lx cx)) (first | with_reducible exact HS1 | with_reducible exact HS2 | with_reducible exact HS3 | exact HS0)
    (first
      | (have hst := S8; clear hst; go_at_call 18; refine (same_zo S8.out.2.2.2.2.1 S8.out.2.2.2.2.2.2.1 rfl).mono ?_; rintro e w9 ⟨rfl, hb⟩; have S9 := Lib.hid (And.intro (S8.out.1.keep (hb)) (And.intro (S8.out.2.1.keep (hb)) (And.intro (S8.out.2.2.1.keep (hb)) (And.intro (S8.out.2.2.2.1.keep (hb)) (And.intro (S8.out.2.2.2.2.2.1.keep (hb)) (below_trans (S8.out.2.2.2.2.2.2.2) (hb))))))); have HS3 : w9.cell? ⟨gx, 0, none⟩ = some (.bool px) ∧ w9.cell? ⟨gx, 1, none⟩ = some (.slice Ax lx cx) := ⟨S9.out.2.2.2.2.1.facts.1, S9.out.2.2.2.2.1.facts.2.1⟩; clear hb)
      | (have hst := S7; clear hst; go_at_call 20; refine (to_k 1 S7.out.2.2.2.2.2.2.1 (by decide) (small_abs HN.out) (by decide)).mono ?_; rintro e w8 ⟨v, rfl, h, hb⟩; have S8 := Lib.hid (And.intro (S7.out.1.keep (hb)) (And.intro (S7.out.2.1.keep (hb)) (And.intro (S7.out.2.2.1.keep (hb)) (And.intro (S7.out.2.2.2.1.keep (hb)) (And.intro (S7.out.2.2.2.2.1.keep (hb)) (And.intro (S7.out.2.2.2.2.2.1.keep (hb)) (And.intro (h) (below_trans (S7.out.2.2.2.2.2.2.2) (hb))))))))); have HS2 : w8.cell? ⟨gx, 0, none⟩ = some (.bool px) ∧ w8.cell? ⟨gx, 1, none⟩ = some (.slice Ax lx cx) := ⟨S8.out.2.2.2.2.2.1.facts.1, S8.out.2.2.2.2.2.1.facts.2.1⟩; clear h hb)
      | (have hst := S6; clear hst; go_at_call 40; refine (small_k n HN.out _).mono ?_; rintro e w7 ⟨v, rfl, h, hb⟩; have S7 := Lib.hid (And.intro (S6.out.1.keep (hb)) (And.intro (S6.out.2.1.keep (hb)) (And.intro (S6.out.2.2.1.keep (hb)) (And.intro (S6.out.2.2.2.1.keep (hb)) (And.intro (S6.out.2.2.2.2.1.keep (hb)) (And.intro (S6.out.2.2.2.2.2.1.keep (hb)) (And.intro (h) (below_trans (S6.out.2.2.2.2.2.2) (hb))))))))); have HS1 : w7.cell? ⟨gx, 0, none⟩ = some (.bool px) ∧ w7.cell? ⟨gx, 1, none⟩ = some (.slice Ax lx cx) := ⟨S7.out.2.2.2.2.2.1.facts.1, S7.out.2.2.2.2.2.1.facts.2.1⟩; clear h hb))
  clear HS0 HS1 HS2 HS3
  obtain ⟨aa, ab, -, -⟩ := S9.out.2.2.2.1.facts
  go_wp2_with fail
  refine (big_no S9.out.2.1 S9.out.2.1 HG.out.1 HG.out.1).mono ?_; rintro e w10 ⟨rfl, hb⟩
  have S10 := Lib.hid (And.intro (S9.out.1.keep (hb)) (And.intro (S9.out.2.1.keep (hb)) (And.intro (S9.out.2.2.1.keep (hb)) (And.intro (S9.out.2.2.2.1.keep (hb)) (And.intro (S9.out.2.2.2.2.1.keep (hb)) (below_trans (S9.out.2.2.2.2.2) (hb)))))))
  clear hb aa ab S9
  obtain ⟨aa, ab, -, -⟩ := S10.out.2.2.2.1.facts
  go_wp2_with fail
  refine (copy_z S10.out.2.1 (by have := HG.out.1; omega)).mono ?_; rintro e w11 ⟨v2, rfl, h, hb⟩
  have S11 := Lib.hid (And.intro (S10.out.1.keep (hb)) (And.intro (S10.out.2.1.keep (hb)) (And.intro (S10.out.2.2.1.keep (hb)) (And.intro (S10.out.2.2.2.1.keep (hb)) (And.intro (S10.out.2.2.2.2.1.keep (hb)) (And.intro (h.zn HG.out.1) (below_trans (S10.out.2.2.2.2.2) (hb))))))))
  clear h hb aa ab S10
  go_wp2_with fail
  refine (to_ok S11.out.2.2.2.2.2.1 (by decide) (by rw [← HG.out.2.2.1]; exact HG.out.2.1)).mono ?_; rintro e w12 ⟨rfl, hb⟩
  rw [← HG.out.2.2.1]
  have S12 := Lib.hid (And.intro (S11.out.1.keep (hb)) (And.intro (S11.out.2.1.keep (hb)) (And.intro (S11.out.2.2.1.keep (hb)) (And.intro (S11.out.2.2.2.1.keep (hb)) (And.intro (S11.out.2.2.2.2.1.keep (hb)) (And.intro (S11.out.2.2.2.2.2.1.keep (hb)) (below_trans (S11.out.2.2.2.2.2.2) (hb))))))))
  clear hb  S11
  obtain ⟨aa, ab, -, -⟩ := S12.out.2.2.2.1.facts
  go_wp2_with fail
  refine (I.of_d S12.out.2.2.1 (by decide)).mono ?_; rintro e w13 ⟨v3, rfl, h, hb⟩
  obtain ⟨pd, Ad, ld, cd, rfl⟩ := Zd.pat h
  have S13 := Lib.hid (And.intro (S12.out.1.keep (hb)) (And.intro (S12.out.2.1.keep (hb)) (And.intro (S12.out.2.2.1.keep (hb)) (And.intro (S12.out.2.2.2.1.keep (hb)) (And.intro (S12.out.2.2.2.2.1.keep (hb)) (And.intro (S12.out.2.2.2.2.2.1.keep (hb)) (And.intro (h) (below_trans (S12.out.2.2.2.2.2.2) (hb)))))))))
  clear h hb aa ab S12
  go_upto_region 11 with (fail)
  obtain ⟨h0, hb⟩ := box1 w13 33 (.bool pd) (.slice Ad ld cd)
  obtain ⟨gd, hgd⟩ : ∃ g, g = w13.heap.size := ⟨_, rfl⟩
  have S14 := Lib.hid (And.intro (S13.out.1.keep (hb)) (And.intro (S13.out.2.1.keep (hb)) (And.intro (S13.out.2.2.1.keep (hb)) (And.intro (S13.out.2.2.2.1.keep (hb)) (And.intro (S13.out.2.2.2.2.1.keep (hb)) (And.intro (S13.out.2.2.2.2.2.1.keep (hb)) (And.intro (S13.out.2.2.2.2.2.2.1.keep (hb)) (And.intro (h0) (below_trans (S13.out.2.2.2.2.2.2.2) (hb))))))))))
  clear hb h0 S13
  generalize w13.alloc _ = Wd at S14 ⊢
  rw [← hgd] at S14 ⊢
  clear hgd
  go_upto_region 11 with (fail)
  have S15 := Lib.hid (And.intro (S14.out.1.keep (below_dr _ 1)) (And.intro (S14.out.2.1.keep (below_dr _ 1)) (And.intro (S14.out.2.2.1.keep (below_dr _ 1)) (And.intro (S14.out.2.2.2.1.keep (below_dr _ 1)) (And.intro (S14.out.2.2.2.2.1.keep (below_dr _ 1)) (And.intro (S14.out.2.2.2.2.2.1.keep (below_dr _ 1)) (And.intro (S14.out.2.2.2.2.2.2.1.keep (below_dr _ 1)) (And.intro (S14.out.2.2.2.2.2.2.2.1.keep (below_dr _ 1)) (below_trans (S14.out.2.2.2.2.2.2.2.2) (below_dr _ 1))))))))))
  have HS0 : (Wd.drewN 1).cell? ⟨gd, 0, none⟩ = some (.bool pd) ∧ (Wd.drewN 1).cell? ⟨gd, 1, none⟩ = some (.slice Ad ld cd) := ⟨S15.out.2.2.2.2.2.2.2.1.facts.1, S15.out.2.2.2.2.2.2.2.1.facts.2.1⟩
  have HS1 := HS0
  have HS2 := HS0
  have HS3 := HS0
  have HS4 := HS0
  go_region_held3 (fun W => W.cell? ⟨gd, 0, none⟩ = some (.bool pd) ∧ W.cell? ⟨gd, 1, none⟩ = some (.slice Ad ld cd)) (first | with_reducible exact HS1 | with_reducible exact HS2 | with_reducible exact HS3 | with_reducible exact HS4 | exact HS0)
    (first
      | (have hst := S18; clear hst; go_at_call 31; refine (cmp_dk HO.out S18.out.2.2.2.2.2.2.1 S18.out.2.2.2.2.2.2.2.2.1 (by decide) (by decide)).mono ?_; rintro e w19 ⟨rfl, hb⟩; have S19 := Lib.hid (And.intro (S18.out.1.keep (hb)) (And.intro (S18.out.2.1.keep (hb)) (And.intro (S18.out.2.2.1.keep (hb)) (And.intro (S18.out.2.2.2.1.keep (hb)) (And.intro (S18.out.2.2.2.2.1.keep (hb)) (And.intro (S18.out.2.2.2.2.2.1.keep (hb)) (And.intro (S18.out.2.2.2.2.2.2.1.keep (hb)) (And.intro (S18.out.2.2.2.2.2.2.2.1.keep (hb)) (below_trans (S18.out.2.2.2.2.2.2.2.2.2) (hb)))))))))); have HS4 : w19.cell? ⟨gd, 0, none⟩ = some (.bool pd) ∧ w19.cell? ⟨gd, 1, none⟩ = some (.slice Ad ld cd) := ⟨S19.out.2.2.2.2.2.2.2.1.facts.1, S19.out.2.2.2.2.2.2.2.1.facts.2.1⟩; clear hb)
      | (have hst := S17; clear hst; go_at_call 40; refine (small_k 9223372036854775807 (by unfold Small64; decide) _).mono ?_; rintro e w18 ⟨v, rfl, h, hb⟩; have S18 := Lib.hid (And.intro (S17.out.1.keep (hb)) (And.intro (S17.out.2.1.keep (hb)) (And.intro (S17.out.2.2.1.keep (hb)) (And.intro (S17.out.2.2.2.1.keep (hb)) (And.intro (S17.out.2.2.2.2.1.keep (hb)) (And.intro (S17.out.2.2.2.2.2.1.keep (hb)) (And.intro (S17.out.2.2.2.2.2.2.1.keep (hb)) (And.intro (S17.out.2.2.2.2.2.2.2.1.keep (hb)) (And.intro (h) (below_trans (S17.out.2.2.2.2.2.2.2.2) (hb))))))))))); have HS3 : w18.cell? ⟨gd, 0, none⟩ = some (.bool pd) ∧ w18.cell? ⟨gd, 1, none⟩ = some (.slice Ad ld cd) := ⟨S18.out.2.2.2.2.2.2.2.1.facts.1, S18.out.2.2.2.2.2.2.2.1.facts.2.1⟩; clear h hb)
      | (have hst := S16; clear hst; go_at_call 31; refine (cmp_dk HG.out.2.2.2 S16.out.2.2.2.2.2.2.1 S16.out.2.2.2.2.2.2.2.2.1 (by decide) (by decide)).mono ?_; rintro e w17 ⟨rfl, hb⟩; have S17 := Lib.hid (And.intro (S16.out.1.keep (hb)) (And.intro (S16.out.2.1.keep (hb)) (And.intro (S16.out.2.2.1.keep (hb)) (And.intro (S16.out.2.2.2.1.keep (hb)) (And.intro (S16.out.2.2.2.2.1.keep (hb)) (And.intro (S16.out.2.2.2.2.2.1.keep (hb)) (And.intro (S16.out.2.2.2.2.2.2.1.keep (hb)) (And.intro (S16.out.2.2.2.2.2.2.2.1.keep (hb)) (below_trans (S16.out.2.2.2.2.2.2.2.2.2) (hb)))))))))); have HS2 : w17.cell? ⟨gd, 0, none⟩ = some (.bool pd) ∧ w17.cell? ⟨gd, 1, none⟩ = some (.slice Ad ld cd) := ⟨S17.out.2.2.2.2.2.2.2.1.facts.1, S17.out.2.2.2.2.2.2.2.1.facts.2.1⟩; clear hb)
      | (have hst := S15; clear hst; go_at_call 40; refine (small_k (-9223372036854775808) (by unfold Small64; decide) _).mono ?_; rintro e w16 ⟨v, rfl, h, hb⟩; have S16 := Lib.hid (And.intro (S15.out.1.keep (hb)) (And.intro (S15.out.2.1.keep (hb)) (And.intro (S15.out.2.2.1.keep (hb)) (And.intro (S15.out.2.2.2.1.keep (hb)) (And.intro (S15.out.2.2.2.2.1.keep (hb)) (And.intro (S15.out.2.2.2.2.2.1.keep (hb)) (And.intro (S15.out.2.2.2.2.2.2.1.keep (hb)) (And.intro (S15.out.2.2.2.2.2.2.2.1.keep (hb)) (And.intro (h) (below_trans (S15.out.2.2.2.2.2.2.2.2) (hb))))))))))); have HS1 : w16.cell? ⟨gd, 0, none⟩ = some (.bool pd) ∧ w16.cell? ⟨gd, 1, none⟩ = some (.slice Ad ld cd) := ⟨S16.out.2.2.2.2.2.2.2.1.facts.1, S16.out.2.2.2.2.2.2.2.1.facts.2.1⟩; clear h hb))
  clear HS0 HS1 HS2 HS3 HS4
  go_upto_region 13 with (fail)
  have S20 := Lib.hid (And.intro (S19.out.1.keep (below_dr _ 1)) (And.intro (S19.out.2.1.keep (below_dr _ 1)) (And.intro (S19.out.2.2.1.keep (below_dr _ 1)) (And.intro (S19.out.2.2.2.1.keep (below_dr _ 1)) (And.intro (S19.out.2.2.2.2.1.keep (below_dr _ 1)) (And.intro (S19.out.2.2.2.2.2.1.keep (below_dr _ 1)) (And.intro (S19.out.2.2.2.2.2.2.1.keep (below_dr _ 1)) (And.intro (S19.out.2.2.2.2.2.2.2.1.keep (below_dr _ 1)) (below_trans (S19.out.2.2.2.2.2.2.2.2) (below_dr _ 1))))))))))
  have HS0 : (w19.drewN 1).cell? ⟨gd, 0, none⟩ = some (.bool pd) ∧ (w19.drewN 1).cell? ⟨gd, 1, none⟩ = some (.slice Ad ld cd) := ⟨S20.out.2.2.2.2.2.2.2.1.facts.1, S20.out.2.2.2.2.2.2.2.1.facts.2.1⟩
  have HS1 := HS0
  have HS2 := HS0
  go_region_held3 (fun W => W.cell? ⟨gd, 0, none⟩ = some (.bool pd) ∧ W.cell? ⟨gd, 1, none⟩ = some (.slice Ad ld cd)) (first | with_reducible exact HS1 | with_reducible exact HS2 | exact HS0)
    (first
      | (have hst := S21; clear hst; go_at_call 31; refine (cmp_dk (cmpZ_self z) S21.out.2.2.2.2.2.2.2.2.1 S21.out.2.2.2.2.2.2.1 (by decide) (by decide)).mono ?_; rintro e w22 ⟨rfl, hb⟩; have S22 := Lib.hid (And.intro (S21.out.1.keep (hb)) (And.intro (S21.out.2.1.keep (hb)) (And.intro (S21.out.2.2.1.keep (hb)) (And.intro (S21.out.2.2.2.1.keep (hb)) (And.intro (S21.out.2.2.2.2.1.keep (hb)) (And.intro (S21.out.2.2.2.2.2.1.keep (hb)) (And.intro (S21.out.2.2.2.2.2.2.1.keep (hb)) (And.intro (S21.out.2.2.2.2.2.2.2.1.keep (hb)) (below_trans (S21.out.2.2.2.2.2.2.2.2.2) (hb)))))))))); have HS2 : w22.cell? ⟨gd, 0, none⟩ = some (.bool pd) ∧ w22.cell? ⟨gd, 1, none⟩ = some (.slice Ad ld cd) := ⟨S22.out.2.2.2.2.2.2.2.1.facts.1, S22.out.2.2.2.2.2.2.2.1.facts.2.1⟩; clear hb)
      | (have hst := S20; clear hst; go_at_call 40; refine (small_k z HG.out.2.1 _).mono ?_; rintro e w21 ⟨v, rfl, h, hb⟩; have S21 := Lib.hid (And.intro (S20.out.1.keep (hb)) (And.intro (S20.out.2.1.keep (hb)) (And.intro (S20.out.2.2.1.keep (hb)) (And.intro (S20.out.2.2.2.1.keep (hb)) (And.intro (S20.out.2.2.2.2.1.keep (hb)) (And.intro (S20.out.2.2.2.2.2.1.keep (hb)) (And.intro (S20.out.2.2.2.2.2.2.1.keep (hb)) (And.intro (S20.out.2.2.2.2.2.2.2.1.keep (hb)) (And.intro (h) (below_trans (S20.out.2.2.2.2.2.2.2.2) (hb))))))))))); have HS1 : w21.cell? ⟨gd, 0, none⟩ = some (.bool pd) ∧ w21.cell? ⟨gd, 1, none⟩ = some (.slice Ad ld cd) := ⟨S21.out.2.2.2.2.2.2.2.1.facts.1, S21.out.2.2.2.2.2.2.2.1.facts.2.1⟩; clear h hb))
  clear HS0 HS1 HS2
  go_wp2_with fail
  go_ret
  exact ⟨rfl, S22.out.2.2.2.2.2.2.2.2⟩
theorem zintSmall_main (w : World) (ht : Tab w) {a : Value} {pa : Bool} {xa : List Nat} (ha : Zl w a pa xa) (n : Int) (hn : Small64 n) :
    Calls Tryz.prog 7 #[.int .i64 n, a] w fun e w' => e = .returned (.bool true) ∧ Below w.heap.size w w' := by
  by_cases la : xa.length ≤ 12
  · obtain ⟨z, hz⟩ : ∃ z, sg pa (val WB xa) = z := ⟨_, rfl⟩
    by_cases h1 : z < -9223372036854775808
    · exact zintSmall_low w ht ha n hn la (by rw [hz]; exact cmpZ_lt h1) (by rw [hz]; unfold Small64; omega)
    · by_cases h2 : 9223372036854775807 < z
      · exact zintSmall_high w ht ha n hn la (by rw [hz]; exact cmpZ_gt (by omega)) (by rw [hz]; exact cmpZ_gt h2) (by rw [hz]; unfold Small64; omega)
      · have hs : Small64 (sg pa (val WB xa)) := by rw [hz]; unfold Small64; omega
        by_cases h3 : z = -9223372036854775808
        · exact zintSmall_in1 w ht ha n hn la (by rw [hz, h3]; decide) (by rw [hz, h3]; decide) hs
        · have e1 : cmpZ (sg pa (val WB xa)) (-9223372036854775808) = 1 := by rw [hz]; exact cmpZ_gt (by omega)
          by_cases h4 : z = 9223372036854775807
          · exact zintSmall_in3 w ht ha n hn la e1 (by rw [hz, h4]; decide) hs
          · exact zintSmall_in2 w ht ha n hn la e1 (by rw [hz]; exact cmpZ_lt (by omega)) hs
  · exact zintSmall_big w ht ha n hn (fun h => la h.1)
theorem zintSmall_walk (w : World) (ht : Tab w) (n : Int) (hn : -9223372036854775808 ≤ n ∧ n ≤ 9223372036854775807) {a : Value} {pa : Bool} {xa : List Nat} (ha : Zl w a pa xa) :
    Calls Tryz.prog 7 #[.int .i64 n, a] w fun e w' => e = .returned (.bool true) ∧ Below w.heap.size w w' :=
  zintSmall_main w ht ha n (by unfold Small64; omega)
end Go.Proofs.YtgbfpimdnmmfpaaGreatDoor
