/-
  The law ZintRests, walked.
-/
import Derived.Test.YtgbfpimdnmmfpaaGreatDoorZL2
namespace Go.Proofs.YtgbfpimdnmmfpaaGreatDoor
open Go Go.RowKit Go.Proofs Pl
set_option linter.unusedVariables false
set_option linter.unusedSimpArgs false

theorem rest_form (p q : Bool) {m n : Nat} (h0 : n ≠ 0) : ∃ k, k < n ∧ sg p m - Int.fdiv (sg p m) (sg q n) * sg q n = sg q k := by
  have hmod := Nat.div_add_mod m n
  have hlt := Nat.mod_lt m (Nat.pos_of_ne_zero h0)
  obtain ⟨d, hd⟩ : ∃ d, d = m / n := ⟨_, rfl⟩
  obtain ⟨r, hr⟩ : ∃ r, r = m % n := ⟨_, rfl⟩
  rw [← hd, ← hr] at hmod
  rw [← hr] at hlt
  have hmi : (m : Int) = (n : Int) * (d : Int) + (r : Int) := by exact_mod_cast hmod.symm
  by_cases hpq : p = q
  · subst hpq
    rw [fdiv_same, ← hd]
    refine ⟨r, hlt, ?_⟩
    cases p <;> simp only [sg, if_true, if_false, Bool.false_eq_true, Int.mul_neg] <;> rw [Int.mul_comm (d : Int)] <;> omega
  · obtain rfl : q = !p := by cases p <;> cases q <;> simp_all
    rw [fdiv_unlike p m n h0, ← hd, ← hr]
    by_cases hz : r = 0
    · refine ⟨0, by omega, ?_⟩
      rw [if_pos hz, Int.sub_zero]
      cases p <;> simp only [sg, if_true, if_false, Bool.false_eq_true, Int.mul_neg, Int.neg_mul, Bool.not_false, Bool.not_true] <;> rw [Int.mul_comm (d : Int)] <;> omega
    · refine ⟨n - r, by omega, ?_⟩
      rw [if_neg hz]
      cases p <;> simp only [sg, if_true, if_false, Bool.false_eq_true, Int.mul_neg, Int.neg_mul, Int.sub_mul, Int.one_mul, Bool.not_false, Bool.not_true] <;> rw [Int.mul_comm (d : Int)] <;> omega
/-- The rest: nearer to 0 than the divisor, and of its sign. -/
theorem rest_is {x y : Int} (h0 : y ≠ 0) : (x - Int.fdiv x y * y).natAbs < y.natAbs ∧ (x - Int.fdiv x y * y = 0 ∨ x - Int.fdiv x y * y ≠ 0 ∧ signZ (x - Int.fdiv x y * y) = signZ y) := by
  obtain ⟨k, hk, e⟩ := rest_form (decide (x < 0)) (decide (y < 0)) (m := x.natAbs) (n := y.natAbs) (by omega)
  rw [sg_form, sg_form] at e
  rw [e, sg_abs]
  refine ⟨hk, ?_⟩
  rcases Nat.eq_zero_or_pos k with h | h
  · left; rw [h, sg_zero]
  · right
    by_cases hy : y < 0
    · rw [decide_eq_true hy, signZ_neg (by omega)]
      refine ⟨by simp [sg]; omega, ?_⟩
      unfold signZ; rw [if_neg h0, if_pos hy]
    · rw [decide_eq_false hy, signZ_pos (by omega)]
      refine ⟨by simp [sg]; omega, ?_⟩
      unfold signZ; rw [if_neg h0, if_neg hy]
theorem quot_lt {x y : Int} {L : Nat} (h0 : y ≠ 0) (hx : x.natAbs < WB ^ L) : (Int.fdiv x y).natAbs < WB ^ (L + 1) := by
  have h := fdiv_lt (b := decide (x < 0)) (c := decide (y < 0)) (n := y.natAbs) WB_one (by omega) hx
  rwa [sg_form, sg_form] at h
theorem Zn.abs {w : World} {L : Nat} {p : Bool} {s : Value} {z : Int} (h : Zn w L (.agg #[.bool p, s]) z) : Nm w L s z.natAbs := by
  obtain ⟨b, s', n, e, h, rfl⟩ := h
  injection e with e; injection e with e
  simp only [List.cons.injEq] at e
  rw [e.2.1, sg_abs]; exact h
theorem cmpZ_self (x : Int) : cmpZ x x = 0 := by simp [cmpZ]
theorem nil_int (w : World) (L : Nat) : Zn w L (.agg #[.bool false, .slice none 0 0]) 0 := (nil_zo w).zn (Nat.pow_pos WB_pos)
set_option maxRecDepth 100000 in
set_option maxHeartbeats 2000000 in
theorem zintRests_by0 (w : World) (ht : Tab w) {a : Value} {pa : Bool} {xa : List Nat} {b : Value} {pb : Bool} {xb : List Nat} (ha : Zl w a pa xa) (la : xa.length ≤ 1048576) (hb : Zl w b pb xb) (lb : xb.length ≤ 1048576) (h0 : sg pb (val WB xb) = 0) :
    Calls Tryz.prog 6 #[a, b] w fun e w' => e = .returned (.bool true) ∧ Below w.heap.size w w' := by
  obtain ⟨L, hL⟩ : ∃ L, L = 1048576 := ⟨_, rfl⟩
  rw [← hL] at la lb
  have bx := zl_abs ha la
  have bv := zl_abs hb lb
  have hza := ha.zn la
  have hzb := hb.zn lb
  obtain ⟨x, hx⟩ : ∃ x, x = sg pa (val WB xa) := ⟨_, rfl⟩
  obtain ⟨y, hy⟩ : ∃ y, y = sg pb (val WB xb) := ⟨_, rfl⟩
  rw [← hx] at bx hza
  rw [← hy] at bv hzb h0
  have HE := Lib.hid (And.intro h0 (show signZ y = 0 by rw [h0]; rfl))
  clear h0
  have HL := Lib.hid hL
  obtain ⟨Aa, na, ca, rfl, ea, ha⟩ := ha.parts
  obtain ⟨Ab, nb, cb, rfl, eb, hb⟩ := hb.parts
  have S0 := Lib.hid (And.intro (ht) (And.intro (hza) (And.intro (hzb) (Below.refl w.heap.size w))))
  clear ht hza hzb ha hb la lb ea eb hx hy hL bx bv
  go_enter Tryz.func6, Tryz.ntmps6
  go_upto_region 1 with (fail)
  obtain ⟨h0, h1, hb⟩ := box2 w 24 24 (.bool pa) (.slice Aa na ca) (.bool pb) (.slice Ab nb cb)
  have S1 := Lib.hid (And.intro (S0.out.1.keep (hb)) (And.intro (S0.out.2.1.keep (hb)) (And.intro (S0.out.2.2.1.keep (hb)) (And.intro (h0) (And.intro (h1) (below_trans (S0.out.2.2.2) (hb)))))))
  clear hb h0 h1 S0
  generalize (w.alloc _).alloc _ = W0 at S1 ⊢
  go_wp2_with fail
  refine (speaks_z _ S1.out.1).mono ?_; rintro e w2 ⟨rfl, hb⟩
  have S2 := Lib.hid (And.intro (S1.out.1.keep (hb)) (And.intro (S1.out.2.1.keep (hb)) (And.intro (S1.out.2.2.1.keep (hb)) (And.intro (S1.out.2.2.2.1.keep (hb)) (And.intro (S1.out.2.2.2.2.1.keep (hb)) (below_trans (S1.out.2.2.2.2.2) (hb)))))))
  clear hb  S1
  obtain ⟨aa, ab, -, -⟩ := S2.out.2.2.2.1.facts
  obtain ⟨ba, bb, -, -⟩ := S2.out.2.2.2.2.1.facts
  go_wp2_with fail
  refine (divFloor_by0 S2.out.2.1 S2.out.2.2.1 HE.out.1).mono ?_; rintro e w3 ⟨rfl, hb⟩
  have S3 := Lib.hid (And.intro (S2.out.1.keep (hb)) (And.intro (S2.out.2.1.keep (hb)) (And.intro (S2.out.2.2.1.keep (hb)) (And.intro (S2.out.2.2.2.1.keep (hb)) (And.intro (S2.out.2.2.2.2.1.keep (hb)) (below_trans (S2.out.2.2.2.2.2) (hb)))))))
  clear hb aa ab ba bb S2
  go_upto_region 4 with (fail)
  obtain ⟨h0, h1, hb⟩ := box2 w3 24 24 (.bool false) (.slice none 0 0) (.bool false) (.slice none 0 0)
  have S4 := Lib.hid (And.intro (S3.out.1.keep (hb)) (And.intro (S3.out.2.1.keep (hb)) (And.intro (S3.out.2.2.1.keep (hb)) (And.intro (S3.out.2.2.2.1.keep (hb)) (And.intro (S3.out.2.2.2.2.1.keep (hb)) (below_trans (S3.out.2.2.2.2.2) (hb)))))))
  clear hb h0 h1 S3
  generalize (w3.alloc _).alloc _ = Wq at S4 ⊢
  obtain ⟨ba, bb, -, -⟩ := S4.out.2.2.2.2.1.facts
  go_wp2_with fail
  refine (sign_k HE.out.2 S4.out.2.2.1 (by have := HL.out; omega)).mono ?_; rintro e w5 ⟨rfl, hb⟩
  have S5 := Lib.hid (And.intro (S4.out.1.keep (hb)) (And.intro (S4.out.2.1.keep (hb)) (And.intro (S4.out.2.2.1.keep (hb)) (And.intro (S4.out.2.2.2.1.keep (hb)) (And.intro (S4.out.2.2.2.2.1.keep (hb)) (below_trans (S4.out.2.2.2.2.2) (hb)))))))
  clear hb ba bb S4
  go_wp2_with fail
  go_ret
  exact ⟨rfl, S5.out.2.2.2.2.2⟩
set_option maxRecDepth 100000 in
set_option maxHeartbeats 2000000 in
theorem zintRests_r0 (w : World) (ht : Tab w) {a : Value} {pa : Bool} {xa : List Nat} {b : Value} {pb : Bool} {xb : List Nat} (ha : Zl w a pa xa) (la : xa.length ≤ 1048576) (hb : Zl w b pb xb) (lb : xb.length ≤ 1048576) (h0 : sg pb (val WB xb) ≠ 0) (hr : sg pa (val WB xa) - Int.fdiv (sg pa (val WB xa)) (sg pb (val WB xb)) * sg pb (val WB xb) = 0) :
    Calls Tryz.prog 6 #[a, b] w fun e w' => e = .returned (.bool true) ∧ Below w.heap.size w w' := by
  obtain ⟨L, hL⟩ : ∃ L, L = 1048576 := ⟨_, rfl⟩
  rw [← hL] at la lb
  have bx := zl_abs ha la
  have bv := zl_abs hb lb
  have hza := ha.zn la
  have hzb := hb.zn lb
  obtain ⟨x, hx⟩ : ∃ x, x = sg pa (val WB xa) := ⟨_, rfl⟩
  obtain ⟨y, hy⟩ : ∃ y, y = sg pb (val WB xb) := ⟨_, rfl⟩
  rw [← hx] at bx hza
  rw [← hy] at bv hzb h0
  rw [← hx, ← hy] at hr
  have hri := rest_is (x := x) h0
  have hq := quot_lt h0 bx
  obtain ⟨qq, hqq⟩ : ∃ qq, Int.fdiv x y = qq := ⟨_, rfl⟩
  obtain ⟨r, hrr⟩ : ∃ r, x - Int.fdiv x y * y = r := ⟨_, rfl⟩
  rw [hrr] at hr hri
  rw [hqq] at hq
  have e1 : cmpZ (qq * y + r) x = 0 := by rw [← hqq, ← hrr, show Int.fdiv x y * y + (x - Int.fdiv x y * y) = x by omega]; exact cmpZ_self x
  have e2 : cmpZ (sg false r.natAbs) (sg false y.natAbs) = -1 := by have := hri.1; unfold cmpZ; simp only [sg, Bool.false_eq_true, if_false]; rw [if_pos (by omega)]
  have br := Nat.lt_trans hri.1 bv
  have HB := Lib.hid (And.intro hq (And.intro br (And.intro bv (abs_add WB_one (abs_mul hq bv) br))))
  have ho2 : signZ r = 0 := by rw [hr]; rfl
  have HE := Lib.hid (And.intro e1 (And.intro e2 ho2))
  clear ho2
  have HQ := Lib.hid (And.intro h0 (And.intro hqq hrr))
  clear e1 e2 hr hri hq br h0 hqq hrr
  have HL := Lib.hid hL
  obtain ⟨Aa, na, ca, rfl, ea, ha⟩ := ha.parts
  obtain ⟨Ab, nb, cb, rfl, eb, hb⟩ := hb.parts
  have S0 := Lib.hid (And.intro (ht) (And.intro (hza) (And.intro (hzb) (Below.refl w.heap.size w))))
  clear ht hza hzb ha hb la lb ea eb hx hy hL bx bv
  go_enter Tryz.func6, Tryz.ntmps6
  go_upto_region 1 with (fail)
  obtain ⟨h0, h1, hb⟩ := box2 w 24 24 (.bool pa) (.slice Aa na ca) (.bool pb) (.slice Ab nb cb)
  have S1 := Lib.hid (And.intro (S0.out.1.keep (hb)) (And.intro (S0.out.2.1.keep (hb)) (And.intro (S0.out.2.2.1.keep (hb)) (And.intro (h0) (And.intro (h1) (below_trans (S0.out.2.2.2) (hb)))))))
  clear hb h0 h1 S0
  generalize (w.alloc _).alloc _ = W0 at S1 ⊢
  go_wp2_with fail
  refine (speaks_z _ S1.out.1).mono ?_; rintro e w2 ⟨rfl, hb⟩
  have S2 := Lib.hid (And.intro (S1.out.1.keep (hb)) (And.intro (S1.out.2.1.keep (hb)) (And.intro (S1.out.2.2.1.keep (hb)) (And.intro (S1.out.2.2.2.1.keep (hb)) (And.intro (S1.out.2.2.2.2.1.keep (hb)) (below_trans (S1.out.2.2.2.2.2) (hb)))))))
  clear hb  S1
  obtain ⟨aa, ab, -, -⟩ := S2.out.2.2.2.1.facts
  obtain ⟨ba, bb, -, -⟩ := S2.out.2.2.2.2.1.facts
  go_wp2_with fail
  refine (divFloor_z S2.out.2.1 S2.out.2.2.1 (by have := HL.out; omega) (by have := HL.out; omega) HQ.out.1).mono ?_; rintro e w3 ⟨v3, v4, rfl, h, hh⟩
  rw [HQ.out.2.2] at hh
  rw [HQ.out.2.1] at h
  obtain ⟨pq, Aq, lq, cq, rfl, -⟩ := h.parts
  obtain ⟨pr, Ar, lr, cr, rfl, -⟩ := hh.parts
  have S3 := Lib.hid (And.intro (S2.out.1.keep (h.below)) (And.intro (S2.out.2.1.keep (h.below)) (And.intro (S2.out.2.2.1.keep (h.below)) (And.intro (S2.out.2.2.2.1.keep (h.below)) (And.intro (S2.out.2.2.2.2.1.keep (h.below)) (And.intro (h.zn HB.out.1) (And.intro (hh.zn HB.out.2.1) (below_trans (S2.out.2.2.2.2.2) (h.below)))))))))
  clear h hh aa ab ba bb S2
  go_upto_region 4 with (fail)
  obtain ⟨h0, h1, hb⟩ := box2 w3 24 24 (.bool pq) (.slice Aq lq cq) (.bool pr) (.slice Ar lr cr)
  obtain ⟨gq, hgq⟩ : ∃ g, g = w3.heap.size := ⟨_, rfl⟩
  obtain ⟨gr, hgr⟩ : ∃ g, g = w3.heap.size + 1 := ⟨_, rfl⟩
  have S4 := Lib.hid (And.intro (S3.out.1.keep (hb)) (And.intro (S3.out.2.1.keep (hb)) (And.intro (S3.out.2.2.1.keep (hb)) (And.intro (S3.out.2.2.2.1.keep (hb)) (And.intro (S3.out.2.2.2.2.1.keep (hb)) (And.intro (S3.out.2.2.2.2.2.1.keep (hb)) (And.intro (S3.out.2.2.2.2.2.2.1.keep (hb)) (And.intro (h0) (And.intro (h1) (below_trans (S3.out.2.2.2.2.2.2.2) (hb)))))))))))
  clear hb h0 h1 S3
  generalize ((w3.alloc _).alloc _) = Wq at S4 ⊢
  rw [← hgr] at S4 ⊢
  rw [← hgq] at S4 ⊢
  clear hgq hgr
  obtain ⟨ra, rb, -, -⟩ := S4.out.2.2.2.2.2.2.2.2.1.facts
  go_upto_region 6 with (fail)
  have S5 := Lib.hid (And.intro (S4.out.1.keep (below_dr _ 1)) (And.intro (S4.out.2.1.keep (below_dr _ 1)) (And.intro (S4.out.2.2.1.keep (below_dr _ 1)) (And.intro (S4.out.2.2.2.1.keep (below_dr _ 1)) (And.intro (S4.out.2.2.2.2.1.keep (below_dr _ 1)) (And.intro (S4.out.2.2.2.2.2.1.keep (below_dr _ 1)) (And.intro (S4.out.2.2.2.2.2.2.1.keep (below_dr _ 1)) (And.intro (S4.out.2.2.2.2.2.2.2.1.keep (below_dr _ 1)) (And.intro (S4.out.2.2.2.2.2.2.2.2.1.keep (below_dr _ 1)) (below_trans (S4.out.2.2.2.2.2.2.2.2.2) (below_dr _ 1)))))))))))
  go_region_with (first
      | (have hst := S5; clear hst; go_at_call 29; refine (sign_k HE.out.2.2 S5.out.2.2.2.2.2.2.1 (by have := HL.out; omega)).mono ?_; rintro e w6 ⟨rfl, hb⟩; have S6 := Lib.hid (And.intro (S5.out.1.keep (hb)) (And.intro (S5.out.2.1.keep (hb)) (And.intro (S5.out.2.2.1.keep (hb)) (And.intro (S5.out.2.2.2.1.keep (hb)) (And.intro (S5.out.2.2.2.2.1.keep (hb)) (And.intro (S5.out.2.2.2.2.2.1.keep (hb)) (And.intro (S5.out.2.2.2.2.2.2.1.keep (hb)) (And.intro (S5.out.2.2.2.2.2.2.2.1.keep (hb)) (And.intro (S5.out.2.2.2.2.2.2.2.2.1.keep (hb)) (below_trans (S5.out.2.2.2.2.2.2.2.2.2) (hb))))))))))); obtain ⟨ra, rb, -, -⟩ := S6.out.2.2.2.2.2.2.2.2.1.facts; clear hb))
  all_goals
    clear ra rb
    go_upto_region 8 with (fail)
    have S7 := Lib.hid (And.intro (S6.out.1.keep (below_dr _ 1)) (And.intro (S6.out.2.1.keep (below_dr _ 1)) (And.intro (S6.out.2.2.1.keep (below_dr _ 1)) (And.intro (S6.out.2.2.2.1.keep (below_dr _ 1)) (And.intro (S6.out.2.2.2.2.1.keep (below_dr _ 1)) (And.intro (S6.out.2.2.2.2.2.1.keep (below_dr _ 1)) (And.intro (S6.out.2.2.2.2.2.2.1.keep (below_dr _ 1)) (And.intro (S6.out.2.2.2.2.2.2.2.1.keep (below_dr _ 1)) (And.intro (S6.out.2.2.2.2.2.2.2.2.1.keep (below_dr _ 1)) (below_trans (S6.out.2.2.2.2.2.2.2.2.2) (below_dr _ 1)))))))))))
    have HS0 : (w6.drewN 1).cell? ⟨gr, 0, none⟩ = some (.bool pr) ∧ (w6.drewN 1).cell? ⟨gr, 1, none⟩ = some (.slice Ar lr cr) ∧ (w6.drewN 1).cell? ⟨w.heap.size + 1, 0, none⟩ = some (.bool pb) ∧ (w6.drewN 1).cell? ⟨w.heap.size + 1, 1, none⟩ = some (.slice Ab nb cb) := ⟨S7.out.2.2.2.2.2.2.2.2.1.facts.1, S7.out.2.2.2.2.2.2.2.2.1.facts.2.1, S7.out.2.2.2.2.1.facts.1, S7.out.2.2.2.2.1.facts.2.1⟩
    have HS1 := HS0
    have HS2 := HS0
    have HS3 := HS0
    go_region_held3 (fun W => W.cell? ⟨gr, 0, none⟩ = some (.bool pr) ∧ W.cell? ⟨gr, 1, none⟩ = some (.slice Ar lr cr) ∧ W.cell? ⟨w.heap.size + 1, 0, none⟩ = some (.bool pb) ∧ W.cell? ⟨w.heap.size + 1, 1, none⟩ = some (.slice Ab nb cb)) (first | with_reducible exact HS1 | with_reducible exact HS2 | with_reducible exact HS3 | exact HS0)
      (first
        | (have hst := S9; clear hst; go_at_call 30; refine (cmp_k HE.out.2.1 S9.out.2.2.2.2.2.2.2.2.2.1 S9.out.2.2.2.2.2.2.2.2.2.2.1 (by have := HL.out; omega) (by have := HL.out; omega)).mono ?_; rintro e w10 ⟨rfl, hb⟩; have S10 := Lib.hid (And.intro (S9.out.1.keep (hb)) (And.intro (S9.out.2.1.keep (hb)) (And.intro (S9.out.2.2.1.keep (hb)) (And.intro (S9.out.2.2.2.1.keep (hb)) (And.intro (S9.out.2.2.2.2.1.keep (hb)) (And.intro (S9.out.2.2.2.2.2.1.keep (hb)) (And.intro (S9.out.2.2.2.2.2.2.1.keep (hb)) (And.intro (S9.out.2.2.2.2.2.2.2.1.keep (hb)) (And.intro (S9.out.2.2.2.2.2.2.2.2.1.keep (hb)) (below_trans (S9.out.2.2.2.2.2.2.2.2.2.2.2) (hb))))))))))); have HS3 : w10.cell? ⟨gr, 0, none⟩ = some (.bool pr) ∧ w10.cell? ⟨gr, 1, none⟩ = some (.slice Ar lr cr) ∧ w10.cell? ⟨w.heap.size + 1, 0, none⟩ = some (.bool pb) ∧ w10.cell? ⟨w.heap.size + 1, 1, none⟩ = some (.slice Ab nb cb) := ⟨S10.out.2.2.2.2.2.2.2.2.1.facts.1, S10.out.2.2.2.2.2.2.2.2.1.facts.2.1, S10.out.2.2.2.2.1.facts.1, S10.out.2.2.2.2.1.facts.2.1⟩; clear hb)
        | (have hst := S8; clear hst; go_at_call 26; refine (make_z false (Zn.abs S8.out.2.2.1) (by have := HL.out; omega)).mono ?_; rintro e w9 ⟨v, rfl, h⟩; have S9 := Lib.hid (And.intro (S8.out.1.keep (h.below)) (And.intro (S8.out.2.1.keep (h.below)) (And.intro (S8.out.2.2.1.keep (h.below)) (And.intro (S8.out.2.2.2.1.keep (h.below)) (And.intro (S8.out.2.2.2.2.1.keep (h.below)) (And.intro (S8.out.2.2.2.2.2.1.keep (h.below)) (And.intro (S8.out.2.2.2.2.2.2.1.keep (h.below)) (And.intro (S8.out.2.2.2.2.2.2.2.1.keep (h.below)) (And.intro (S8.out.2.2.2.2.2.2.2.2.1.keep (h.below)) (And.intro (S8.out.2.2.2.2.2.2.2.2.2.1.keep (h.below)) (And.intro (h.zn (L := L) (by rw [sg_abs]; exact HB.out.2.2.1)) (below_trans (S8.out.2.2.2.2.2.2.2.2.2.2) (h.below))))))))))))); have HS2 : w9.cell? ⟨gr, 0, none⟩ = some (.bool pr) ∧ w9.cell? ⟨gr, 1, none⟩ = some (.slice Ar lr cr) ∧ w9.cell? ⟨w.heap.size + 1, 0, none⟩ = some (.bool pb) ∧ w9.cell? ⟨w.heap.size + 1, 1, none⟩ = some (.slice Ab nb cb) := ⟨S9.out.2.2.2.2.2.2.2.2.1.facts.1, S9.out.2.2.2.2.2.2.2.2.1.facts.2.1, S9.out.2.2.2.2.1.facts.1, S9.out.2.2.2.2.1.facts.2.1⟩; clear h)
        | (have hst := S7; clear hst; go_at_call 26; refine (make_z false (Zn.abs S7.out.2.2.2.2.2.2.1) (by have := HL.out; omega)).mono ?_; rintro e w8 ⟨v, rfl, h⟩; have S8 := Lib.hid (And.intro (S7.out.1.keep (h.below)) (And.intro (S7.out.2.1.keep (h.below)) (And.intro (S7.out.2.2.1.keep (h.below)) (And.intro (S7.out.2.2.2.1.keep (h.below)) (And.intro (S7.out.2.2.2.2.1.keep (h.below)) (And.intro (S7.out.2.2.2.2.2.1.keep (h.below)) (And.intro (S7.out.2.2.2.2.2.2.1.keep (h.below)) (And.intro (S7.out.2.2.2.2.2.2.2.1.keep (h.below)) (And.intro (S7.out.2.2.2.2.2.2.2.2.1.keep (h.below)) (And.intro (h.zn (L := L) (by rw [sg_abs]; exact HB.out.2.1)) (below_trans (S7.out.2.2.2.2.2.2.2.2.2) (h.below)))))))))))); have HS1 : w8.cell? ⟨gr, 0, none⟩ = some (.bool pr) ∧ w8.cell? ⟨gr, 1, none⟩ = some (.slice Ar lr cr) ∧ w8.cell? ⟨w.heap.size + 1, 0, none⟩ = some (.bool pb) ∧ w8.cell? ⟨w.heap.size + 1, 1, none⟩ = some (.slice Ab nb cb) := ⟨S8.out.2.2.2.2.2.2.2.2.1.facts.1, S8.out.2.2.2.2.2.2.2.2.1.facts.2.1, S8.out.2.2.2.2.1.facts.1, S8.out.2.2.2.2.1.facts.2.1⟩; clear h))
    clear HS0 HS1 HS2 HS3
    go_upto_region 9 with (fail)
    have S11 := Lib.hid (And.intro (S10.out.1.keep (below_dr _ 1)) (And.intro (S10.out.2.1.keep (below_dr _ 1)) (And.intro (S10.out.2.2.1.keep (below_dr _ 1)) (And.intro (S10.out.2.2.2.1.keep (below_dr _ 1)) (And.intro (S10.out.2.2.2.2.1.keep (below_dr _ 1)) (And.intro (S10.out.2.2.2.2.2.1.keep (below_dr _ 1)) (And.intro (S10.out.2.2.2.2.2.2.1.keep (below_dr _ 1)) (And.intro (S10.out.2.2.2.2.2.2.2.1.keep (below_dr _ 1)) (And.intro (S10.out.2.2.2.2.2.2.2.2.1.keep (below_dr _ 1)) (below_trans (S10.out.2.2.2.2.2.2.2.2.2) (below_dr _ 1)))))))))))
    have HS0 : (w10.drewN 1).cell? ⟨gq, 0, none⟩ = some (.bool pq) ∧ (w10.drewN 1).cell? ⟨gq, 1, none⟩ = some (.slice Aq lq cq) ∧ (w10.drewN 1).cell? ⟨w.heap.size + 1, 0, none⟩ = some (.bool pb) ∧ (w10.drewN 1).cell? ⟨w.heap.size + 1, 1, none⟩ = some (.slice Ab nb cb) ∧ (w10.drewN 1).cell? ⟨gr, 0, none⟩ = some (.bool pr) ∧ (w10.drewN 1).cell? ⟨gr, 1, none⟩ = some (.slice Ar lr cr) ∧ (w10.drewN 1).cell? ⟨w.heap.size, 0, none⟩ = some (.bool pa) ∧ (w10.drewN 1).cell? ⟨w.heap.size, 1, none⟩ = some (.slice Aa na ca) := ⟨S11.out.2.2.2.2.2.2.2.1.facts.1, S11.out.2.2.2.2.2.2.2.1.facts.2.1, S11.out.2.2.2.2.1.facts.1, S11.out.2.2.2.2.1.facts.2.1, S11.out.2.2.2.2.2.2.2.2.1.facts.1, S11.out.2.2.2.2.2.2.2.2.1.facts.2.1, S11.out.2.2.2.1.facts.1, S11.out.2.2.2.1.facts.2.1⟩
    have HS1 := HS0
    have HS2 := HS0
    have HS3 := HS0
    go_region_held3 (fun W => W.cell? ⟨gq, 0, none⟩ = some (.bool pq) ∧ W.cell? ⟨gq, 1, none⟩ = some (.slice Aq lq cq) ∧ W.cell? ⟨w.heap.size + 1, 0, none⟩ = some (.bool pb) ∧ W.cell? ⟨w.heap.size + 1, 1, none⟩ = some (.slice Ab nb cb) ∧ W.cell? ⟨gr, 0, none⟩ = some (.bool pr) ∧ W.cell? ⟨gr, 1, none⟩ = some (.slice Ar lr cr) ∧ W.cell? ⟨w.heap.size, 0, none⟩ = some (.bool pa) ∧ W.cell? ⟨w.heap.size, 1, none⟩ = some (.slice Aa na ca)) (first | with_reducible exact HS1 | with_reducible exact HS2 | with_reducible exact HS3 | exact HS0)
      (first
        | (have hst := S13; clear hst; go_at_call 30; refine (cmp_k HE.out.1 S13.out.2.2.2.2.2.2.2.2.2.2.1 S13.out.2.1 (by have := HL.out; omega) (by have := HL.out; omega)).mono ?_; rintro e w14 ⟨rfl, hb⟩; have S14 := Lib.hid (And.intro (S13.out.1.keep (hb)) (And.intro (S13.out.2.1.keep (hb)) (And.intro (S13.out.2.2.1.keep (hb)) (And.intro (S13.out.2.2.2.1.keep (hb)) (And.intro (S13.out.2.2.2.2.1.keep (hb)) (And.intro (S13.out.2.2.2.2.2.1.keep (hb)) (And.intro (S13.out.2.2.2.2.2.2.1.keep (hb)) (And.intro (S13.out.2.2.2.2.2.2.2.1.keep (hb)) (And.intro (S13.out.2.2.2.2.2.2.2.2.1.keep (hb)) (And.intro (S13.out.2.2.2.2.2.2.2.2.2.1.keep (hb)) (And.intro (S13.out.2.2.2.2.2.2.2.2.2.2.1.keep (hb)) (below_trans (S13.out.2.2.2.2.2.2.2.2.2.2.2) (hb))))))))))))); have HS3 : w14.cell? ⟨gq, 0, none⟩ = some (.bool pq) ∧ w14.cell? ⟨gq, 1, none⟩ = some (.slice Aq lq cq) ∧ w14.cell? ⟨w.heap.size + 1, 0, none⟩ = some (.bool pb) ∧ w14.cell? ⟨w.heap.size + 1, 1, none⟩ = some (.slice Ab nb cb) ∧ w14.cell? ⟨gr, 0, none⟩ = some (.bool pr) ∧ w14.cell? ⟨gr, 1, none⟩ = some (.slice Ar lr cr) ∧ w14.cell? ⟨w.heap.size, 0, none⟩ = some (.bool pa) ∧ w14.cell? ⟨w.heap.size, 1, none⟩ = some (.slice Aa na ca) := ⟨S14.out.2.2.2.2.2.2.2.1.facts.1, S14.out.2.2.2.2.2.2.2.1.facts.2.1, S14.out.2.2.2.2.1.facts.1, S14.out.2.2.2.2.1.facts.2.1, S14.out.2.2.2.2.2.2.2.2.1.facts.1, S14.out.2.2.2.2.2.2.2.2.1.facts.2.1, S14.out.2.2.2.1.facts.1, S14.out.2.2.2.1.facts.2.1⟩; clear hb)
        | (have hst := S12; clear hst; go_at_call 32; refine (add_z S12.out.2.2.2.2.2.2.2.2.2.1 S12.out.2.2.2.2.2.2.1 (by have := HL.out; omega) (by have := HL.out; omega)).mono ?_; rintro e w13 ⟨v, rfl, h⟩; have S13 := Lib.hid (And.intro (S12.out.1.keep (h.below)) (And.intro (S12.out.2.1.keep (h.below)) (And.intro (S12.out.2.2.1.keep (h.below)) (And.intro (S12.out.2.2.2.1.keep (h.below)) (And.intro (S12.out.2.2.2.2.1.keep (h.below)) (And.intro (S12.out.2.2.2.2.2.1.keep (h.below)) (And.intro (S12.out.2.2.2.2.2.2.1.keep (h.below)) (And.intro (S12.out.2.2.2.2.2.2.2.1.keep (h.below)) (And.intro (S12.out.2.2.2.2.2.2.2.2.1.keep (h.below)) (And.intro (S12.out.2.2.2.2.2.2.2.2.2.1.keep (h.below)) (And.intro (h.zn HB.out.2.2.2) (below_trans (S12.out.2.2.2.2.2.2.2.2.2.2) (h.below))))))))))))); have HS2 : w13.cell? ⟨gq, 0, none⟩ = some (.bool pq) ∧ w13.cell? ⟨gq, 1, none⟩ = some (.slice Aq lq cq) ∧ w13.cell? ⟨w.heap.size + 1, 0, none⟩ = some (.bool pb) ∧ w13.cell? ⟨w.heap.size + 1, 1, none⟩ = some (.slice Ab nb cb) ∧ w13.cell? ⟨gr, 0, none⟩ = some (.bool pr) ∧ w13.cell? ⟨gr, 1, none⟩ = some (.slice Ar lr cr) ∧ w13.cell? ⟨w.heap.size, 0, none⟩ = some (.bool pa) ∧ w13.cell? ⟨w.heap.size, 1, none⟩ = some (.slice Aa na ca) := ⟨S13.out.2.2.2.2.2.2.2.1.facts.1, S13.out.2.2.2.2.2.2.2.1.facts.2.1, S13.out.2.2.2.2.1.facts.1, S13.out.2.2.2.2.1.facts.2.1, S13.out.2.2.2.2.2.2.2.2.1.facts.1, S13.out.2.2.2.2.2.2.2.2.1.facts.2.1, S13.out.2.2.2.1.facts.1, S13.out.2.2.2.1.facts.2.1⟩; clear h)
        | (have hst := S11; clear hst; go_at_call 34; refine (mul_z S11.out.2.2.2.2.2.1 S11.out.2.2.1 (by have := HL.out; omega) (by have := HL.out; omega)).mono ?_; rintro e w12 ⟨v, rfl, h⟩; have S12 := Lib.hid (And.intro (S11.out.1.keep (h.below)) (And.intro (S11.out.2.1.keep (h.below)) (And.intro (S11.out.2.2.1.keep (h.below)) (And.intro (S11.out.2.2.2.1.keep (h.below)) (And.intro (S11.out.2.2.2.2.1.keep (h.below)) (And.intro (S11.out.2.2.2.2.2.1.keep (h.below)) (And.intro (S11.out.2.2.2.2.2.2.1.keep (h.below)) (And.intro (S11.out.2.2.2.2.2.2.2.1.keep (h.below)) (And.intro (S11.out.2.2.2.2.2.2.2.2.1.keep (h.below)) (And.intro (h.zn (abs_mul HB.out.1 HB.out.2.2.1)) (below_trans (S11.out.2.2.2.2.2.2.2.2.2) (h.below)))))))))))); have HS1 : w12.cell? ⟨gq, 0, none⟩ = some (.bool pq) ∧ w12.cell? ⟨gq, 1, none⟩ = some (.slice Aq lq cq) ∧ w12.cell? ⟨w.heap.size + 1, 0, none⟩ = some (.bool pb) ∧ w12.cell? ⟨w.heap.size + 1, 1, none⟩ = some (.slice Ab nb cb) ∧ w12.cell? ⟨gr, 0, none⟩ = some (.bool pr) ∧ w12.cell? ⟨gr, 1, none⟩ = some (.slice Ar lr cr) ∧ w12.cell? ⟨w.heap.size, 0, none⟩ = some (.bool pa) ∧ w12.cell? ⟨w.heap.size, 1, none⟩ = some (.slice Aa na ca) := ⟨S12.out.2.2.2.2.2.2.2.1.facts.1, S12.out.2.2.2.2.2.2.2.1.facts.2.1, S12.out.2.2.2.2.1.facts.1, S12.out.2.2.2.2.1.facts.2.1, S12.out.2.2.2.2.2.2.2.2.1.facts.1, S12.out.2.2.2.2.2.2.2.2.1.facts.2.1, S12.out.2.2.2.1.facts.1, S12.out.2.2.2.1.facts.2.1⟩; clear h))
    clear HS0 HS1 HS2 HS3
    go_wp2_with fail
    go_ret
    exact ⟨rfl, S14.out.2.2.2.2.2.2.2.2.2.2.2⟩
set_option maxRecDepth 100000 in
set_option maxHeartbeats 2000000 in
theorem zintRests_rp (w : World) (ht : Tab w) {a : Value} {pa : Bool} {xa : List Nat} {b : Value} {pb : Bool} {xb : List Nat} (ha : Zl w a pa xa) (la : xa.length ≤ 1048576) (hb : Zl w b pb xb) (lb : xb.length ≤ 1048576) (h0 : sg pb (val WB xb) ≠ 0) (hr : sg pa (val WB xa) - Int.fdiv (sg pa (val WB xa)) (sg pb (val WB xb)) * sg pb (val WB xb) ≠ 0) (ho : signZ (sg pb (val WB xb)) = 1) :
    Calls Tryz.prog 6 #[a, b] w fun e w' => e = .returned (.bool true) ∧ Below w.heap.size w w' := by
  obtain ⟨L, hL⟩ : ∃ L, L = 1048576 := ⟨_, rfl⟩
  rw [← hL] at la lb
  have bx := zl_abs ha la
  have bv := zl_abs hb lb
  have hza := ha.zn la
  have hzb := hb.zn lb
  obtain ⟨x, hx⟩ : ∃ x, x = sg pa (val WB xa) := ⟨_, rfl⟩
  obtain ⟨y, hy⟩ : ∃ y, y = sg pb (val WB xb) := ⟨_, rfl⟩
  rw [← hx] at bx hza
  rw [← hy] at bv hzb h0
  rw [← hx, ← hy] at hr
  have hri := rest_is (x := x) h0
  have hq := quot_lt h0 bx
  obtain ⟨qq, hqq⟩ : ∃ qq, Int.fdiv x y = qq := ⟨_, rfl⟩
  obtain ⟨r, hrr⟩ : ∃ r, x - Int.fdiv x y * y = r := ⟨_, rfl⟩
  rw [hrr] at hr hri
  rw [hqq] at hq
  have e1 : cmpZ (qq * y + r) x = 0 := by rw [← hqq, ← hrr, show Int.fdiv x y * y + (x - Int.fdiv x y * y) = x by omega]; exact cmpZ_self x
  have e2 : cmpZ (sg false r.natAbs) (sg false y.natAbs) = -1 := by have := hri.1; unfold cmpZ; simp only [sg, Bool.false_eq_true, if_false]; rw [if_pos (by omega)]
  have br := Nat.lt_trans hri.1 bv
  have HB := Lib.hid (And.intro hq (And.intro br (And.intro bv (abs_add WB_one (abs_mul hq bv) br))))
  rw [← hy] at ho
  have ho2 : signZ r = 1 := hri.2.elim (fun h => absurd h hr) (fun h => h.2.trans ho)
  have HE := Lib.hid (And.intro e1 (And.intro e2 (And.intro ho2 ho)))
  clear ho ho2
  have HQ := Lib.hid (And.intro h0 (And.intro hqq hrr))
  clear e1 e2 hr hri hq br h0 hqq hrr
  have HL := Lib.hid hL
  obtain ⟨Aa, na, ca, rfl, ea, ha⟩ := ha.parts
  obtain ⟨Ab, nb, cb, rfl, eb, hb⟩ := hb.parts
  have S0 := Lib.hid (And.intro (ht) (And.intro (hza) (And.intro (hzb) (Below.refl w.heap.size w))))
  clear ht hza hzb ha hb la lb ea eb hx hy hL bx bv
  go_enter Tryz.func6, Tryz.ntmps6
  go_upto_region 1 with (fail)
  obtain ⟨h0, h1, hb⟩ := box2 w 24 24 (.bool pa) (.slice Aa na ca) (.bool pb) (.slice Ab nb cb)
  have S1 := Lib.hid (And.intro (S0.out.1.keep (hb)) (And.intro (S0.out.2.1.keep (hb)) (And.intro (S0.out.2.2.1.keep (hb)) (And.intro (h0) (And.intro (h1) (below_trans (S0.out.2.2.2) (hb)))))))
  clear hb h0 h1 S0
  generalize (w.alloc _).alloc _ = W0 at S1 ⊢
  go_wp2_with fail
  refine (speaks_z _ S1.out.1).mono ?_; rintro e w2 ⟨rfl, hb⟩
  have S2 := Lib.hid (And.intro (S1.out.1.keep (hb)) (And.intro (S1.out.2.1.keep (hb)) (And.intro (S1.out.2.2.1.keep (hb)) (And.intro (S1.out.2.2.2.1.keep (hb)) (And.intro (S1.out.2.2.2.2.1.keep (hb)) (below_trans (S1.out.2.2.2.2.2) (hb)))))))
  clear hb  S1
  obtain ⟨aa, ab, -, -⟩ := S2.out.2.2.2.1.facts
  obtain ⟨ba, bb, -, -⟩ := S2.out.2.2.2.2.1.facts
  go_wp2_with fail
  refine (divFloor_z S2.out.2.1 S2.out.2.2.1 (by have := HL.out; omega) (by have := HL.out; omega) HQ.out.1).mono ?_; rintro e w3 ⟨v3, v4, rfl, h, hh⟩
  rw [HQ.out.2.2] at hh
  rw [HQ.out.2.1] at h
  obtain ⟨pq, Aq, lq, cq, rfl, -⟩ := h.parts
  obtain ⟨pr, Ar, lr, cr, rfl, -⟩ := hh.parts
  have S3 := Lib.hid (And.intro (S2.out.1.keep (h.below)) (And.intro (S2.out.2.1.keep (h.below)) (And.intro (S2.out.2.2.1.keep (h.below)) (And.intro (S2.out.2.2.2.1.keep (h.below)) (And.intro (S2.out.2.2.2.2.1.keep (h.below)) (And.intro (h.zn HB.out.1) (And.intro (hh.zn HB.out.2.1) (below_trans (S2.out.2.2.2.2.2) (h.below)))))))))
  clear h hh aa ab ba bb S2
  go_upto_region 4 with (fail)
  obtain ⟨h0, h1, hb⟩ := box2 w3 24 24 (.bool pq) (.slice Aq lq cq) (.bool pr) (.slice Ar lr cr)
  obtain ⟨gq, hgq⟩ : ∃ g, g = w3.heap.size := ⟨_, rfl⟩
  obtain ⟨gr, hgr⟩ : ∃ g, g = w3.heap.size + 1 := ⟨_, rfl⟩
  have S4 := Lib.hid (And.intro (S3.out.1.keep (hb)) (And.intro (S3.out.2.1.keep (hb)) (And.intro (S3.out.2.2.1.keep (hb)) (And.intro (S3.out.2.2.2.1.keep (hb)) (And.intro (S3.out.2.2.2.2.1.keep (hb)) (And.intro (S3.out.2.2.2.2.2.1.keep (hb)) (And.intro (S3.out.2.2.2.2.2.2.1.keep (hb)) (And.intro (h0) (And.intro (h1) (below_trans (S3.out.2.2.2.2.2.2.2) (hb)))))))))))
  clear hb h0 h1 S3
  generalize ((w3.alloc _).alloc _) = Wq at S4 ⊢
  rw [← hgr] at S4 ⊢
  rw [← hgq] at S4 ⊢
  clear hgq hgr
  go_upto_region 6 with (fail)
  have S5 := Lib.hid (And.intro (S4.out.1.keep (below_dr _ 1)) (And.intro (S4.out.2.1.keep (below_dr _ 1)) (And.intro (S4.out.2.2.1.keep (below_dr _ 1)) (And.intro (S4.out.2.2.2.1.keep (below_dr _ 1)) (And.intro (S4.out.2.2.2.2.1.keep (below_dr _ 1)) (And.intro (S4.out.2.2.2.2.2.1.keep (below_dr _ 1)) (And.intro (S4.out.2.2.2.2.2.2.1.keep (below_dr _ 1)) (And.intro (S4.out.2.2.2.2.2.2.2.1.keep (below_dr _ 1)) (And.intro (S4.out.2.2.2.2.2.2.2.2.1.keep (below_dr _ 1)) (below_trans (S4.out.2.2.2.2.2.2.2.2.2) (below_dr _ 1)))))))))))
  have HS0 : (Wq.drewN 1).cell? ⟨gr, 0, none⟩ = some (.bool pr) ∧ (Wq.drewN 1).cell? ⟨gr, 1, none⟩ = some (.slice Ar lr cr) ∧ (Wq.drewN 1).cell? ⟨w.heap.size + 1, 0, none⟩ = some (.bool pb) ∧ (Wq.drewN 1).cell? ⟨w.heap.size + 1, 1, none⟩ = some (.slice Ab nb cb) := ⟨S5.out.2.2.2.2.2.2.2.2.1.facts.1, S5.out.2.2.2.2.2.2.2.2.1.facts.2.1, S5.out.2.2.2.2.1.facts.1, S5.out.2.2.2.2.1.facts.2.1⟩
  have HS1 := HS0
  have HS2 := HS0
  have HS3 := HS0
  go_region_held3 (fun W => W.cell? ⟨gr, 0, none⟩ = some (.bool pr) ∧ W.cell? ⟨gr, 1, none⟩ = some (.slice Ar lr cr) ∧ W.cell? ⟨w.heap.size + 1, 0, none⟩ = some (.bool pb) ∧ W.cell? ⟨w.heap.size + 1, 1, none⟩ = some (.slice Ab nb cb)) (first | with_reducible exact HS1 | with_reducible exact HS2 | with_reducible exact HS3 | exact HS0)
    (first
      | (have hst := S7; clear hst; go_at_call 29; refine (sign_k HE.out.2.2.2 S7.out.2.2.1 (by have := HL.out; omega)).mono ?_; rintro e w8 ⟨rfl, hb⟩; have S8 := Lib.hid (And.intro (S7.out.1.keep (hb)) (And.intro (S7.out.2.1.keep (hb)) (And.intro (S7.out.2.2.1.keep (hb)) (And.intro (S7.out.2.2.2.1.keep (hb)) (And.intro (S7.out.2.2.2.2.1.keep (hb)) (And.intro (S7.out.2.2.2.2.2.1.keep (hb)) (And.intro (S7.out.2.2.2.2.2.2.1.keep (hb)) (And.intro (S7.out.2.2.2.2.2.2.2.1.keep (hb)) (And.intro (S7.out.2.2.2.2.2.2.2.2.1.keep (hb)) (below_trans (S7.out.2.2.2.2.2.2.2.2.2) (hb))))))))))); have HS3 : w8.cell? ⟨gr, 0, none⟩ = some (.bool pr) ∧ w8.cell? ⟨gr, 1, none⟩ = some (.slice Ar lr cr) ∧ w8.cell? ⟨w.heap.size + 1, 0, none⟩ = some (.bool pb) ∧ w8.cell? ⟨w.heap.size + 1, 1, none⟩ = some (.slice Ab nb cb) := ⟨S8.out.2.2.2.2.2.2.2.2.1.facts.1, S8.out.2.2.2.2.2.2.2.2.1.facts.2.1, S8.out.2.2.2.2.1.facts.1, S8.out.2.2.2.2.1.facts.2.1⟩; clear hb)
      | (have hst := S6; clear hst; go_at_call 29; refine (sign_k HE.out.2.2.1 S6.out.2.2.2.2.2.2.1 (by have := HL.out; omega)).mono ?_; rintro e w7 ⟨rfl, hb⟩; have S7 := Lib.hid (And.intro (S6.out.1.keep (hb)) (And.intro (S6.out.2.1.keep (hb)) (And.intro (S6.out.2.2.1.keep (hb)) (And.intro (S6.out.2.2.2.1.keep (hb)) (And.intro (S6.out.2.2.2.2.1.keep (hb)) (And.intro (S6.out.2.2.2.2.2.1.keep (hb)) (And.intro (S6.out.2.2.2.2.2.2.1.keep (hb)) (And.intro (S6.out.2.2.2.2.2.2.2.1.keep (hb)) (And.intro (S6.out.2.2.2.2.2.2.2.2.1.keep (hb)) (below_trans (S6.out.2.2.2.2.2.2.2.2.2) (hb))))))))))); have HS2 : w7.cell? ⟨gr, 0, none⟩ = some (.bool pr) ∧ w7.cell? ⟨gr, 1, none⟩ = some (.slice Ar lr cr) ∧ w7.cell? ⟨w.heap.size + 1, 0, none⟩ = some (.bool pb) ∧ w7.cell? ⟨w.heap.size + 1, 1, none⟩ = some (.slice Ab nb cb) := ⟨S7.out.2.2.2.2.2.2.2.2.1.facts.1, S7.out.2.2.2.2.2.2.2.2.1.facts.2.1, S7.out.2.2.2.2.1.facts.1, S7.out.2.2.2.2.1.facts.2.1⟩; clear hb)
      | (have hst := S5; clear hst; go_at_call 29; refine (sign_k HE.out.2.2.1 S5.out.2.2.2.2.2.2.1 (by have := HL.out; omega)).mono ?_; rintro e w6 ⟨rfl, hb⟩; have S6 := Lib.hid (And.intro (S5.out.1.keep (hb)) (And.intro (S5.out.2.1.keep (hb)) (And.intro (S5.out.2.2.1.keep (hb)) (And.intro (S5.out.2.2.2.1.keep (hb)) (And.intro (S5.out.2.2.2.2.1.keep (hb)) (And.intro (S5.out.2.2.2.2.2.1.keep (hb)) (And.intro (S5.out.2.2.2.2.2.2.1.keep (hb)) (And.intro (S5.out.2.2.2.2.2.2.2.1.keep (hb)) (And.intro (S5.out.2.2.2.2.2.2.2.2.1.keep (hb)) (below_trans (S5.out.2.2.2.2.2.2.2.2.2) (hb))))))))))); have HS1 : w6.cell? ⟨gr, 0, none⟩ = some (.bool pr) ∧ w6.cell? ⟨gr, 1, none⟩ = some (.slice Ar lr cr) ∧ w6.cell? ⟨w.heap.size + 1, 0, none⟩ = some (.bool pb) ∧ w6.cell? ⟨w.heap.size + 1, 1, none⟩ = some (.slice Ab nb cb) := ⟨S6.out.2.2.2.2.2.2.2.2.1.facts.1, S6.out.2.2.2.2.2.2.2.2.1.facts.2.1, S6.out.2.2.2.2.1.facts.1, S6.out.2.2.2.2.1.facts.2.1⟩; clear hb))
  clear HS0 HS1 HS2 HS3
  go_upto_region 8 with (fail)
  have S9 := Lib.hid (And.intro (S8.out.1.keep (below_dr _ 1)) (And.intro (S8.out.2.1.keep (below_dr _ 1)) (And.intro (S8.out.2.2.1.keep (below_dr _ 1)) (And.intro (S8.out.2.2.2.1.keep (below_dr _ 1)) (And.intro (S8.out.2.2.2.2.1.keep (below_dr _ 1)) (And.intro (S8.out.2.2.2.2.2.1.keep (below_dr _ 1)) (And.intro (S8.out.2.2.2.2.2.2.1.keep (below_dr _ 1)) (And.intro (S8.out.2.2.2.2.2.2.2.1.keep (below_dr _ 1)) (And.intro (S8.out.2.2.2.2.2.2.2.2.1.keep (below_dr _ 1)) (below_trans (S8.out.2.2.2.2.2.2.2.2.2) (below_dr _ 1)))))))))))
  have HS0 : (w8.drewN 1).cell? ⟨gr, 0, none⟩ = some (.bool pr) ∧ (w8.drewN 1).cell? ⟨gr, 1, none⟩ = some (.slice Ar lr cr) ∧ (w8.drewN 1).cell? ⟨w.heap.size + 1, 0, none⟩ = some (.bool pb) ∧ (w8.drewN 1).cell? ⟨w.heap.size + 1, 1, none⟩ = some (.slice Ab nb cb) := ⟨S9.out.2.2.2.2.2.2.2.2.1.facts.1, S9.out.2.2.2.2.2.2.2.2.1.facts.2.1, S9.out.2.2.2.2.1.facts.1, S9.out.2.2.2.2.1.facts.2.1⟩
  have HS1 := HS0
  have HS2 := HS0
  have HS3 := HS0
  go_region_held3 (fun W => W.cell? ⟨gr, 0, none⟩ = some (.bool pr) ∧ W.cell? ⟨gr, 1, none⟩ = some (.slice Ar lr cr) ∧ W.cell? ⟨w.heap.size + 1, 0, none⟩ = some (.bool pb) ∧ W.cell? ⟨w.heap.size + 1, 1, none⟩ = some (.slice Ab nb cb)) (first | with_reducible exact HS1 | with_reducible exact HS2 | with_reducible exact HS3 | exact HS0)
    (first
      | (have hst := S11; clear hst; go_at_call 30; refine (cmp_k HE.out.2.1 S11.out.2.2.2.2.2.2.2.2.2.1 S11.out.2.2.2.2.2.2.2.2.2.2.1 (by have := HL.out; omega) (by have := HL.out; omega)).mono ?_; rintro e w12 ⟨rfl, hb⟩; have S12 := Lib.hid (And.intro (S11.out.1.keep (hb)) (And.intro (S11.out.2.1.keep (hb)) (And.intro (S11.out.2.2.1.keep (hb)) (And.intro (S11.out.2.2.2.1.keep (hb)) (And.intro (S11.out.2.2.2.2.1.keep (hb)) (And.intro (S11.out.2.2.2.2.2.1.keep (hb)) (And.intro (S11.out.2.2.2.2.2.2.1.keep (hb)) (And.intro (S11.out.2.2.2.2.2.2.2.1.keep (hb)) (And.intro (S11.out.2.2.2.2.2.2.2.2.1.keep (hb)) (below_trans (S11.out.2.2.2.2.2.2.2.2.2.2.2) (hb))))))))))); have HS3 : w12.cell? ⟨gr, 0, none⟩ = some (.bool pr) ∧ w12.cell? ⟨gr, 1, none⟩ = some (.slice Ar lr cr) ∧ w12.cell? ⟨w.heap.size + 1, 0, none⟩ = some (.bool pb) ∧ w12.cell? ⟨w.heap.size + 1, 1, none⟩ = some (.slice Ab nb cb) := ⟨S12.out.2.2.2.2.2.2.2.2.1.facts.1, S12.out.2.2.2.2.2.2.2.2.1.facts.2.1, S12.out.2.2.2.2.1.facts.1, S12.out.2.2.2.2.1.facts.2.1⟩; clear hb)
      | (have hst := S10; clear hst; go_at_call 26; refine (make_z false (Zn.abs S10.out.2.2.1) (by have := HL.out; omega)).mono ?_; rintro e w11 ⟨v, rfl, h⟩; have S11 := Lib.hid (And.intro (S10.out.1.keep (h.below)) (And.intro (S10.out.2.1.keep (h.below)) (And.intro (S10.out.2.2.1.keep (h.below)) (And.intro (S10.out.2.2.2.1.keep (h.below)) (And.intro (S10.out.2.2.2.2.1.keep (h.below)) (And.intro (S10.out.2.2.2.2.2.1.keep (h.below)) (And.intro (S10.out.2.2.2.2.2.2.1.keep (h.below)) (And.intro (S10.out.2.2.2.2.2.2.2.1.keep (h.below)) (And.intro (S10.out.2.2.2.2.2.2.2.2.1.keep (h.below)) (And.intro (S10.out.2.2.2.2.2.2.2.2.2.1.keep (h.below)) (And.intro (h.zn (L := L) (by rw [sg_abs]; exact HB.out.2.2.1)) (below_trans (S10.out.2.2.2.2.2.2.2.2.2.2) (h.below))))))))))))); have HS2 : w11.cell? ⟨gr, 0, none⟩ = some (.bool pr) ∧ w11.cell? ⟨gr, 1, none⟩ = some (.slice Ar lr cr) ∧ w11.cell? ⟨w.heap.size + 1, 0, none⟩ = some (.bool pb) ∧ w11.cell? ⟨w.heap.size + 1, 1, none⟩ = some (.slice Ab nb cb) := ⟨S11.out.2.2.2.2.2.2.2.2.1.facts.1, S11.out.2.2.2.2.2.2.2.2.1.facts.2.1, S11.out.2.2.2.2.1.facts.1, S11.out.2.2.2.2.1.facts.2.1⟩; clear h)
      | (have hst := S9; clear hst; go_at_call 26; refine (make_z false (Zn.abs S9.out.2.2.2.2.2.2.1) (by have := HL.out; omega)).mono ?_; rintro e w10 ⟨v, rfl, h⟩; have S10 := Lib.hid (And.intro (S9.out.1.keep (h.below)) (And.intro (S9.out.2.1.keep (h.below)) (And.intro (S9.out.2.2.1.keep (h.below)) (And.intro (S9.out.2.2.2.1.keep (h.below)) (And.intro (S9.out.2.2.2.2.1.keep (h.below)) (And.intro (S9.out.2.2.2.2.2.1.keep (h.below)) (And.intro (S9.out.2.2.2.2.2.2.1.keep (h.below)) (And.intro (S9.out.2.2.2.2.2.2.2.1.keep (h.below)) (And.intro (S9.out.2.2.2.2.2.2.2.2.1.keep (h.below)) (And.intro (h.zn (L := L) (by rw [sg_abs]; exact HB.out.2.1)) (below_trans (S9.out.2.2.2.2.2.2.2.2.2) (h.below)))))))))))); have HS1 : w10.cell? ⟨gr, 0, none⟩ = some (.bool pr) ∧ w10.cell? ⟨gr, 1, none⟩ = some (.slice Ar lr cr) ∧ w10.cell? ⟨w.heap.size + 1, 0, none⟩ = some (.bool pb) ∧ w10.cell? ⟨w.heap.size + 1, 1, none⟩ = some (.slice Ab nb cb) := ⟨S10.out.2.2.2.2.2.2.2.2.1.facts.1, S10.out.2.2.2.2.2.2.2.2.1.facts.2.1, S10.out.2.2.2.2.1.facts.1, S10.out.2.2.2.2.1.facts.2.1⟩; clear h))
  clear HS0 HS1 HS2 HS3
  go_upto_region 9 with (fail)
  have S13 := Lib.hid (And.intro (S12.out.1.keep (below_dr _ 1)) (And.intro (S12.out.2.1.keep (below_dr _ 1)) (And.intro (S12.out.2.2.1.keep (below_dr _ 1)) (And.intro (S12.out.2.2.2.1.keep (below_dr _ 1)) (And.intro (S12.out.2.2.2.2.1.keep (below_dr _ 1)) (And.intro (S12.out.2.2.2.2.2.1.keep (below_dr _ 1)) (And.intro (S12.out.2.2.2.2.2.2.1.keep (below_dr _ 1)) (And.intro (S12.out.2.2.2.2.2.2.2.1.keep (below_dr _ 1)) (And.intro (S12.out.2.2.2.2.2.2.2.2.1.keep (below_dr _ 1)) (below_trans (S12.out.2.2.2.2.2.2.2.2.2) (below_dr _ 1)))))))))))
  have HS0 : (w12.drewN 1).cell? ⟨gq, 0, none⟩ = some (.bool pq) ∧ (w12.drewN 1).cell? ⟨gq, 1, none⟩ = some (.slice Aq lq cq) ∧ (w12.drewN 1).cell? ⟨w.heap.size + 1, 0, none⟩ = some (.bool pb) ∧ (w12.drewN 1).cell? ⟨w.heap.size + 1, 1, none⟩ = some (.slice Ab nb cb) ∧ (w12.drewN 1).cell? ⟨gr, 0, none⟩ = some (.bool pr) ∧ (w12.drewN 1).cell? ⟨gr, 1, none⟩ = some (.slice Ar lr cr) ∧ (w12.drewN 1).cell? ⟨w.heap.size, 0, none⟩ = some (.bool pa) ∧ (w12.drewN 1).cell? ⟨w.heap.size, 1, none⟩ = some (.slice Aa na ca) := ⟨S13.out.2.2.2.2.2.2.2.1.facts.1, S13.out.2.2.2.2.2.2.2.1.facts.2.1, S13.out.2.2.2.2.1.facts.1, S13.out.2.2.2.2.1.facts.2.1, S13.out.2.2.2.2.2.2.2.2.1.facts.1, S13.out.2.2.2.2.2.2.2.2.1.facts.2.1, S13.out.2.2.2.1.facts.1, S13.out.2.2.2.1.facts.2.1⟩
  have HS1 := HS0
  have HS2 := HS0
  have HS3 := HS0
  go_region_held3 (fun W => W.cell? ⟨gq, 0, none⟩ = some (.bool pq) ∧ W.cell? ⟨gq, 1, none⟩ = some (.slice Aq lq cq) ∧ W.cell? ⟨w.heap.size + 1, 0, none⟩ = some (.bool pb) ∧ W.cell? ⟨w.heap.size + 1, 1, none⟩ = some (.slice Ab nb cb) ∧ W.cell? ⟨gr, 0, none⟩ = some (.bool pr) ∧ W.cell? ⟨gr, 1, none⟩ = some (.slice Ar lr cr) ∧ W.cell? ⟨w.heap.size, 0, none⟩ = some (.bool pa) ∧ W.cell? ⟨w.heap.size, 1, none⟩ = some (.slice Aa na ca)) (first | with_reducible exact HS1 | with_reducible exact HS2 | with_reducible exact HS3 | exact HS0)
    (first
      | (have hst := S15; clear hst; go_at_call 30; refine (cmp_k HE.out.1 S15.out.2.2.2.2.2.2.2.2.2.2.1 S15.out.2.1 (by have := HL.out; omega) (by have := HL.out; omega)).mono ?_; rintro e w16 ⟨rfl, hb⟩; have S16 := Lib.hid (And.intro (S15.out.1.keep (hb)) (And.intro (S15.out.2.1.keep (hb)) (And.intro (S15.out.2.2.1.keep (hb)) (And.intro (S15.out.2.2.2.1.keep (hb)) (And.intro (S15.out.2.2.2.2.1.keep (hb)) (And.intro (S15.out.2.2.2.2.2.1.keep (hb)) (And.intro (S15.out.2.2.2.2.2.2.1.keep (hb)) (And.intro (S15.out.2.2.2.2.2.2.2.1.keep (hb)) (And.intro (S15.out.2.2.2.2.2.2.2.2.1.keep (hb)) (And.intro (S15.out.2.2.2.2.2.2.2.2.2.1.keep (hb)) (And.intro (S15.out.2.2.2.2.2.2.2.2.2.2.1.keep (hb)) (below_trans (S15.out.2.2.2.2.2.2.2.2.2.2.2) (hb))))))))))))); have HS3 : w16.cell? ⟨gq, 0, none⟩ = some (.bool pq) ∧ w16.cell? ⟨gq, 1, none⟩ = some (.slice Aq lq cq) ∧ w16.cell? ⟨w.heap.size + 1, 0, none⟩ = some (.bool pb) ∧ w16.cell? ⟨w.heap.size + 1, 1, none⟩ = some (.slice Ab nb cb) ∧ w16.cell? ⟨gr, 0, none⟩ = some (.bool pr) ∧ w16.cell? ⟨gr, 1, none⟩ = some (.slice Ar lr cr) ∧ w16.cell? ⟨w.heap.size, 0, none⟩ = some (.bool pa) ∧ w16.cell? ⟨w.heap.size, 1, none⟩ = some (.slice Aa na ca) := ⟨S16.out.2.2.2.2.2.2.2.1.facts.1, S16.out.2.2.2.2.2.2.2.1.facts.2.1, S16.out.2.2.2.2.1.facts.1, S16.out.2.2.2.2.1.facts.2.1, S16.out.2.2.2.2.2.2.2.2.1.facts.1, S16.out.2.2.2.2.2.2.2.2.1.facts.2.1, S16.out.2.2.2.1.facts.1, S16.out.2.2.2.1.facts.2.1⟩; clear hb)
      | (have hst := S14; clear hst; go_at_call 32; refine (add_z S14.out.2.2.2.2.2.2.2.2.2.1 S14.out.2.2.2.2.2.2.1 (by have := HL.out; omega) (by have := HL.out; omega)).mono ?_; rintro e w15 ⟨v, rfl, h⟩; have S15 := Lib.hid (And.intro (S14.out.1.keep (h.below)) (And.intro (S14.out.2.1.keep (h.below)) (And.intro (S14.out.2.2.1.keep (h.below)) (And.intro (S14.out.2.2.2.1.keep (h.below)) (And.intro (S14.out.2.2.2.2.1.keep (h.below)) (And.intro (S14.out.2.2.2.2.2.1.keep (h.below)) (And.intro (S14.out.2.2.2.2.2.2.1.keep (h.below)) (And.intro (S14.out.2.2.2.2.2.2.2.1.keep (h.below)) (And.intro (S14.out.2.2.2.2.2.2.2.2.1.keep (h.below)) (And.intro (S14.out.2.2.2.2.2.2.2.2.2.1.keep (h.below)) (And.intro (h.zn HB.out.2.2.2) (below_trans (S14.out.2.2.2.2.2.2.2.2.2.2) (h.below))))))))))))); have HS2 : w15.cell? ⟨gq, 0, none⟩ = some (.bool pq) ∧ w15.cell? ⟨gq, 1, none⟩ = some (.slice Aq lq cq) ∧ w15.cell? ⟨w.heap.size + 1, 0, none⟩ = some (.bool pb) ∧ w15.cell? ⟨w.heap.size + 1, 1, none⟩ = some (.slice Ab nb cb) ∧ w15.cell? ⟨gr, 0, none⟩ = some (.bool pr) ∧ w15.cell? ⟨gr, 1, none⟩ = some (.slice Ar lr cr) ∧ w15.cell? ⟨w.heap.size, 0, none⟩ = some (.bool pa) ∧ w15.cell? ⟨w.heap.size, 1, none⟩ = some (.slice Aa na ca) := ⟨S15.out.2.2.2.2.2.2.2.1.facts.1, S15.out.2.2.2.2.2.2.2.1.facts.2.1, S15.out.2.2.2.2.1.facts.1, S15.out.2.2.2.2.1.facts.2.1, S15.out.2.2.2.2.2.2.2.2.1.facts.1, S15.out.2.2.2.2.2.2.2.2.1.facts.2.1, S15.out.2.2.2.1.facts.1, S15.out.2.2.2.1.facts.2.1⟩; clear h)
      | (have hst := S13; clear hst; go_at_call 34; refine (mul_z S13.out.2.2.2.2.2.1 S13.out.2.2.1 (by have := HL.out; omega) (by have := HL.out; omega)).mono ?_; rintro e w14 ⟨v, rfl, h⟩; have S14 := Lib.hid (And.intro (S13.out.1.keep (h.below)) (And.intro (S13.out.2.1.keep (h.below)) (And.intro (S13.out.2.2.1.keep (h.below)) (And.intro (S13.out.2.2.2.1.keep (h.below)) (And.intro (S13.out.2.2.2.2.1.keep (h.below)) (And.intro (S13.out.2.2.2.2.2.1.keep (h.below)) (And.intro (S13.out.2.2.2.2.2.2.1.keep (h.below)) (And.intro (S13.out.2.2.2.2.2.2.2.1.keep (h.below)) (And.intro (S13.out.2.2.2.2.2.2.2.2.1.keep (h.below)) (And.intro (h.zn (abs_mul HB.out.1 HB.out.2.2.1)) (below_trans (S13.out.2.2.2.2.2.2.2.2.2) (h.below)))))))))))); have HS1 : w14.cell? ⟨gq, 0, none⟩ = some (.bool pq) ∧ w14.cell? ⟨gq, 1, none⟩ = some (.slice Aq lq cq) ∧ w14.cell? ⟨w.heap.size + 1, 0, none⟩ = some (.bool pb) ∧ w14.cell? ⟨w.heap.size + 1, 1, none⟩ = some (.slice Ab nb cb) ∧ w14.cell? ⟨gr, 0, none⟩ = some (.bool pr) ∧ w14.cell? ⟨gr, 1, none⟩ = some (.slice Ar lr cr) ∧ w14.cell? ⟨w.heap.size, 0, none⟩ = some (.bool pa) ∧ w14.cell? ⟨w.heap.size, 1, none⟩ = some (.slice Aa na ca) := ⟨S14.out.2.2.2.2.2.2.2.1.facts.1, S14.out.2.2.2.2.2.2.2.1.facts.2.1, S14.out.2.2.2.2.1.facts.1, S14.out.2.2.2.2.1.facts.2.1, S14.out.2.2.2.2.2.2.2.2.1.facts.1, S14.out.2.2.2.2.2.2.2.2.1.facts.2.1, S14.out.2.2.2.1.facts.1, S14.out.2.2.2.1.facts.2.1⟩; clear h))
  clear HS0 HS1 HS2 HS3
  go_wp2_with fail
  go_ret
  exact ⟨rfl, S16.out.2.2.2.2.2.2.2.2.2.2.2⟩
set_option maxRecDepth 100000 in
set_option maxHeartbeats 2000000 in
theorem zintRests_rm (w : World) (ht : Tab w) {a : Value} {pa : Bool} {xa : List Nat} {b : Value} {pb : Bool} {xb : List Nat} (ha : Zl w a pa xa) (la : xa.length ≤ 1048576) (hb : Zl w b pb xb) (lb : xb.length ≤ 1048576) (h0 : sg pb (val WB xb) ≠ 0) (hr : sg pa (val WB xa) - Int.fdiv (sg pa (val WB xa)) (sg pb (val WB xb)) * sg pb (val WB xb) ≠ 0) (ho : signZ (sg pb (val WB xb)) = -1) :
    Calls Tryz.prog 6 #[a, b] w fun e w' => e = .returned (.bool true) ∧ Below w.heap.size w w' := by
  obtain ⟨L, hL⟩ : ∃ L, L = 1048576 := ⟨_, rfl⟩
  rw [← hL] at la lb
  have bx := zl_abs ha la
  have bv := zl_abs hb lb
  have hza := ha.zn la
  have hzb := hb.zn lb
  obtain ⟨x, hx⟩ : ∃ x, x = sg pa (val WB xa) := ⟨_, rfl⟩
  obtain ⟨y, hy⟩ : ∃ y, y = sg pb (val WB xb) := ⟨_, rfl⟩
  rw [← hx] at bx hza
  rw [← hy] at bv hzb h0
  rw [← hx, ← hy] at hr
  have hri := rest_is (x := x) h0
  have hq := quot_lt h0 bx
  obtain ⟨qq, hqq⟩ : ∃ qq, Int.fdiv x y = qq := ⟨_, rfl⟩
  obtain ⟨r, hrr⟩ : ∃ r, x - Int.fdiv x y * y = r := ⟨_, rfl⟩
  rw [hrr] at hr hri
  rw [hqq] at hq
  have e1 : cmpZ (qq * y + r) x = 0 := by rw [← hqq, ← hrr, show Int.fdiv x y * y + (x - Int.fdiv x y * y) = x by omega]; exact cmpZ_self x
  have e2 : cmpZ (sg false r.natAbs) (sg false y.natAbs) = -1 := by have := hri.1; unfold cmpZ; simp only [sg, Bool.false_eq_true, if_false]; rw [if_pos (by omega)]
  have br := Nat.lt_trans hri.1 bv
  have HB := Lib.hid (And.intro hq (And.intro br (And.intro bv (abs_add WB_one (abs_mul hq bv) br))))
  rw [← hy] at ho
  have ho2 : signZ r = -1 := hri.2.elim (fun h => absurd h hr) (fun h => h.2.trans ho)
  have HE := Lib.hid (And.intro e1 (And.intro e2 (And.intro ho2 ho)))
  clear ho ho2
  have HQ := Lib.hid (And.intro h0 (And.intro hqq hrr))
  clear e1 e2 hr hri hq br h0 hqq hrr
  have HL := Lib.hid hL
  obtain ⟨Aa, na, ca, rfl, ea, ha⟩ := ha.parts
  obtain ⟨Ab, nb, cb, rfl, eb, hb⟩ := hb.parts
  have S0 := Lib.hid (And.intro (ht) (And.intro (hza) (And.intro (hzb) (Below.refl w.heap.size w))))
  clear ht hza hzb ha hb la lb ea eb hx hy hL bx bv
  go_enter Tryz.func6, Tryz.ntmps6
  go_upto_region 1 with (fail)
  obtain ⟨h0, h1, hb⟩ := box2 w 24 24 (.bool pa) (.slice Aa na ca) (.bool pb) (.slice Ab nb cb)
  have S1 := Lib.hid (And.intro (S0.out.1.keep (hb)) (And.intro (S0.out.2.1.keep (hb)) (And.intro (S0.out.2.2.1.keep (hb)) (And.intro (h0) (And.intro (h1) (below_trans (S0.out.2.2.2) (hb)))))))
  clear hb h0 h1 S0
  generalize (w.alloc _).alloc _ = W0 at S1 ⊢
  go_wp2_with fail
  refine (speaks_z _ S1.out.1).mono ?_; rintro e w2 ⟨rfl, hb⟩
  have S2 := Lib.hid (And.intro (S1.out.1.keep (hb)) (And.intro (S1.out.2.1.keep (hb)) (And.intro (S1.out.2.2.1.keep (hb)) (And.intro (S1.out.2.2.2.1.keep (hb)) (And.intro (S1.out.2.2.2.2.1.keep (hb)) (below_trans (S1.out.2.2.2.2.2) (hb)))))))
  clear hb  S1
  obtain ⟨aa, ab, -, -⟩ := S2.out.2.2.2.1.facts
  obtain ⟨ba, bb, -, -⟩ := S2.out.2.2.2.2.1.facts
  go_wp2_with fail
  refine (divFloor_z S2.out.2.1 S2.out.2.2.1 (by have := HL.out; omega) (by have := HL.out; omega) HQ.out.1).mono ?_; rintro e w3 ⟨v3, v4, rfl, h, hh⟩
  rw [HQ.out.2.2] at hh
  rw [HQ.out.2.1] at h
  obtain ⟨pq, Aq, lq, cq, rfl, -⟩ := h.parts
  obtain ⟨pr, Ar, lr, cr, rfl, -⟩ := hh.parts
  have S3 := Lib.hid (And.intro (S2.out.1.keep (h.below)) (And.intro (S2.out.2.1.keep (h.below)) (And.intro (S2.out.2.2.1.keep (h.below)) (And.intro (S2.out.2.2.2.1.keep (h.below)) (And.intro (S2.out.2.2.2.2.1.keep (h.below)) (And.intro (h.zn HB.out.1) (And.intro (hh.zn HB.out.2.1) (below_trans (S2.out.2.2.2.2.2) (h.below)))))))))
  clear h hh aa ab ba bb S2
  go_upto_region 4 with (fail)
  obtain ⟨h0, h1, hb⟩ := box2 w3 24 24 (.bool pq) (.slice Aq lq cq) (.bool pr) (.slice Ar lr cr)
  obtain ⟨gq, hgq⟩ : ∃ g, g = w3.heap.size := ⟨_, rfl⟩
  obtain ⟨gr, hgr⟩ : ∃ g, g = w3.heap.size + 1 := ⟨_, rfl⟩
  have S4 := Lib.hid (And.intro (S3.out.1.keep (hb)) (And.intro (S3.out.2.1.keep (hb)) (And.intro (S3.out.2.2.1.keep (hb)) (And.intro (S3.out.2.2.2.1.keep (hb)) (And.intro (S3.out.2.2.2.2.1.keep (hb)) (And.intro (S3.out.2.2.2.2.2.1.keep (hb)) (And.intro (S3.out.2.2.2.2.2.2.1.keep (hb)) (And.intro (h0) (And.intro (h1) (below_trans (S3.out.2.2.2.2.2.2.2) (hb)))))))))))
  clear hb h0 h1 S3
  generalize ((w3.alloc _).alloc _) = Wq at S4 ⊢
  rw [← hgr] at S4 ⊢
  rw [← hgq] at S4 ⊢
  clear hgq hgr
  go_upto_region 6 with (fail)
  have S5 := Lib.hid (And.intro (S4.out.1.keep (below_dr _ 1)) (And.intro (S4.out.2.1.keep (below_dr _ 1)) (And.intro (S4.out.2.2.1.keep (below_dr _ 1)) (And.intro (S4.out.2.2.2.1.keep (below_dr _ 1)) (And.intro (S4.out.2.2.2.2.1.keep (below_dr _ 1)) (And.intro (S4.out.2.2.2.2.2.1.keep (below_dr _ 1)) (And.intro (S4.out.2.2.2.2.2.2.1.keep (below_dr _ 1)) (And.intro (S4.out.2.2.2.2.2.2.2.1.keep (below_dr _ 1)) (And.intro (S4.out.2.2.2.2.2.2.2.2.1.keep (below_dr _ 1)) (below_trans (S4.out.2.2.2.2.2.2.2.2.2) (below_dr _ 1)))))))))))
  have HS0 : (Wq.drewN 1).cell? ⟨gr, 0, none⟩ = some (.bool pr) ∧ (Wq.drewN 1).cell? ⟨gr, 1, none⟩ = some (.slice Ar lr cr) ∧ (Wq.drewN 1).cell? ⟨w.heap.size + 1, 0, none⟩ = some (.bool pb) ∧ (Wq.drewN 1).cell? ⟨w.heap.size + 1, 1, none⟩ = some (.slice Ab nb cb) := ⟨S5.out.2.2.2.2.2.2.2.2.1.facts.1, S5.out.2.2.2.2.2.2.2.2.1.facts.2.1, S5.out.2.2.2.2.1.facts.1, S5.out.2.2.2.2.1.facts.2.1⟩
  have HS1 := HS0
  have HS2 := HS0
  have HS3 := HS0
  go_region_held3 (fun W => W.cell? ⟨gr, 0, none⟩ = some (.bool pr) ∧ W.cell? ⟨gr, 1, none⟩ = some (.slice Ar lr cr) ∧ W.cell? ⟨w.heap.size + 1, 0, none⟩ = some (.bool pb) ∧ W.cell? ⟨w.heap.size + 1, 1, none⟩ = some (.slice Ab nb cb)) (first | with_reducible exact HS1 | with_reducible exact HS2 | with_reducible exact HS3 | exact HS0)
    (first
      | (have hst := S7; clear hst; go_at_call 29; refine (sign_k HE.out.2.2.2 S7.out.2.2.1 (by have := HL.out; omega)).mono ?_; rintro e w8 ⟨rfl, hb⟩; have S8 := Lib.hid (And.intro (S7.out.1.keep (hb)) (And.intro (S7.out.2.1.keep (hb)) (And.intro (S7.out.2.2.1.keep (hb)) (And.intro (S7.out.2.2.2.1.keep (hb)) (And.intro (S7.out.2.2.2.2.1.keep (hb)) (And.intro (S7.out.2.2.2.2.2.1.keep (hb)) (And.intro (S7.out.2.2.2.2.2.2.1.keep (hb)) (And.intro (S7.out.2.2.2.2.2.2.2.1.keep (hb)) (And.intro (S7.out.2.2.2.2.2.2.2.2.1.keep (hb)) (below_trans (S7.out.2.2.2.2.2.2.2.2.2) (hb))))))))))); have HS3 : w8.cell? ⟨gr, 0, none⟩ = some (.bool pr) ∧ w8.cell? ⟨gr, 1, none⟩ = some (.slice Ar lr cr) ∧ w8.cell? ⟨w.heap.size + 1, 0, none⟩ = some (.bool pb) ∧ w8.cell? ⟨w.heap.size + 1, 1, none⟩ = some (.slice Ab nb cb) := ⟨S8.out.2.2.2.2.2.2.2.2.1.facts.1, S8.out.2.2.2.2.2.2.2.2.1.facts.2.1, S8.out.2.2.2.2.1.facts.1, S8.out.2.2.2.2.1.facts.2.1⟩; clear hb)
      | (have hst := S6; clear hst; go_at_call 29; refine (sign_k HE.out.2.2.1 S6.out.2.2.2.2.2.2.1 (by have := HL.out; omega)).mono ?_; rintro e w7 ⟨rfl, hb⟩; have S7 := Lib.hid (And.intro (S6.out.1.keep (hb)) (And.intro (S6.out.2.1.keep (hb)) (And.intro (S6.out.2.2.1.keep (hb)) (And.intro (S6.out.2.2.2.1.keep (hb)) (And.intro (S6.out.2.2.2.2.1.keep (hb)) (And.intro (S6.out.2.2.2.2.2.1.keep (hb)) (And.intro (S6.out.2.2.2.2.2.2.1.keep (hb)) (And.intro (S6.out.2.2.2.2.2.2.2.1.keep (hb)) (And.intro (S6.out.2.2.2.2.2.2.2.2.1.keep (hb)) (below_trans (S6.out.2.2.2.2.2.2.2.2.2) (hb))))))))))); have HS2 : w7.cell? ⟨gr, 0, none⟩ = some (.bool pr) ∧ w7.cell? ⟨gr, 1, none⟩ = some (.slice Ar lr cr) ∧ w7.cell? ⟨w.heap.size + 1, 0, none⟩ = some (.bool pb) ∧ w7.cell? ⟨w.heap.size + 1, 1, none⟩ = some (.slice Ab nb cb) := ⟨S7.out.2.2.2.2.2.2.2.2.1.facts.1, S7.out.2.2.2.2.2.2.2.2.1.facts.2.1, S7.out.2.2.2.2.1.facts.1, S7.out.2.2.2.2.1.facts.2.1⟩; clear hb)
      | (have hst := S5; clear hst; go_at_call 29; refine (sign_k HE.out.2.2.1 S5.out.2.2.2.2.2.2.1 (by have := HL.out; omega)).mono ?_; rintro e w6 ⟨rfl, hb⟩; have S6 := Lib.hid (And.intro (S5.out.1.keep (hb)) (And.intro (S5.out.2.1.keep (hb)) (And.intro (S5.out.2.2.1.keep (hb)) (And.intro (S5.out.2.2.2.1.keep (hb)) (And.intro (S5.out.2.2.2.2.1.keep (hb)) (And.intro (S5.out.2.2.2.2.2.1.keep (hb)) (And.intro (S5.out.2.2.2.2.2.2.1.keep (hb)) (And.intro (S5.out.2.2.2.2.2.2.2.1.keep (hb)) (And.intro (S5.out.2.2.2.2.2.2.2.2.1.keep (hb)) (below_trans (S5.out.2.2.2.2.2.2.2.2.2) (hb))))))))))); have HS1 : w6.cell? ⟨gr, 0, none⟩ = some (.bool pr) ∧ w6.cell? ⟨gr, 1, none⟩ = some (.slice Ar lr cr) ∧ w6.cell? ⟨w.heap.size + 1, 0, none⟩ = some (.bool pb) ∧ w6.cell? ⟨w.heap.size + 1, 1, none⟩ = some (.slice Ab nb cb) := ⟨S6.out.2.2.2.2.2.2.2.2.1.facts.1, S6.out.2.2.2.2.2.2.2.2.1.facts.2.1, S6.out.2.2.2.2.1.facts.1, S6.out.2.2.2.2.1.facts.2.1⟩; clear hb))
  clear HS0 HS1 HS2 HS3
  go_upto_region 8 with (fail)
  have S9 := Lib.hid (And.intro (S8.out.1.keep (below_dr _ 1)) (And.intro (S8.out.2.1.keep (below_dr _ 1)) (And.intro (S8.out.2.2.1.keep (below_dr _ 1)) (And.intro (S8.out.2.2.2.1.keep (below_dr _ 1)) (And.intro (S8.out.2.2.2.2.1.keep (below_dr _ 1)) (And.intro (S8.out.2.2.2.2.2.1.keep (below_dr _ 1)) (And.intro (S8.out.2.2.2.2.2.2.1.keep (below_dr _ 1)) (And.intro (S8.out.2.2.2.2.2.2.2.1.keep (below_dr _ 1)) (And.intro (S8.out.2.2.2.2.2.2.2.2.1.keep (below_dr _ 1)) (below_trans (S8.out.2.2.2.2.2.2.2.2.2) (below_dr _ 1)))))))))))
  have HS0 : (w8.drewN 1).cell? ⟨gr, 0, none⟩ = some (.bool pr) ∧ (w8.drewN 1).cell? ⟨gr, 1, none⟩ = some (.slice Ar lr cr) ∧ (w8.drewN 1).cell? ⟨w.heap.size + 1, 0, none⟩ = some (.bool pb) ∧ (w8.drewN 1).cell? ⟨w.heap.size + 1, 1, none⟩ = some (.slice Ab nb cb) := ⟨S9.out.2.2.2.2.2.2.2.2.1.facts.1, S9.out.2.2.2.2.2.2.2.2.1.facts.2.1, S9.out.2.2.2.2.1.facts.1, S9.out.2.2.2.2.1.facts.2.1⟩
  have HS1 := HS0
  have HS2 := HS0
  have HS3 := HS0
  go_region_held3 (fun W => W.cell? ⟨gr, 0, none⟩ = some (.bool pr) ∧ W.cell? ⟨gr, 1, none⟩ = some (.slice Ar lr cr) ∧ W.cell? ⟨w.heap.size + 1, 0, none⟩ = some (.bool pb) ∧ W.cell? ⟨w.heap.size + 1, 1, none⟩ = some (.slice Ab nb cb)) (first | with_reducible exact HS1 | with_reducible exact HS2 | with_reducible exact HS3 | exact HS0)
    (first
      | (have hst := S11; clear hst; go_at_call 30; refine (cmp_k HE.out.2.1 S11.out.2.2.2.2.2.2.2.2.2.1 S11.out.2.2.2.2.2.2.2.2.2.2.1 (by have := HL.out; omega) (by have := HL.out; omega)).mono ?_; rintro e w12 ⟨rfl, hb⟩; have S12 := Lib.hid (And.intro (S11.out.1.keep (hb)) (And.intro (S11.out.2.1.keep (hb)) (And.intro (S11.out.2.2.1.keep (hb)) (And.intro (S11.out.2.2.2.1.keep (hb)) (And.intro (S11.out.2.2.2.2.1.keep (hb)) (And.intro (S11.out.2.2.2.2.2.1.keep (hb)) (And.intro (S11.out.2.2.2.2.2.2.1.keep (hb)) (And.intro (S11.out.2.2.2.2.2.2.2.1.keep (hb)) (And.intro (S11.out.2.2.2.2.2.2.2.2.1.keep (hb)) (below_trans (S11.out.2.2.2.2.2.2.2.2.2.2.2) (hb))))))))))); have HS3 : w12.cell? ⟨gr, 0, none⟩ = some (.bool pr) ∧ w12.cell? ⟨gr, 1, none⟩ = some (.slice Ar lr cr) ∧ w12.cell? ⟨w.heap.size + 1, 0, none⟩ = some (.bool pb) ∧ w12.cell? ⟨w.heap.size + 1, 1, none⟩ = some (.slice Ab nb cb) := ⟨S12.out.2.2.2.2.2.2.2.2.1.facts.1, S12.out.2.2.2.2.2.2.2.2.1.facts.2.1, S12.out.2.2.2.2.1.facts.1, S12.out.2.2.2.2.1.facts.2.1⟩; clear hb)
      | (have hst := S10; clear hst; go_at_call 26; refine (make_z false (Zn.abs S10.out.2.2.1) (by have := HL.out; omega)).mono ?_; rintro e w11 ⟨v, rfl, h⟩; have S11 := Lib.hid (And.intro (S10.out.1.keep (h.below)) (And.intro (S10.out.2.1.keep (h.below)) (And.intro (S10.out.2.2.1.keep (h.below)) (And.intro (S10.out.2.2.2.1.keep (h.below)) (And.intro (S10.out.2.2.2.2.1.keep (h.below)) (And.intro (S10.out.2.2.2.2.2.1.keep (h.below)) (And.intro (S10.out.2.2.2.2.2.2.1.keep (h.below)) (And.intro (S10.out.2.2.2.2.2.2.2.1.keep (h.below)) (And.intro (S10.out.2.2.2.2.2.2.2.2.1.keep (h.below)) (And.intro (S10.out.2.2.2.2.2.2.2.2.2.1.keep (h.below)) (And.intro (h.zn (L := L) (by rw [sg_abs]; exact HB.out.2.2.1)) (below_trans (S10.out.2.2.2.2.2.2.2.2.2.2) (h.below))))))))))))); have HS2 : w11.cell? ⟨gr, 0, none⟩ = some (.bool pr) ∧ w11.cell? ⟨gr, 1, none⟩ = some (.slice Ar lr cr) ∧ w11.cell? ⟨w.heap.size + 1, 0, none⟩ = some (.bool pb) ∧ w11.cell? ⟨w.heap.size + 1, 1, none⟩ = some (.slice Ab nb cb) := ⟨S11.out.2.2.2.2.2.2.2.2.1.facts.1, S11.out.2.2.2.2.2.2.2.2.1.facts.2.1, S11.out.2.2.2.2.1.facts.1, S11.out.2.2.2.2.1.facts.2.1⟩; clear h)
      | (have hst := S9; clear hst; go_at_call 26; refine (make_z false (Zn.abs S9.out.2.2.2.2.2.2.1) (by have := HL.out; omega)).mono ?_; rintro e w10 ⟨v, rfl, h⟩; have S10 := Lib.hid (And.intro (S9.out.1.keep (h.below)) (And.intro (S9.out.2.1.keep (h.below)) (And.intro (S9.out.2.2.1.keep (h.below)) (And.intro (S9.out.2.2.2.1.keep (h.below)) (And.intro (S9.out.2.2.2.2.1.keep (h.below)) (And.intro (S9.out.2.2.2.2.2.1.keep (h.below)) (And.intro (S9.out.2.2.2.2.2.2.1.keep (h.below)) (And.intro (S9.out.2.2.2.2.2.2.2.1.keep (h.below)) (And.intro (S9.out.2.2.2.2.2.2.2.2.1.keep (h.below)) (And.intro (h.zn (L := L) (by rw [sg_abs]; exact HB.out.2.1)) (below_trans (S9.out.2.2.2.2.2.2.2.2.2) (h.below)))))))))))); have HS1 : w10.cell? ⟨gr, 0, none⟩ = some (.bool pr) ∧ w10.cell? ⟨gr, 1, none⟩ = some (.slice Ar lr cr) ∧ w10.cell? ⟨w.heap.size + 1, 0, none⟩ = some (.bool pb) ∧ w10.cell? ⟨w.heap.size + 1, 1, none⟩ = some (.slice Ab nb cb) := ⟨S10.out.2.2.2.2.2.2.2.2.1.facts.1, S10.out.2.2.2.2.2.2.2.2.1.facts.2.1, S10.out.2.2.2.2.1.facts.1, S10.out.2.2.2.2.1.facts.2.1⟩; clear h))
  clear HS0 HS1 HS2 HS3
  go_upto_region 9 with (fail)
  have S13 := Lib.hid (And.intro (S12.out.1.keep (below_dr _ 1)) (And.intro (S12.out.2.1.keep (below_dr _ 1)) (And.intro (S12.out.2.2.1.keep (below_dr _ 1)) (And.intro (S12.out.2.2.2.1.keep (below_dr _ 1)) (And.intro (S12.out.2.2.2.2.1.keep (below_dr _ 1)) (And.intro (S12.out.2.2.2.2.2.1.keep (below_dr _ 1)) (And.intro (S12.out.2.2.2.2.2.2.1.keep (below_dr _ 1)) (And.intro (S12.out.2.2.2.2.2.2.2.1.keep (below_dr _ 1)) (And.intro (S12.out.2.2.2.2.2.2.2.2.1.keep (below_dr _ 1)) (below_trans (S12.out.2.2.2.2.2.2.2.2.2) (below_dr _ 1)))))))))))
  have HS0 : (w12.drewN 1).cell? ⟨gq, 0, none⟩ = some (.bool pq) ∧ (w12.drewN 1).cell? ⟨gq, 1, none⟩ = some (.slice Aq lq cq) ∧ (w12.drewN 1).cell? ⟨w.heap.size + 1, 0, none⟩ = some (.bool pb) ∧ (w12.drewN 1).cell? ⟨w.heap.size + 1, 1, none⟩ = some (.slice Ab nb cb) ∧ (w12.drewN 1).cell? ⟨gr, 0, none⟩ = some (.bool pr) ∧ (w12.drewN 1).cell? ⟨gr, 1, none⟩ = some (.slice Ar lr cr) ∧ (w12.drewN 1).cell? ⟨w.heap.size, 0, none⟩ = some (.bool pa) ∧ (w12.drewN 1).cell? ⟨w.heap.size, 1, none⟩ = some (.slice Aa na ca) := ⟨S13.out.2.2.2.2.2.2.2.1.facts.1, S13.out.2.2.2.2.2.2.2.1.facts.2.1, S13.out.2.2.2.2.1.facts.1, S13.out.2.2.2.2.1.facts.2.1, S13.out.2.2.2.2.2.2.2.2.1.facts.1, S13.out.2.2.2.2.2.2.2.2.1.facts.2.1, S13.out.2.2.2.1.facts.1, S13.out.2.2.2.1.facts.2.1⟩
  have HS1 := HS0
  have HS2 := HS0
  have HS3 := HS0
  go_region_held3 (fun W => W.cell? ⟨gq, 0, none⟩ = some (.bool pq) ∧ W.cell? ⟨gq, 1, none⟩ = some (.slice Aq lq cq) ∧ W.cell? ⟨w.heap.size + 1, 0, none⟩ = some (.bool pb) ∧ W.cell? ⟨w.heap.size + 1, 1, none⟩ = some (.slice Ab nb cb) ∧ W.cell? ⟨gr, 0, none⟩ = some (.bool pr) ∧ W.cell? ⟨gr, 1, none⟩ = some (.slice Ar lr cr) ∧ W.cell? ⟨w.heap.size, 0, none⟩ = some (.bool pa) ∧ W.cell? ⟨w.heap.size, 1, none⟩ = some (.slice Aa na ca)) (first | with_reducible exact HS1 | with_reducible exact HS2 | with_reducible exact HS3 | exact HS0)
    (first
      | (have hst := S15; clear hst; go_at_call 30; refine (cmp_k HE.out.1 S15.out.2.2.2.2.2.2.2.2.2.2.1 S15.out.2.1 (by have := HL.out; omega) (by have := HL.out; omega)).mono ?_; rintro e w16 ⟨rfl, hb⟩; have S16 := Lib.hid (And.intro (S15.out.1.keep (hb)) (And.intro (S15.out.2.1.keep (hb)) (And.intro (S15.out.2.2.1.keep (hb)) (And.intro (S15.out.2.2.2.1.keep (hb)) (And.intro (S15.out.2.2.2.2.1.keep (hb)) (And.intro (S15.out.2.2.2.2.2.1.keep (hb)) (And.intro (S15.out.2.2.2.2.2.2.1.keep (hb)) (And.intro (S15.out.2.2.2.2.2.2.2.1.keep (hb)) (And.intro (S15.out.2.2.2.2.2.2.2.2.1.keep (hb)) (And.intro (S15.out.2.2.2.2.2.2.2.2.2.1.keep (hb)) (And.intro (S15.out.2.2.2.2.2.2.2.2.2.2.1.keep (hb)) (below_trans (S15.out.2.2.2.2.2.2.2.2.2.2.2) (hb))))))))))))); have HS3 : w16.cell? ⟨gq, 0, none⟩ = some (.bool pq) ∧ w16.cell? ⟨gq, 1, none⟩ = some (.slice Aq lq cq) ∧ w16.cell? ⟨w.heap.size + 1, 0, none⟩ = some (.bool pb) ∧ w16.cell? ⟨w.heap.size + 1, 1, none⟩ = some (.slice Ab nb cb) ∧ w16.cell? ⟨gr, 0, none⟩ = some (.bool pr) ∧ w16.cell? ⟨gr, 1, none⟩ = some (.slice Ar lr cr) ∧ w16.cell? ⟨w.heap.size, 0, none⟩ = some (.bool pa) ∧ w16.cell? ⟨w.heap.size, 1, none⟩ = some (.slice Aa na ca) := ⟨S16.out.2.2.2.2.2.2.2.1.facts.1, S16.out.2.2.2.2.2.2.2.1.facts.2.1, S16.out.2.2.2.2.1.facts.1, S16.out.2.2.2.2.1.facts.2.1, S16.out.2.2.2.2.2.2.2.2.1.facts.1, S16.out.2.2.2.2.2.2.2.2.1.facts.2.1, S16.out.2.2.2.1.facts.1, S16.out.2.2.2.1.facts.2.1⟩; clear hb)
      | (have hst := S14; clear hst; go_at_call 32; refine (add_z S14.out.2.2.2.2.2.2.2.2.2.1 S14.out.2.2.2.2.2.2.1 (by have := HL.out; omega) (by have := HL.out; omega)).mono ?_; rintro e w15 ⟨v, rfl, h⟩; have S15 := Lib.hid (And.intro (S14.out.1.keep (h.below)) (And.intro (S14.out.2.1.keep (h.below)) (And.intro (S14.out.2.2.1.keep (h.below)) (And.intro (S14.out.2.2.2.1.keep (h.below)) (And.intro (S14.out.2.2.2.2.1.keep (h.below)) (And.intro (S14.out.2.2.2.2.2.1.keep (h.below)) (And.intro (S14.out.2.2.2.2.2.2.1.keep (h.below)) (And.intro (S14.out.2.2.2.2.2.2.2.1.keep (h.below)) (And.intro (S14.out.2.2.2.2.2.2.2.2.1.keep (h.below)) (And.intro (S14.out.2.2.2.2.2.2.2.2.2.1.keep (h.below)) (And.intro (h.zn HB.out.2.2.2) (below_trans (S14.out.2.2.2.2.2.2.2.2.2.2) (h.below))))))))))))); have HS2 : w15.cell? ⟨gq, 0, none⟩ = some (.bool pq) ∧ w15.cell? ⟨gq, 1, none⟩ = some (.slice Aq lq cq) ∧ w15.cell? ⟨w.heap.size + 1, 0, none⟩ = some (.bool pb) ∧ w15.cell? ⟨w.heap.size + 1, 1, none⟩ = some (.slice Ab nb cb) ∧ w15.cell? ⟨gr, 0, none⟩ = some (.bool pr) ∧ w15.cell? ⟨gr, 1, none⟩ = some (.slice Ar lr cr) ∧ w15.cell? ⟨w.heap.size, 0, none⟩ = some (.bool pa) ∧ w15.cell? ⟨w.heap.size, 1, none⟩ = some (.slice Aa na ca) := ⟨S15.out.2.2.2.2.2.2.2.1.facts.1, S15.out.2.2.2.2.2.2.2.1.facts.2.1, S15.out.2.2.2.2.1.facts.1, S15.out.2.2.2.2.1.facts.2.1, S15.out.2.2.2.2.2.2.2.2.1.facts.1, S15.out.2.2.2.2.2.2.2.2.1.facts.2.1, S15.out.2.2.2.1.facts.1, S15.out.2.2.2.1.facts.2.1⟩; clear h)
      | (have hst := S13; clear hst; go_at_call 34; refine (mul_z S13.out.2.2.2.2.2.1 S13.out.2.2.1 (by have := HL.out; omega) (by have := HL.out; omega)).mono ?_; rintro e w14 ⟨v, rfl, h⟩; have S14 := Lib.hid (And.intro (S13.out.1.keep (h.below)) (And.intro (S13.out.2.1.keep (h.below)) (And.intro (S13.out.2.2.1.keep (h.below)) (And.intro (S13.out.2.2.2.1.keep (h.below)) (And.intro (S13.out.2.2.2.2.1.keep (h.below)) (And.intro (S13.out.2.2.2.2.2.1.keep (h.below)) (And.intro (S13.out.2.2.2.2.2.2.1.keep (h.below)) (And.intro (S13.out.2.2.2.2.2.2.2.1.keep (h.below)) (And.intro (S13.out.2.2.2.2.2.2.2.2.1.keep (h.below)) (And.intro (h.zn (abs_mul HB.out.1 HB.out.2.2.1)) (below_trans (S13.out.2.2.2.2.2.2.2.2.2) (h.below)))))))))))); have HS1 : w14.cell? ⟨gq, 0, none⟩ = some (.bool pq) ∧ w14.cell? ⟨gq, 1, none⟩ = some (.slice Aq lq cq) ∧ w14.cell? ⟨w.heap.size + 1, 0, none⟩ = some (.bool pb) ∧ w14.cell? ⟨w.heap.size + 1, 1, none⟩ = some (.slice Ab nb cb) ∧ w14.cell? ⟨gr, 0, none⟩ = some (.bool pr) ∧ w14.cell? ⟨gr, 1, none⟩ = some (.slice Ar lr cr) ∧ w14.cell? ⟨w.heap.size, 0, none⟩ = some (.bool pa) ∧ w14.cell? ⟨w.heap.size, 1, none⟩ = some (.slice Aa na ca) := ⟨S14.out.2.2.2.2.2.2.2.1.facts.1, S14.out.2.2.2.2.2.2.2.1.facts.2.1, S14.out.2.2.2.2.1.facts.1, S14.out.2.2.2.2.1.facts.2.1, S14.out.2.2.2.2.2.2.2.2.1.facts.1, S14.out.2.2.2.2.2.2.2.2.1.facts.2.1, S14.out.2.2.2.1.facts.1, S14.out.2.2.2.1.facts.2.1⟩; clear h))
  clear HS0 HS1 HS2 HS3
  go_wp2_with fail
  go_ret
  exact ⟨rfl, S16.out.2.2.2.2.2.2.2.2.2.2.2⟩
theorem zintRests_walk (w : World) (ht : Tab w) {a : Value} {pa : Bool} {xa : List Nat} {b : Value} {pb : Bool} {xb : List Nat} (ha : Zl w a pa xa) (la : xa.length ≤ 1048576) (hb : Zl w b pb xb) (lb : xb.length ≤ 1048576) :
    Calls Tryz.prog 6 #[a, b] w fun e w' => e = .returned (.bool true) ∧ Below w.heap.size w w' := by
  by_cases h0 : sg pb (val WB xb) = 0
  · exact zintRests_by0 w ht ha la hb lb h0
  · by_cases hr : sg pa (val WB xa) - Int.fdiv (sg pa (val WB xa)) (sg pb (val WB xb)) * sg pb (val WB xb) = 0
    · exact zintRests_r0 w ht ha la hb lb h0 hr
    · rcases sign_is (sg pb (val WB xb)) with h | h | h
      · exact zintRests_rm w ht ha la hb lb h0 hr h.1
      · exact absurd h.2 h0
      · exact zintRests_rp w ht ha la hb lb h0 hr h.1
end Go.Proofs.YtgbfpimdnmmfpaaGreatDoor
