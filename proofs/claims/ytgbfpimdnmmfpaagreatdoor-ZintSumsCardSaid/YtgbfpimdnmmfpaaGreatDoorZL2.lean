/-
  The law ZintOrder, walked.
-/
import Derived.Test.YtgbfpimdnmmfpaaGreatDoorZL1
namespace Go.Proofs.YtgbfpimdnmmfpaaGreatDoor
open Go Go.RowKit Go.Proofs Pl
set_option linter.unusedVariables false
set_option linter.unusedSimpArgs false

theorem box3 (w : World) (t t' t'' : TypeId) (a b c d e f : Value) : Bx t (((w.alloc (.cells #[a, b] t)).alloc (.cells #[c, d] t')).alloc (.cells #[e, f] t'')) w.heap.size a b ∧ Bx t' (((w.alloc (.cells #[a, b] t)).alloc (.cells #[c, d] t')).alloc (.cells #[e, f] t'')) (w.heap.size + 1) c d ∧ Bx t'' (((w.alloc (.cells #[a, b] t)).alloc (.cells #[c, d] t')).alloc (.cells #[e, f] t'')) (w.heap.size + 1 + 1) e f ∧ Below w.heap.size w (((w.alloc (.cells #[a, b] t)).alloc (.cells #[c, d] t')).alloc (.cells #[e, f] t'')) := by
  have h := new3 t t' t'' w a b c d e f
  exact ⟨h.1, h.2.1, h.2.2.1, h.2.2.2⟩
theorem cmp_k {w : World} {L1 L2 : Nat} {a b : Value} {x y o : Int} (ho : cmpZ x y = o) (ha : Zn w L1 a x) (hb : Zn w L2 b y) (h1 : L1 ≤ 274877906944) (h2 : L2 ≤ 274877906944) :
    Calls Tryz.prog 30 #[a, b] w fun e w' => e = .returned (.int .i64 o) ∧ Below w.heap.size w w' := by
  subst ho; exact cmp_z ha hb h1 h2
theorem sign_k {w : World} {L : Nat} {a : Value} {x o : Int} (ho : signZ x = o) (ha : Zn w L a x) (hL : L ≤ 274877906944) :
    Calls Tryz.prog 29 #[a] w fun e w' => e = .returned (.int .i64 o) ∧ Below w.heap.size w w' := by
  subst ho; exact sign_z ha hL
theorem zl_abs {w : World} {v : Value} {p : Bool} {xs : List Nat} {L : Nat} (h : Zl w v p xs) (hl : xs.length ≤ L) : (sg p (val WB xs)).natAbs < WB ^ L := (h.zn hl).lt
set_option maxRecDepth 100000 in
set_option maxHeartbeats 2000000 in
theorem zintOrder_walk (w : World) (ht : Tab w) {a : Value} {pa : Bool} {xa : List Nat} {b : Value} {pb : Bool} {xb : List Nat} {c : Value} {pc : Bool} {xc : List Nat} (ha : Zl w a pa xa) (la : xa.length ≤ 1048576) (hb : Zl w b pb xb) (lb : xb.length ≤ 1048576) (hc : Zl w c pc xc) (lc : xc.length ≤ 1048576) :
    Calls Tryz.prog 8 #[a, b, c] w fun e w' => e = .returned (.bool true) ∧ Below w.heap.size w w' := by
  obtain ⟨L, hL⟩ : ∃ L, L = 1048576 := ⟨_, rfl⟩
  rw [← hL] at la lb lc
  have bx := zl_abs ha la
  have by_ := zl_abs hb lb
  have bz := zl_abs hc lc
  obtain ⟨x, hx⟩ : ∃ x, x = sg pa (val WB xa) := ⟨_, rfl⟩
  rw [← hx] at bx
  obtain ⟨y, hy⟩ : ∃ x, x = sg pb (val WB xb) := ⟨_, rfl⟩
  rw [← hy] at by_
  obtain ⟨z, hz⟩ : ∃ x, x = sg pc (val WB xc) := ⟨_, rfl⟩
  rw [← hz] at bz
  obtain ⟨o, ho⟩ : ∃ o, cmpZ x y = o := ⟨_, rfl⟩
  have e1 : cmpZ (x + z) (y + z) = o := by rw [← ho]; unfold cmpZ; split <;> (try split) <;> (try split) <;> (try split) <;> omega
  have e2 : cmpZ (-y) (-x) = o := by rw [← ho]; unfold cmpZ; split <;> (try split) <;> (try split) <;> (try split) <;> omega
  have e3 : signZ (x - y) = o := by rw [← ho]; exact cmpZ_sub x y
  obtain ⟨o2, ho2⟩ : ∃ o2, cmpZ y x = o2 := ⟨_, rfl⟩
  have e4 : o2 = -o ∧ (o = -1 ∨ o = 0 ∨ o = 1) := by rw [← ho, ← ho2]; unfold cmpZ; split <;> (try split) <;> (try split) <;> (try split) <;> omega
  have e5 : IntKind.i64.wrap (-o) = o2 := by rw [e4.1]; exact IntWalk.i64_in _ (by omega)
  have HE := Lib.hid (And.intro ho (And.intro e1 (And.intro e2 (And.intro e3 ho2))))
  have hn : (-y).natAbs < WB ^ L ∧ (-x).natAbs < WB ^ L := by rw [Int.natAbs_neg, Int.natAbs_neg]; exact ⟨by_, bx⟩
  have HB := Lib.hid (And.intro (abs_add WB_one bx bz) (And.intro (abs_add WB_one by_ bz) (And.intro hn.1 (And.intro hn.2 (abs_sub WB_one bx by_)))))
  have hza := ha.zn la
  have hzb := hb.zn lb
  have hzc := hc.zn lc
  rw [← hx] at hza
  rw [← hy] at hzb
  rw [← hz] at hzc
  have HL := Lib.hid hL
  clear ho e1 e2 e3 e4 ho2 hn bx by_ bz
  obtain ⟨Aa, na, ca, rfl, ea, ha⟩ := ha.parts
  obtain ⟨Ab, nb, cb, rfl, eb, hb⟩ := hb.parts
  obtain ⟨Ac, nc, cc, rfl, ec, hc⟩ := hc.parts
  have S0 := Lib.hid (And.intro (ht) (And.intro (hza) (And.intro (hzb) (And.intro (hzc) (Below.refl w.heap.size w)))))
  clear ht hza hzb hzc ha hb hc la lb lc ea eb ec hx hy hz hL
  go_enter Tryz.func8, Tryz.ntmps8
  go_upto_region 1 with (fail)
  obtain ⟨h0, h1, h2, hb⟩ := box3 w 24 24 24 (.bool pa) (.slice Aa na ca) (.bool pb) (.slice Ab nb cb) (.bool pc) (.slice Ac nc cc)
  have S1 := Lib.hid (And.intro (S0.out.1.keep (hb)) (And.intro (S0.out.2.1.keep (hb)) (And.intro (S0.out.2.2.1.keep (hb)) (And.intro (S0.out.2.2.2.1.keep (hb)) (And.intro (h0) (And.intro (h1) (And.intro (h2) (below_trans (S0.out.2.2.2.2) (hb)))))))))
  clear hb h0 h1 h2 S0
  generalize ((w.alloc _).alloc _).alloc _ = W0 at S1 ⊢
  go_wp2_with fail
  refine (speaks_z _ S1.out.1).mono ?_; rintro e w2 ⟨rfl, hb⟩
  have S2 := Lib.hid (And.intro (S1.out.1.keep (hb)) (And.intro (S1.out.2.1.keep (hb)) (And.intro (S1.out.2.2.1.keep (hb)) (And.intro (S1.out.2.2.2.1.keep (hb)) (And.intro (S1.out.2.2.2.2.1.keep (hb)) (And.intro (S1.out.2.2.2.2.2.1.keep (hb)) (And.intro (S1.out.2.2.2.2.2.2.1.keep (hb)) (below_trans (S1.out.2.2.2.2.2.2.2) (hb)))))))))
  clear hb  S1
  obtain ⟨aa, ab, -, -⟩ := S2.out.2.2.2.2.1.facts
  obtain ⟨ba, bb, -, -⟩ := S2.out.2.2.2.2.2.1.facts
  go_wp2_with fail
  refine (cmp_k HE.out.1 S2.out.2.1 S2.out.2.2.1 (by have := HL.out; omega) (by have := HL.out; omega)).mono ?_; rintro e w3 ⟨rfl, hb⟩
  have S3 := Lib.hid (And.intro (S2.out.1.keep (hb)) (And.intro (S2.out.2.1.keep (hb)) (And.intro (S2.out.2.2.1.keep (hb)) (And.intro (S2.out.2.2.2.1.keep (hb)) (And.intro (S2.out.2.2.2.2.1.keep (hb)) (And.intro (S2.out.2.2.2.2.2.1.keep (hb)) (And.intro (S2.out.2.2.2.2.2.2.1.keep (hb)) (below_trans (S2.out.2.2.2.2.2.2.2) (hb)))))))))
  clear hb aa ab ba bb S2
  go_upto_region 4 with (fail)
  have S4 := Lib.hid (And.intro (S3.out.1.keep (below_dr _ 1)) (And.intro (S3.out.2.1.keep (below_dr _ 1)) (And.intro (S3.out.2.2.1.keep (below_dr _ 1)) (And.intro (S3.out.2.2.2.1.keep (below_dr _ 1)) (And.intro (S3.out.2.2.2.2.1.keep (below_dr _ 1)) (And.intro (S3.out.2.2.2.2.2.1.keep (below_dr _ 1)) (And.intro (S3.out.2.2.2.2.2.2.1.keep (below_dr _ 1)) (below_trans (S3.out.2.2.2.2.2.2.2) (below_dr _ 1)))))))))
  have HS0 : (w3.drewN 1).cell? ⟨w.heap.size, 0, none⟩ = some (.bool pa) ∧ (w3.drewN 1).cell? ⟨w.heap.size, 1, none⟩ = some (.slice Aa na ca) ∧ (w3.drewN 1).cell? ⟨w.heap.size + 1, 0, none⟩ = some (.bool pb) ∧ (w3.drewN 1).cell? ⟨w.heap.size + 1, 1, none⟩ = some (.slice Ab nb cb) ∧ (w3.drewN 1).cell? ⟨w.heap.size + 1 + 1, 0, none⟩ = some (.bool pc) ∧ (w3.drewN 1).cell? ⟨w.heap.size + 1 + 1, 1, none⟩ = some (.slice Ac nc cc) := ⟨S4.out.2.2.2.2.1.facts.1, S4.out.2.2.2.2.1.facts.2.1, S4.out.2.2.2.2.2.1.facts.1, S4.out.2.2.2.2.2.1.facts.2.1, S4.out.2.2.2.2.2.2.1.facts.1, S4.out.2.2.2.2.2.2.1.facts.2.1⟩
  have HS1 := HS0
  have HS2 := HS0
  have HS3 := HS0
  have HS4 := HS0
  have HS5 := HS0
  have HS6 := HS0
  have HS7 := HS0
  have HS8 := HS0
  have HS9 := HS0
  go_region_held3 (fun W => W.cell? ⟨w.heap.size, 0, none⟩ = some (.bool pa) ∧ W.cell? ⟨w.heap.size, 1, none⟩ = some (.slice Aa na ca) ∧ W.cell? ⟨w.heap.size + 1, 0, none⟩ = some (.bool pb) ∧ W.cell? ⟨w.heap.size + 1, 1, none⟩ = some (.slice Ab nb cb) ∧ W.cell? ⟨w.heap.size + 1 + 1, 0, none⟩ = some (.bool pc) ∧ W.cell? ⟨w.heap.size + 1 + 1, 1, none⟩ = some (.slice Ac nc cc)) (first | with_reducible exact HS1 | with_reducible exact HS2 | with_reducible exact HS3 | with_reducible exact HS4 | with_reducible exact HS5 | with_reducible exact HS6 | with_reducible exact HS7 | with_reducible exact HS8 | with_reducible exact HS9 | exact HS0)
    (first
      | (have hst := S12; clear hst; go_at_call 30; refine (cmp_k HE.out.2.2.2.2 S12.out.2.2.1 S12.out.2.1 (by have := HL.out; omega) (by have := HL.out; omega)).mono ?_; rintro e w13 ⟨rfl, hb⟩; have S13 := Lib.hid (And.intro (S12.out.1.keep (hb)) (And.intro (S12.out.2.1.keep (hb)) (And.intro (S12.out.2.2.1.keep (hb)) (And.intro (S12.out.2.2.2.1.keep (hb)) (And.intro (S12.out.2.2.2.2.1.keep (hb)) (And.intro (S12.out.2.2.2.2.2.1.keep (hb)) (And.intro (S12.out.2.2.2.2.2.2.1.keep (hb)) (below_trans (S12.out.2.2.2.2.2.2.2) (hb))))))))); have HS9 : w13.cell? ⟨w.heap.size, 0, none⟩ = some (.bool pa) ∧ w13.cell? ⟨w.heap.size, 1, none⟩ = some (.slice Aa na ca) ∧ w13.cell? ⟨w.heap.size + 1, 0, none⟩ = some (.bool pb) ∧ w13.cell? ⟨w.heap.size + 1, 1, none⟩ = some (.slice Ab nb cb) ∧ w13.cell? ⟨w.heap.size + 1 + 1, 0, none⟩ = some (.bool pc) ∧ w13.cell? ⟨w.heap.size + 1 + 1, 1, none⟩ = some (.slice Ac nc cc) := ⟨S13.out.2.2.2.2.1.facts.1, S13.out.2.2.2.2.1.facts.2.1, S13.out.2.2.2.2.2.1.facts.1, S13.out.2.2.2.2.2.1.facts.2.1, S13.out.2.2.2.2.2.2.1.facts.1, S13.out.2.2.2.2.2.2.1.facts.2.1⟩; clear hb)
      | (have hst := S11; clear hst; go_at_call 29; refine (sign_k HE.out.2.2.2.1 S11.out.2.2.2.2.2.2.2.1 (by have := HL.out; omega)).mono ?_; rintro e w12 ⟨rfl, hb⟩; have S12 := Lib.hid (And.intro (S11.out.1.keep (hb)) (And.intro (S11.out.2.1.keep (hb)) (And.intro (S11.out.2.2.1.keep (hb)) (And.intro (S11.out.2.2.2.1.keep (hb)) (And.intro (S11.out.2.2.2.2.1.keep (hb)) (And.intro (S11.out.2.2.2.2.2.1.keep (hb)) (And.intro (S11.out.2.2.2.2.2.2.1.keep (hb)) (below_trans (S11.out.2.2.2.2.2.2.2.2) (hb))))))))); have HS8 : w12.cell? ⟨w.heap.size, 0, none⟩ = some (.bool pa) ∧ w12.cell? ⟨w.heap.size, 1, none⟩ = some (.slice Aa na ca) ∧ w12.cell? ⟨w.heap.size + 1, 0, none⟩ = some (.bool pb) ∧ w12.cell? ⟨w.heap.size + 1, 1, none⟩ = some (.slice Ab nb cb) ∧ w12.cell? ⟨w.heap.size + 1 + 1, 0, none⟩ = some (.bool pc) ∧ w12.cell? ⟨w.heap.size + 1 + 1, 1, none⟩ = some (.slice Ac nc cc) := ⟨S12.out.2.2.2.2.1.facts.1, S12.out.2.2.2.2.1.facts.2.1, S12.out.2.2.2.2.2.1.facts.1, S12.out.2.2.2.2.2.1.facts.2.1, S12.out.2.2.2.2.2.2.1.facts.1, S12.out.2.2.2.2.2.2.1.facts.2.1⟩; clear hb)
      | (have hst := S10; clear hst; go_at_call 33; refine (sub_z S10.out.2.1 S10.out.2.2.1 (by have := HL.out; omega) (by have := HL.out; omega)).mono ?_; rintro e w11 ⟨v, rfl, h⟩; have S11 := Lib.hid (And.intro (S10.out.1.keep (h.below)) (And.intro (S10.out.2.1.keep (h.below)) (And.intro (S10.out.2.2.1.keep (h.below)) (And.intro (S10.out.2.2.2.1.keep (h.below)) (And.intro (S10.out.2.2.2.2.1.keep (h.below)) (And.intro (S10.out.2.2.2.2.2.1.keep (h.below)) (And.intro (S10.out.2.2.2.2.2.2.1.keep (h.below)) (And.intro (h.zn HB.out.2.2.2.2) (below_trans (S10.out.2.2.2.2.2.2.2) (h.below)))))))))); have HS7 : w11.cell? ⟨w.heap.size, 0, none⟩ = some (.bool pa) ∧ w11.cell? ⟨w.heap.size, 1, none⟩ = some (.slice Aa na ca) ∧ w11.cell? ⟨w.heap.size + 1, 0, none⟩ = some (.bool pb) ∧ w11.cell? ⟨w.heap.size + 1, 1, none⟩ = some (.slice Ab nb cb) ∧ w11.cell? ⟨w.heap.size + 1 + 1, 0, none⟩ = some (.bool pc) ∧ w11.cell? ⟨w.heap.size + 1 + 1, 1, none⟩ = some (.slice Ac nc cc) := ⟨S11.out.2.2.2.2.1.facts.1, S11.out.2.2.2.2.1.facts.2.1, S11.out.2.2.2.2.2.1.facts.1, S11.out.2.2.2.2.2.1.facts.2.1, S11.out.2.2.2.2.2.2.1.facts.1, S11.out.2.2.2.2.2.2.1.facts.2.1⟩; clear h)
      | (have hst := S9; clear hst; go_at_call 30; refine (cmp_k HE.out.2.2.1 S9.out.2.2.2.2.2.2.2.1 S9.out.2.2.2.2.2.2.2.2.1 (by have := HL.out; omega) (by have := HL.out; omega)).mono ?_; rintro e w10 ⟨rfl, hb⟩; have S10 := Lib.hid (And.intro (S9.out.1.keep (hb)) (And.intro (S9.out.2.1.keep (hb)) (And.intro (S9.out.2.2.1.keep (hb)) (And.intro (S9.out.2.2.2.1.keep (hb)) (And.intro (S9.out.2.2.2.2.1.keep (hb)) (And.intro (S9.out.2.2.2.2.2.1.keep (hb)) (And.intro (S9.out.2.2.2.2.2.2.1.keep (hb)) (below_trans (S9.out.2.2.2.2.2.2.2.2.2) (hb))))))))); have HS6 : w10.cell? ⟨w.heap.size, 0, none⟩ = some (.bool pa) ∧ w10.cell? ⟨w.heap.size, 1, none⟩ = some (.slice Aa na ca) ∧ w10.cell? ⟨w.heap.size + 1, 0, none⟩ = some (.bool pb) ∧ w10.cell? ⟨w.heap.size + 1, 1, none⟩ = some (.slice Ab nb cb) ∧ w10.cell? ⟨w.heap.size + 1 + 1, 0, none⟩ = some (.bool pc) ∧ w10.cell? ⟨w.heap.size + 1 + 1, 1, none⟩ = some (.slice Ac nc cc) := ⟨S10.out.2.2.2.2.1.facts.1, S10.out.2.2.2.2.1.facts.2.1, S10.out.2.2.2.2.2.1.facts.1, S10.out.2.2.2.2.2.1.facts.2.1, S10.out.2.2.2.2.2.2.1.facts.1, S10.out.2.2.2.2.2.2.1.facts.2.1⟩; clear hb)
      | (have hst := S8; clear hst; go_at_call 27; refine (neg_z S8.out.2.1 (by have := HL.out; omega)).mono ?_; rintro e w9 ⟨v, rfl, h⟩; have S9 := Lib.hid (And.intro (S8.out.1.keep (h.below)) (And.intro (S8.out.2.1.keep (h.below)) (And.intro (S8.out.2.2.1.keep (h.below)) (And.intro (S8.out.2.2.2.1.keep (h.below)) (And.intro (S8.out.2.2.2.2.1.keep (h.below)) (And.intro (S8.out.2.2.2.2.2.1.keep (h.below)) (And.intro (S8.out.2.2.2.2.2.2.1.keep (h.below)) (And.intro (S8.out.2.2.2.2.2.2.2.1.keep (h.below)) (And.intro (h.zn HB.out.2.2.2.1) (below_trans (S8.out.2.2.2.2.2.2.2.2) (h.below))))))))))); have HS5 : w9.cell? ⟨w.heap.size, 0, none⟩ = some (.bool pa) ∧ w9.cell? ⟨w.heap.size, 1, none⟩ = some (.slice Aa na ca) ∧ w9.cell? ⟨w.heap.size + 1, 0, none⟩ = some (.bool pb) ∧ w9.cell? ⟨w.heap.size + 1, 1, none⟩ = some (.slice Ab nb cb) ∧ w9.cell? ⟨w.heap.size + 1 + 1, 0, none⟩ = some (.bool pc) ∧ w9.cell? ⟨w.heap.size + 1 + 1, 1, none⟩ = some (.slice Ac nc cc) := ⟨S9.out.2.2.2.2.1.facts.1, S9.out.2.2.2.2.1.facts.2.1, S9.out.2.2.2.2.2.1.facts.1, S9.out.2.2.2.2.2.1.facts.2.1, S9.out.2.2.2.2.2.2.1.facts.1, S9.out.2.2.2.2.2.2.1.facts.2.1⟩; clear h)
      | (have hst := S7; clear hst; go_at_call 27; refine (neg_z S7.out.2.2.1 (by have := HL.out; omega)).mono ?_; rintro e w8 ⟨v, rfl, h⟩; have S8 := Lib.hid (And.intro (S7.out.1.keep (h.below)) (And.intro (S7.out.2.1.keep (h.below)) (And.intro (S7.out.2.2.1.keep (h.below)) (And.intro (S7.out.2.2.2.1.keep (h.below)) (And.intro (S7.out.2.2.2.2.1.keep (h.below)) (And.intro (S7.out.2.2.2.2.2.1.keep (h.below)) (And.intro (S7.out.2.2.2.2.2.2.1.keep (h.below)) (And.intro (h.zn HB.out.2.2.1) (below_trans (S7.out.2.2.2.2.2.2.2) (h.below)))))))))); have HS4 : w8.cell? ⟨w.heap.size, 0, none⟩ = some (.bool pa) ∧ w8.cell? ⟨w.heap.size, 1, none⟩ = some (.slice Aa na ca) ∧ w8.cell? ⟨w.heap.size + 1, 0, none⟩ = some (.bool pb) ∧ w8.cell? ⟨w.heap.size + 1, 1, none⟩ = some (.slice Ab nb cb) ∧ w8.cell? ⟨w.heap.size + 1 + 1, 0, none⟩ = some (.bool pc) ∧ w8.cell? ⟨w.heap.size + 1 + 1, 1, none⟩ = some (.slice Ac nc cc) := ⟨S8.out.2.2.2.2.1.facts.1, S8.out.2.2.2.2.1.facts.2.1, S8.out.2.2.2.2.2.1.facts.1, S8.out.2.2.2.2.2.1.facts.2.1, S8.out.2.2.2.2.2.2.1.facts.1, S8.out.2.2.2.2.2.2.1.facts.2.1⟩; clear h)
      | (have hst := S6; clear hst; go_at_call 30; refine (cmp_k HE.out.2.1 S6.out.2.2.2.2.2.2.2.1 S6.out.2.2.2.2.2.2.2.2.1 (by have := HL.out; omega) (by have := HL.out; omega)).mono ?_; rintro e w7 ⟨rfl, hb⟩; have S7 := Lib.hid (And.intro (S6.out.1.keep (hb)) (And.intro (S6.out.2.1.keep (hb)) (And.intro (S6.out.2.2.1.keep (hb)) (And.intro (S6.out.2.2.2.1.keep (hb)) (And.intro (S6.out.2.2.2.2.1.keep (hb)) (And.intro (S6.out.2.2.2.2.2.1.keep (hb)) (And.intro (S6.out.2.2.2.2.2.2.1.keep (hb)) (below_trans (S6.out.2.2.2.2.2.2.2.2.2) (hb))))))))); have HS3 : w7.cell? ⟨w.heap.size, 0, none⟩ = some (.bool pa) ∧ w7.cell? ⟨w.heap.size, 1, none⟩ = some (.slice Aa na ca) ∧ w7.cell? ⟨w.heap.size + 1, 0, none⟩ = some (.bool pb) ∧ w7.cell? ⟨w.heap.size + 1, 1, none⟩ = some (.slice Ab nb cb) ∧ w7.cell? ⟨w.heap.size + 1 + 1, 0, none⟩ = some (.bool pc) ∧ w7.cell? ⟨w.heap.size + 1 + 1, 1, none⟩ = some (.slice Ac nc cc) := ⟨S7.out.2.2.2.2.1.facts.1, S7.out.2.2.2.2.1.facts.2.1, S7.out.2.2.2.2.2.1.facts.1, S7.out.2.2.2.2.2.1.facts.2.1, S7.out.2.2.2.2.2.2.1.facts.1, S7.out.2.2.2.2.2.2.1.facts.2.1⟩; clear hb)
      | (have hst := S5; clear hst; go_at_call 32; refine (add_z S5.out.2.2.1 S5.out.2.2.2.1 (by have := HL.out; omega) (by have := HL.out; omega)).mono ?_; rintro e w6 ⟨v, rfl, h⟩; have S6 := Lib.hid (And.intro (S5.out.1.keep (h.below)) (And.intro (S5.out.2.1.keep (h.below)) (And.intro (S5.out.2.2.1.keep (h.below)) (And.intro (S5.out.2.2.2.1.keep (h.below)) (And.intro (S5.out.2.2.2.2.1.keep (h.below)) (And.intro (S5.out.2.2.2.2.2.1.keep (h.below)) (And.intro (S5.out.2.2.2.2.2.2.1.keep (h.below)) (And.intro (S5.out.2.2.2.2.2.2.2.1.keep (h.below)) (And.intro (h.zn HB.out.2.1) (below_trans (S5.out.2.2.2.2.2.2.2.2) (h.below))))))))))); have HS2 : w6.cell? ⟨w.heap.size, 0, none⟩ = some (.bool pa) ∧ w6.cell? ⟨w.heap.size, 1, none⟩ = some (.slice Aa na ca) ∧ w6.cell? ⟨w.heap.size + 1, 0, none⟩ = some (.bool pb) ∧ w6.cell? ⟨w.heap.size + 1, 1, none⟩ = some (.slice Ab nb cb) ∧ w6.cell? ⟨w.heap.size + 1 + 1, 0, none⟩ = some (.bool pc) ∧ w6.cell? ⟨w.heap.size + 1 + 1, 1, none⟩ = some (.slice Ac nc cc) := ⟨S6.out.2.2.2.2.1.facts.1, S6.out.2.2.2.2.1.facts.2.1, S6.out.2.2.2.2.2.1.facts.1, S6.out.2.2.2.2.2.1.facts.2.1, S6.out.2.2.2.2.2.2.1.facts.1, S6.out.2.2.2.2.2.2.1.facts.2.1⟩; clear h)
      | (have hst := S4; clear hst; go_at_call 32; refine (add_z S4.out.2.1 S4.out.2.2.2.1 (by have := HL.out; omega) (by have := HL.out; omega)).mono ?_; rintro e w5 ⟨v, rfl, h⟩; have S5 := Lib.hid (And.intro (S4.out.1.keep (h.below)) (And.intro (S4.out.2.1.keep (h.below)) (And.intro (S4.out.2.2.1.keep (h.below)) (And.intro (S4.out.2.2.2.1.keep (h.below)) (And.intro (S4.out.2.2.2.2.1.keep (h.below)) (And.intro (S4.out.2.2.2.2.2.1.keep (h.below)) (And.intro (S4.out.2.2.2.2.2.2.1.keep (h.below)) (And.intro (h.zn HB.out.1) (below_trans (S4.out.2.2.2.2.2.2.2) (h.below)))))))))); have HS1 : w5.cell? ⟨w.heap.size, 0, none⟩ = some (.bool pa) ∧ w5.cell? ⟨w.heap.size, 1, none⟩ = some (.slice Aa na ca) ∧ w5.cell? ⟨w.heap.size + 1, 0, none⟩ = some (.bool pb) ∧ w5.cell? ⟨w.heap.size + 1, 1, none⟩ = some (.slice Ab nb cb) ∧ w5.cell? ⟨w.heap.size + 1 + 1, 0, none⟩ = some (.bool pc) ∧ w5.cell? ⟨w.heap.size + 1 + 1, 1, none⟩ = some (.slice Ac nc cc) := ⟨S5.out.2.2.2.2.1.facts.1, S5.out.2.2.2.2.1.facts.2.1, S5.out.2.2.2.2.2.1.facts.1, S5.out.2.2.2.2.2.1.facts.2.1, S5.out.2.2.2.2.2.2.1.facts.1, S5.out.2.2.2.2.2.2.1.facts.2.1⟩; clear h))
  clear HS0 HS1 HS2 HS3 HS4 HS5 HS6 HS7 HS8 HS9
  go_wp2_with fail
  go_ret
  exact ⟨rfl, S13.out.2.2.2.2.2.2.2⟩
end Go.Proofs.YtgbfpimdnmmfpaaGreatDoor
