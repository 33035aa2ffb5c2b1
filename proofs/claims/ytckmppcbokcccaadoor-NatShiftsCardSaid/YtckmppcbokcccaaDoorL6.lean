/-
  The law NatShifts, walked.
-/
import Derived.Test.YtckmppcbokcccaaDoorI13
import Derived.Test.YtckmppcbokcccaaDoorL5
namespace Go.Proofs.YtckmppcbokcccaaDoor
open Go Go.RowKit Go.Proofs Pl
set_option linter.unusedVariables false

theorem shift_lt {m k p q : Nat} (hm : m < WB ^ p) (hk : k < q) : m * 2 ^ k < WB ^ (p + q) := by
  have e1 : 2 ^ k < 2 ^ q := Nat.pow_lt_pow_right (by decide) hk
  have e2 : 2 ^ q ≤ WB ^ q := Nat.pow_le_pow_left WB_one q
  rw [Nat.pow_add]
  exact Nat.mul_lt_mul'' hm (Nat.lt_of_lt_of_le e1 e2)
set_option maxRecDepth 100000 in
theorem shl_bad {a : Value} {n : Int} (w : World) (h : n < 0 ∨ 65536 < n) : Calls Tryd.prog 39 #[a, .int .i64 n] w fun e w' => e = .returned (.tuple #[.slice none 0 0, .int .i64 2]) ∧ w = w' := by
  by_cases h0 : n < 0
  · clear h
    go_enter Tryd.func39, Tryd.ntmps39
    go_wp2_with fail
    go_ret2
    exact ⟨rfl, rfl⟩
  · have h1 : 65536 < n := by omega
    have h2 : 0 ≤ n := by omega
    clear h h0
    go_enter Tryd.func39, Tryd.ntmps39
    go_wp2_with fail
    go_ret2
    exact ⟨rfl, rfl⟩
set_option maxRecDepth 100000 in
theorem shr_bad {a : Value} {n : Int} (w : World) (h : n < 0 ∨ 65536 < n) : Calls Tryd.prog 40 #[a, .int .i64 n] w fun e w' => e = .returned (.tuple #[.slice none 0 0, .int .i64 2]) ∧ w = w' := by
  by_cases h0 : n < 0
  · clear h
    go_enter Tryd.func40, Tryd.ntmps40
    go_wp2_with fail
    go_ret2
    exact ⟨rfl, rfl⟩
  · have h1 : 65536 < n := by omega
    have h2 : 0 ≤ n := by omega
    clear h h0
    go_enter Tryd.func40, Tryd.ntmps40
    go_wp2_with fail
    go_ret2
    exact ⟨rfl, rfl⟩
set_option maxRecDepth 100000 in
set_option maxHeartbeats 2000000 in
theorem natShifts_neg {a : Value} {xs : List Nat} {m : Nat} {n : Int} (A : Option Addr) (ca lxa : Nat) (ea : a = .slice A lxa ca) (i1 : (lxa : Int) ≤ 12) (w : World) (ht : Tab w) (ha : Nl w a xs) (la : xs.length ≤ 12) (em : val WB xs = m) (i2 : n < 0) (i3 : n ≤ 600) :
    Calls Tryd.prog 13 #[a, .int .i64 n] w fun e w' => e = .returned (.bool true) ∧ Below w.heap.size w w' := by
  have zm : m < WB ^ 12 := by rw [← em]; exact Nat.lt_of_lt_of_le (val_lt ha.all) (Nat.pow_le_pow_right WB_pos la)
  have ZM := Lib.hid zm
  have EM := Lib.hid em
  have LA := Lib.hid la
  have HT := Lib.hid ht
  subst ea
  have S0 := Lib.hid (And.intro (ha) (Below.refl w.heap.size w))
  clear ha ht zm em la
  obtain ⟨nn, hnn⟩ : ∃ nn, nn = nb m := ⟨_, rfl⟩
  have NN := Lib.hid hnn
  have hne : ((nn : Int) != (nn : Int)) = false := by simp
  clear hnn
  go_enter Tryd.func13, Tryd.ntmps13
  go_wp2_with fail
  refine (speaks_any w HT.out).mono ?_; rintro e w1 ⟨rfl, hb⟩
  have S1 := Lib.hid (And.intro (S0.out.1.keep (hb)) (below_trans (S0.out.2) (hb)))
  clear hb S0
  go_wp2_with fail
  refine (copy_nl S1.out.1 (by have := LA.out; omega)).mono ?_; rintro e w2 ⟨v2x, rfl, ho, hb⟩
  have S2 := Lib.hid (And.intro (S1.out.1.keep (hb)) (And.intro (ho.nl) (below_trans (S1.out.2) (hb))))
  clear ho hb S1
  go_wp2_with fail
  refine (shl_bad _ (by omega)).mono ?_; rintro e w' ⟨rfl, rfl⟩
  go_wp2_with fail
  refine (copy_nl S2.out.1 (by have := LA.out; omega)).mono ?_; rintro e w3 ⟨v3x, rfl, ho, hb⟩
  have S3 := Lib.hid (And.intro (S2.out.1.keep (hb)) (And.intro (ho.nl) (below_trans (S2.out.2.2) (hb))))
  clear ho hb S2
  go_wp2_with fail
  refine (shr_bad _ (by omega)).mono ?_; rintro e w' ⟨rfl, rfl⟩
  go_wp2_with fail
  refine (copy_nl S3.out.1 (by have := LA.out; omega)).mono ?_; rintro e w4 ⟨v4x, rfl, ho, hb⟩
  have S4 := Lib.hid (And.intro (S3.out.1.keep (hb)) (And.intro (ho.nl) (below_trans (S3.out.2.2) (hb))))
  clear ho hb S3
  go_wp2_with fail
  have hbt := bits_nm (show Nm _ 12 _ m from ⟨_, S4.out.2.1, LA.out, EM.out⟩) (by decide)
  rw [← NN.out] at hbt
  refine hbt.mono ?_; rintro e w5 ⟨rfl, hb⟩
  have S5 := Lib.hid (And.intro (S4.out.1.keep (hb)) (below_trans (S4.out.2.2) (hb)))
  clear hb hbt S4
  go_wp2_with fail
  have hbd := bits_doc_nl S5.out.1 (by have := LA.out; omega)
  rw [EM.out, ← NN.out] at hbd
  refine hbd.mono ?_; rintro e w' ⟨rfl, rfl⟩
  clear hbd
  go_wp2_with fail
  refine (copy_nl S5.out.1 (by have := LA.out; omega)).mono ?_; rintro e w6 ⟨v6x, rfl, ho, hb⟩
  have S6 := Lib.hid (And.intro (S5.out.1.keep (hb)) (And.intro (ho.nl) (below_trans (S5.out.2) (hb))))
  clear ho hb S5
  go_wp2_with fail
  refine (trim_nm (show Nm _ 12 _ m from ⟨_, S6.out.2.1, LA.out, EM.out⟩) (by decide)).mono ?_; rintro e w7 ⟨vt, rfl, h⟩
  have S7 := Lib.hid (And.intro (S6.out.1.keep (h.2)) (And.intro (h.nl) (below_trans (S6.out.2.2) (h.2))))
  clear h S6
  go_wp2_with fail
  refine (I.of_dn S7.out.1 LA.out (by decide) EM.out).mono ?_; rintro e w8 ⟨vm, rfl, h, hb⟩
  have S8 := Lib.hid (And.intro (S7.out.1.keep (hb)) (And.intro (S7.out.2.1.keep (hb)) (And.intro (h) (below_trans (S7.out.2.2) (hb)))))
  clear h hb S7
  go_wp2_with fail
  refine (I.to_dn (K := 12) S8.out.2.2.1 (by decide) ZM.out (by decide)).mono ?_; rintro e w9 ⟨vu, rfl, h, hb⟩
  have S9 := Lib.hid (And.intro (S8.out.1.keep (hb)) (And.intro (S8.out.2.1.keep (hb)) (And.intro (h) (below_trans (S8.out.2.2.2) (hb)))))
  clear h hb S8
  go_wp2_with fail
  refine (same_yes S9.out.2.1 S9.out.2.2.1 rfl).mono ?_; rintro e w10 ⟨rfl, hb⟩
  have S10 := Lib.hid (And.intro (S9.out.1.keep (hb)) (below_trans (S9.out.2.2.2) (hb)))
  clear hb S9
  go_wp2_with fail
  go_ret
  exact ⟨rfl, S10.out.2⟩
set_option maxRecDepth 100000 in
set_option maxHeartbeats 2000000 in
theorem natShifts_big {a : Value} {xs : List Nat} {m : Nat} {n : Int} (A : Option Addr) (ca lxa : Nat) (ea : a = .slice A lxa ca) (i1 : (lxa : Int) ≤ 12) (w : World) (ht : Tab w) (ha : Nl w a xs) (la : xs.length ≤ 12) (em : val WB xs = m) (i2 : 65536 < n) (i3 : 600 < n) (i4 : 0 ≤ n) :
    Calls Tryd.prog 13 #[a, .int .i64 n] w fun e w' => e = .returned (.bool true) ∧ Below w.heap.size w w' := by
  have zm : m < WB ^ 12 := by rw [← em]; exact Nat.lt_of_lt_of_le (val_lt ha.all) (Nat.pow_le_pow_right WB_pos la)
  have ZM := Lib.hid zm
  have EM := Lib.hid em
  have LA := Lib.hid la
  have HT := Lib.hid ht
  subst ea
  have S0 := Lib.hid (And.intro (ha) (Below.refl w.heap.size w))
  clear ha ht zm em la
  obtain ⟨nn, hnn⟩ : ∃ nn, nn = nb m := ⟨_, rfl⟩
  have NN := Lib.hid hnn
  have hne : ((nn : Int) != (nn : Int)) = false := by simp
  clear hnn
  go_enter Tryd.func13, Tryd.ntmps13
  go_wp2_with fail
  refine (speaks_any w HT.out).mono ?_; rintro e w1 ⟨rfl, hb⟩
  have S1 := Lib.hid (And.intro (S0.out.1.keep (hb)) (below_trans (S0.out.2) (hb)))
  clear hb S0
  go_wp2_with fail
  refine (copy_nl S1.out.1 (by have := LA.out; omega)).mono ?_; rintro e w2 ⟨v2x, rfl, ho, hb⟩
  have S2 := Lib.hid (And.intro (S1.out.1.keep (hb)) (And.intro (ho.nl) (below_trans (S1.out.2) (hb))))
  clear ho hb S1
  go_wp2_with fail
  refine (shl_bad _ (by omega)).mono ?_; rintro e w' ⟨rfl, rfl⟩
  go_wp2_with fail
  refine (copy_nl S2.out.1 (by have := LA.out; omega)).mono ?_; rintro e w3 ⟨v3x, rfl, ho, hb⟩
  have S3 := Lib.hid (And.intro (S2.out.1.keep (hb)) (And.intro (ho.nl) (below_trans (S2.out.2.2) (hb))))
  clear ho hb S2
  go_wp2_with fail
  refine (shr_bad _ (by omega)).mono ?_; rintro e w' ⟨rfl, rfl⟩
  go_wp2_with fail
  refine (copy_nl S3.out.1 (by have := LA.out; omega)).mono ?_; rintro e w4 ⟨v4x, rfl, ho, hb⟩
  have S4 := Lib.hid (And.intro (S3.out.1.keep (hb)) (And.intro (ho.nl) (below_trans (S3.out.2.2) (hb))))
  clear ho hb S3
  go_wp2_with fail
  have hbt := bits_nm (show Nm _ 12 _ m from ⟨_, S4.out.2.1, LA.out, EM.out⟩) (by decide)
  rw [← NN.out] at hbt
  refine hbt.mono ?_; rintro e w5 ⟨rfl, hb⟩
  have S5 := Lib.hid (And.intro (S4.out.1.keep (hb)) (below_trans (S4.out.2.2) (hb)))
  clear hb hbt S4
  go_wp2_with fail
  have hbd := bits_doc_nl S5.out.1 (by have := LA.out; omega)
  rw [EM.out, ← NN.out] at hbd
  refine hbd.mono ?_; rintro e w' ⟨rfl, rfl⟩
  clear hbd
  go_wp2_with fail
  refine (copy_nl S5.out.1 (by have := LA.out; omega)).mono ?_; rintro e w6 ⟨v6x, rfl, ho, hb⟩
  have S6 := Lib.hid (And.intro (S5.out.1.keep (hb)) (And.intro (ho.nl) (below_trans (S5.out.2) (hb))))
  clear ho hb S5
  go_wp2_with fail
  refine (trim_nm (show Nm _ 12 _ m from ⟨_, S6.out.2.1, LA.out, EM.out⟩) (by decide)).mono ?_; rintro e w7 ⟨vt, rfl, h⟩
  have S7 := Lib.hid (And.intro (S6.out.1.keep (h.2)) (And.intro (h.nl) (below_trans (S6.out.2.2) (h.2))))
  clear h S6
  go_wp2_with fail
  refine (I.of_dn S7.out.1 LA.out (by decide) EM.out).mono ?_; rintro e w8 ⟨vm, rfl, h, hb⟩
  have S8 := Lib.hid (And.intro (S7.out.1.keep (hb)) (And.intro (S7.out.2.1.keep (hb)) (And.intro (h) (below_trans (S7.out.2.2) (hb)))))
  clear h hb S7
  go_wp2_with fail
  refine (I.to_dn (K := 12) S8.out.2.2.1 (by decide) ZM.out (by decide)).mono ?_; rintro e w9 ⟨vu, rfl, h, hb⟩
  have S9 := Lib.hid (And.intro (S8.out.1.keep (hb)) (And.intro (S8.out.2.1.keep (hb)) (And.intro (h) (below_trans (S8.out.2.2.2) (hb)))))
  clear h hb S8
  go_wp2_with fail
  refine (same_yes S9.out.2.1 S9.out.2.2.1 rfl).mono ?_; rintro e w10 ⟨rfl, hb⟩
  have S10 := Lib.hid (And.intro (S9.out.1.keep (hb)) (below_trans (S9.out.2.2.2) (hb)))
  clear hb S9
  go_wp2_with fail
  go_ret
  exact ⟨rfl, S10.out.2⟩
set_option maxRecDepth 100000 in
set_option maxHeartbeats 2000000 in
theorem natShifts_good {a : Value} {xs : List Nat} {m : Nat} {k : Nat} (A : Option Addr) (ca lxa : Nat) (ea : a = .slice A lxa ca) (i1 : (lxa : Int) ≤ 12) (w : World) (ht : Tab w) (ha : Nl w a xs) (la : xs.length ≤ 12) (em : val WB xs = m) (hk : k ≤ 600) :
    Calls Tryd.prog 13 #[a, .int .i64 (k : Int)] w fun e w' => e = .returned (.bool true) ∧ Below w.heap.size w w' := by
  have zm : m < WB ^ 12 := by rw [← em]; exact Nat.lt_of_lt_of_le (val_lt ha.all) (Nat.pow_le_pow_right WB_pos la)
  have ZM := Lib.hid zm
  have EM := Lib.hid em
  have LA := Lib.hid la
  have HT := Lib.hid ht
  subst ea
  have HK := Lib.hid hk
  have zk := shift_lt (q := 601) zm (Nat.lt_of_le_of_lt hk (by decide))
  have ZK := Lib.hid zk
  have hp : 2 ^ k ≠ 0 := Nat.pos_iff_ne_zero.1 (Nat.pow_pos (by decide))
  have HP := Lib.hid hp
  have i2 : (k : Int) ≤ 600 := by omega
  have i3 : (0 : Int) ≤ (k : Int) := by omega
  have i4 : (k : Int) ≤ 65536 := by omega
  clear zk hp hk
  have S0 := Lib.hid (And.intro (ha) (Below.refl w.heap.size w))
  clear ha ht zm em la
  obtain ⟨nn, hnn⟩ : ∃ nn, nn = nb m := ⟨_, rfl⟩
  have NN := Lib.hid hnn
  have hne : ((nn : Int) != (nn : Int)) = false := by simp
  clear hnn
  go_enter Tryd.func13, Tryd.ntmps13
  go_wp2_with fail
  refine (speaks_any w HT.out).mono ?_; rintro e w1 ⟨rfl, hb⟩
  have S1 := Lib.hid (And.intro (S0.out.1.keep (hb)) (below_trans (S0.out.2) (hb)))
  clear hb S0
  go_wp2_with fail
  refine (copy_nl S1.out.1 (by have := LA.out; omega)).mono ?_; rintro e w2 ⟨v2x, rfl, ho, hb⟩
  have S2 := Lib.hid (And.intro (S1.out.1.keep (hb)) (And.intro (ho.nl) (below_trans (S1.out.2) (hb))))
  clear ho hb S1
  go_wp2_with fail
  refine (shl_nm (show Nm _ 12 _ m from ⟨_, S2.out.2.1, LA.out, EM.out⟩) (by decide) (by have := HK.out; omega)).mono ?_; rintro e w3 ⟨vl, rfl, h⟩
  have S3 := Lib.hid (And.intro (S2.out.1.keep (h.2)) (And.intro (S2.out.2.1.keep (h.2)) (And.intro (h.nl) (below_trans (S2.out.2.2) (h.2)))))
  clear h S2
  go_wp2_with fail
  refine (copy_nl S3.out.1 (by have := LA.out; omega)).mono ?_; rintro e w4 ⟨v4x, rfl, ho, hb⟩
  have S4 := Lib.hid (And.intro (S3.out.1.keep (hb)) (And.intro (S3.out.2.2.1.keep (hb)) (And.intro (ho.nl) (below_trans (S3.out.2.2.2) (hb)))))
  clear ho hb S3
  go_wp2_with fail
  refine (shr_nm (show Nm _ 12 _ m from ⟨_, S4.out.2.2.1, LA.out, EM.out⟩) (by decide) (by have := HK.out; omega)).mono ?_; rintro e w5 ⟨vr, rfl, h⟩
  have S5 := Lib.hid (And.intro (S4.out.1.keep (h.2)) (And.intro (S4.out.2.1.keep (h.2)) (And.intro (S4.out.2.2.1.keep (h.2)) (And.intro (h.nl) (below_trans (S4.out.2.2.2) (h.2))))))
  clear h S4
  go_wp2_with fail
  refine (copy_nl S5.out.1 (by have := LA.out; omega)).mono ?_; rintro e w6 ⟨v6x, rfl, ho, hb⟩
  have S6 := Lib.hid (And.intro (S5.out.1.keep (hb)) (And.intro (S5.out.2.1.keep (hb)) (And.intro (S5.out.2.2.2.1.keep (hb)) (And.intro (ho.nl) (below_trans (S5.out.2.2.2.2) (hb))))))
  clear ho hb S5
  go_wp2_with fail
  have hbt := bits_nm (show Nm _ 12 _ m from ⟨_, S6.out.2.2.2.1, LA.out, EM.out⟩) (by decide)
  rw [← NN.out] at hbt
  refine hbt.mono ?_; rintro e w7 ⟨rfl, hb⟩
  have S7 := Lib.hid (And.intro (S6.out.1.keep (hb)) (And.intro (S6.out.2.1.keep (hb)) (And.intro (S6.out.2.2.1.keep (hb)) (below_trans (S6.out.2.2.2.2) (hb)))))
  clear hb hbt S6
  go_wp2_with fail
  have hbd := bits_doc_nl S7.out.1 (by have := LA.out; omega)
  rw [EM.out, ← NN.out] at hbd
  refine hbd.mono ?_; rintro e w' ⟨rfl, rfl⟩
  clear hbd
  go_wp2_with fail
  refine (copy_nl S7.out.1 (by have := LA.out; omega)).mono ?_; rintro e w8 ⟨v8x, rfl, ho, hb⟩
  have S8 := Lib.hid (And.intro (S7.out.1.keep (hb)) (And.intro (S7.out.2.1.keep (hb)) (And.intro (S7.out.2.2.1.keep (hb)) (And.intro (ho.nl) (below_trans (S7.out.2.2.2) (hb))))))
  clear ho hb S7
  go_wp2_with fail
  refine (trim_nm (show Nm _ 12 _ m from ⟨_, S8.out.2.2.2.1, LA.out, EM.out⟩) (by decide)).mono ?_; rintro e w9 ⟨vt, rfl, h⟩
  have S9 := Lib.hid (And.intro (S8.out.1.keep (h.2)) (And.intro (S8.out.2.1.keep (h.2)) (And.intro (S8.out.2.2.1.keep (h.2)) (And.intro (h.nl) (below_trans (S8.out.2.2.2.2) (h.2))))))
  clear h S8
  go_wp2_with fail
  refine (I.of_dn S9.out.1 LA.out (by decide) EM.out).mono ?_; rintro e w10 ⟨vm, rfl, h, hb⟩
  have S10 := Lib.hid (And.intro (S9.out.1.keep (hb)) (And.intro (S9.out.2.1.keep (hb)) (And.intro (S9.out.2.2.1.keep (hb)) (And.intro (S9.out.2.2.2.1.keep (hb)) (And.intro (h) (below_trans (S9.out.2.2.2.2) (hb)))))))
  clear h hb S9
  go_wp2_with fail
  refine (I.to_dn (K := 12) S10.out.2.2.2.2.1 (by decide) ZM.out (by decide)).mono ?_; rintro e w11 ⟨vu, rfl, h, hb⟩
  have S11 := Lib.hid (And.intro (S10.out.1.keep (hb)) (And.intro (S10.out.2.1.keep (hb)) (And.intro (S10.out.2.2.1.keep (hb)) (And.intro (S10.out.2.2.2.1.keep (hb)) (And.intro (h) (below_trans (S10.out.2.2.2.2.2) (hb)))))))
  clear h hb S10
  go_wp2_with fail
  refine (same_yes S11.out.2.2.2.1 S11.out.2.2.2.2.1 rfl).mono ?_; rintro e w12 ⟨rfl, hb⟩
  have S12 := Lib.hid (And.intro (S11.out.1.keep (hb)) (And.intro (S11.out.2.1.keep (hb)) (And.intro (S11.out.2.2.1.keep (hb)) (below_trans (S11.out.2.2.2.2.2) (hb)))))
  clear hb S11
  go_wp2_with fail
  refine (I.of_dn S12.out.1 LA.out (by decide) EM.out).mono ?_; rintro e w13 ⟨vm2, rfl, h, hb⟩
  have S13 := Lib.hid (And.intro (S12.out.1.keep (hb)) (And.intro (S12.out.2.1.keep (hb)) (And.intro (S12.out.2.2.1.keep (hb)) (And.intro (h) (below_trans (S12.out.2.2.2) (hb))))))
  clear h hb S12
  go_wp2_with fail
  refine (I.power_any k _ (by have := HK.out; omega)).mono ?_; rintro e w14 ⟨vp, rfl, h, hb⟩
  have S14 := Lib.hid (And.intro (S13.out.1.keep (hb)) (And.intro (S13.out.2.1.keep (hb)) (And.intro (S13.out.2.2.1.keep (hb)) (And.intro (S13.out.2.2.2.1.keep (hb)) (And.intro (h) (below_trans (S13.out.2.2.2.2) (hb)))))))
  clear h hb S13
  go_wp2_with fail
  refine (I.divMod_dn S14.out.2.2.2.1 S14.out.2.2.2.2.1 HP.out (by decide) (by have := HK.out; omega)).mono ?_; rintro e w15 ⟨vq, vs, rfl, h, h2, hb⟩
  have S15 := Lib.hid (And.intro (S14.out.1.keep (hb)) (And.intro (S14.out.2.1.keep (hb)) (And.intro (S14.out.2.2.1.keep (hb)) (And.intro (h) (below_trans (S14.out.2.2.2.2.2) (hb))))))
  clear h h2 hb S14
  go_wp2_with fail
  refine (I.of_dn S15.out.1 LA.out (by decide) EM.out).mono ?_; rintro e w16 ⟨vm3, rfl, h, hb⟩
  have S16 := Lib.hid (And.intro (S15.out.1.keep (hb)) (And.intro (S15.out.2.1.keep (hb)) (And.intro (S15.out.2.2.1.keep (hb)) (And.intro (S15.out.2.2.2.1.keep (hb)) (And.intro (h) (below_trans (S15.out.2.2.2.2) (hb)))))))
  clear h hb S15
  go_wp2_with fail
  refine (I.power_any k _ (by have := HK.out; omega)).mono ?_; rintro e w17 ⟨vp2, rfl, h, hb⟩
  have S17 := Lib.hid (And.intro (S16.out.1.keep (hb)) (And.intro (S16.out.2.1.keep (hb)) (And.intro (S16.out.2.2.1.keep (hb)) (And.intro (S16.out.2.2.2.1.keep (hb)) (And.intro (S16.out.2.2.2.2.1.keep (hb)) (And.intro (h) (below_trans (S16.out.2.2.2.2.2) (hb))))))))
  clear h hb S16
  go_wp2_with fail
  refine (I.mul_dn S17.out.2.2.2.2.1 S17.out.2.2.2.2.2.1 (by decide) (by have := HK.out; omega)).mono ?_; rintro e w18 ⟨vz, rfl, h, hb⟩
  have S18 := Lib.hid (And.intro (S17.out.1.keep (hb)) (And.intro (S17.out.2.1.keep (hb)) (And.intro (S17.out.2.2.1.keep (hb)) (And.intro (S17.out.2.2.2.1.keep (hb)) (And.intro (h) (below_trans (S17.out.2.2.2.2.2.2) (hb)))))))
  clear h hb S17
  go_wp2_with fail
  refine (I.to_dn (K := 12 + 601) S18.out.2.2.2.2.1 (by have := HK.out; omega) ZK.out (by decide)).mono ?_; rintro e w19 ⟨vy, rfl, h, hb⟩
  have S19 := Lib.hid (And.intro (S18.out.1.keep (hb)) (And.intro (S18.out.2.1.keep (hb)) (And.intro (S18.out.2.2.1.keep (hb)) (And.intro (S18.out.2.2.2.1.keep (hb)) (And.intro (h) (below_trans (S18.out.2.2.2.2.2) (hb)))))))
  clear h hb S18
  go_wp2_with fail
  refine (same_yes S19.out.2.1 S19.out.2.2.2.2.1 rfl).mono ?_; rintro e w20 ⟨rfl, hb⟩
  have S20 := Lib.hid (And.intro (S19.out.1.keep (hb)) (And.intro (S19.out.2.2.1.keep (hb)) (And.intro (S19.out.2.2.2.1.keep (hb)) (below_trans (S19.out.2.2.2.2.2) (hb)))))
  clear hb S19
  go_wp2_with fail
  refine (I.to_dn (K := 12) S20.out.2.2.1 (by decide) (Nat.lt_of_le_of_lt (Nat.div_le_self _ _) ZM.out) (by decide)).mono ?_; rintro e w21 ⟨vo, rfl, h, hb⟩
  have S21 := Lib.hid (And.intro (S20.out.1.keep (hb)) (And.intro (S20.out.2.1.keep (hb)) (And.intro (h) (below_trans (S20.out.2.2.2) (hb)))))
  clear h hb S20
  go_wp2_with fail
  refine (same_yes S21.out.2.1 S21.out.2.2.1 rfl).mono ?_; rintro e w22 ⟨rfl, hb⟩
  have S22 := Lib.hid (And.intro (S21.out.1.keep (hb)) (below_trans (S21.out.2.2.2) (hb)))
  clear hb S21
  go_wp2_with fail
  go_ret
  exact ⟨rfl, S22.out.2⟩
theorem natShifts_long {x : Nat} {n : Int} (w : World) (ht : Tab w) (A : Option Addr) (ca : Nat) (i1 : (12 : Int) < (x : Int)) :
    Calls Tryd.prog 13 #[.slice A x ca, .int .i64 n] w fun e w' => e = .returned (.bool true) ∧ Below w.heap.size w w' := by
  have HS := Lib.hid (speaks_any w ht)
  clear ht
  go_enter Tryd.func13, Tryd.ntmps13
  go_wp2_with fail
  refine HS.out.mono ?_; rintro e w1 ⟨rfl, hb⟩
  have HB := Lib.hid hb
  clear hb
  go_wp2_with fail
  go_ret
  exact ⟨rfl, HB.out⟩
theorem natShifts_mid {x : Nat} {n : Int} (w : World) (ht : Tab w) (A : Option Addr) (ca : Nat) (i1 : (x : Int) ≤ 12) (i2 : 600 < n) (i3 : n ≤ 65536) :
    Calls Tryd.prog 13 #[.slice A x ca, .int .i64 n] w fun e w' => e = .returned (.bool true) ∧ Below w.heap.size w w' := by
  have HS := Lib.hid (speaks_any w ht)
  clear ht
  go_enter Tryd.func13, Tryd.ntmps13
  go_wp2_with fail
  refine HS.out.mono ?_; rintro e w1 ⟨rfl, hb⟩
  have HB := Lib.hid hb
  clear hb
  go_wp2_with fail
  go_ret
  exact ⟨rfl, HB.out⟩
theorem natShifts_walk (w : World) (ht : Tab w) {a : Value} {xs : List Nat} (ha : Nl w a xs) (n : Int) (hn : -9223372036854775808 ≤ n ∧ n ≤ 9223372036854775807) :
    Calls Tryd.prog 13 #[a, .int .i64 n] w fun e w' => e = .returned (.bool true) ∧ Below w.heap.size w w' := by
  have ha' := ha
  obtain ⟨A, ca, ea, -⟩ := ha'
  by_cases h : xs.length ≤ 12
  · by_cases h1 : n < 0
    · exact natShifts_neg A ca _ ea (by omega) w ht ha h rfl h1 (by omega)
    · by_cases h2 : n ≤ 600
      · obtain ⟨k, rfl⟩ := Int.eq_ofNat_of_zero_le (show 0 ≤ n by omega)
        exact natShifts_good A ca _ ea (by omega) w ht ha h rfl (by omega)
      · by_cases h3 : n ≤ 65536
        · subst ea
          exact natShifts_mid w ht A ca (by omega) (by omega) h3
        · exact natShifts_big A ca _ ea (by omega) w ht ha h rfl (by omega) (by omega) (by omega)
  · subst ea
    exact natShifts_long w ht A ca (by omega)
end Go.Proofs.YtckmppcbokcccaaDoor
