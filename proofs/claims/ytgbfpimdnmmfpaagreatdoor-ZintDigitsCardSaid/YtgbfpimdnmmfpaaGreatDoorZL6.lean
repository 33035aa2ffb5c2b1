/-
  The law ZintDigits, walked.
-/
import Derived.Test.YtgbfpimdnmmfpaaGreatDoorZL3
import Derived.Lib.SmallJoins
namespace Go.Proofs.YtgbfpimdnmmfpaaGreatDoor
open Go Go.RowKit Go.Proofs Pl
set_option linter.unusedVariables false
set_option linter.unusedSimpArgs false

theorem head_of {s : ByteArray} {c : UInt8} {l : List UInt8} (h : s.data.toList = c :: l) (h0 : 0 < s.size) : s[0] = c := by
  have h' := head_at h0
  rw [h] at h'
  injection h' with h'
  exact h'.symm
theorem dig_head (n : Nat) : ∃ c l, Lib.decDigits n = c :: l ∧ 48 ≤ c.toNat ∧ c.toNat ≤ 57 := by
  obtain ⟨h1, -, h3⟩ := dec_all (n + 1) n (Nat.lt_succ_self n)
  cases h : Lib.decDigits n with
  | nil => exact absurd h h3
  | cons c l =>
    rw [h] at h1
    have h2 := allDig_get h1 (k := 0) (by simp)
    exact ⟨c, l, rfl, by simpa using h2.1, by simpa using h2.2⟩
/-- A number's text behind its sign. -/
theorem cut_text (z : Int) : cutS (textZ z) = (decide (z < 0), ⟨(Lib.decDigits z.natAbs).toArray⟩) := by
  obtain ⟨c, l, h, h1, h2⟩ := dig_head z.natAbs
  unfold textZ
  by_cases hz : z < 0
  · rw [if_pos hz, decide_eq_true hz]
    have e : (ByteArray.mk #[45] ++ ⟨(Lib.decDigits z.natAbs).toArray⟩).data.toList = 45 :: Lib.decDigits z.natAbs := by rw [Go.Joins.data_append]; rfl
    unfold cutS
    rw [e]
    simp only [List.head?_cons, if_true]
    congr 1
    have h3 := cut_toList (ByteArray.mk #[45] ++ ⟨(Lib.decDigits z.natAbs).toArray⟩)
    rw [e] at h3
    simp only [List.drop_succ_cons, List.drop_zero] at h3
    rw [← Go.Joins.bytes_eta ((ByteArray.mk #[45] ++ ⟨(Lib.decDigits z.natAbs).toArray⟩).extract 1 _), h3]
  · rw [if_neg hz, decide_eq_false hz]
    unfold cutS
    have n1 : ¬ (some c = some (45 : UInt8)) := by rintro e; injection e with e; subst e; simp at h1
    have n2 : ¬ (some c = some (43 : UInt8)) := by rintro e; injection e with e; subst e; simp at h1
    simp only [h, List.head?_cons]
    rw [if_neg n1, if_neg n2]
theorem text_size (z : Int) : (textZ z).size = (if z < 0 then 1 else 0) + (Lib.decDigits z.natAbs).length := by
  unfold textZ
  split
  · rw [Lib.size_eq, Go.Joins.data_append]; simp; omega
  · rw [Lib.size_eq]; simp
theorem text_first {z : Int} (hz : ¬ z < 0) (h0 : 0 < (textZ z).size) : (textZ z)[0].toNat ≠ 45 := by
  obtain ⟨c, l, h, h1, h2⟩ := dig_head z.natAbs
  have e : (textZ z).data.toList = c :: l := by unfold textZ; rw [if_neg hz]; simpa using h
  rw [head_of e h0]; omega
theorem text_err (z : Int) : parseErr (cutS (textZ z)).2.data.toList = if (Lib.decDigits z.natAbs).length ≤ 200 then 0 else 1 := by
  obtain ⟨h1, h2, h3⟩ := dec_all (z.natAbs + 1) z.natAbs (Nat.lt_succ_self _)
  rw [cut_text]
  show parseErr (Lib.decDigits z.natAbs) = _
  unfold parseErr
  rw [if_neg (by rw [h1]; rintro (h | h); exact h3 h; exact absurd h (by decide))]
  by_cases h : (Lib.decDigits z.natAbs).length ≤ 200
  · rw [if_neg (by omega), if_pos h]
  · rw [if_pos (by omega), if_neg h]
theorem text_back {z : Int} (h : (Lib.decDigits z.natAbs).length ≤ 200) : readZ (textZ z) = z := by
  obtain ⟨h1, h2, h3⟩ := dec_all (z.natAbs + 1) z.natAbs (Nat.lt_succ_self _)
  unfold readZ
  rw [text_err, if_pos h, if_pos rfl, cut_text]
  show sg (decide (z < 0)) (decV (Lib.decDigits z.natAbs)) = z
  rw [h2, sg_form]
set_option maxRecDepth 100000 in
set_option maxHeartbeats 2000000 in
theorem zintDigits_big (w : World) (ht : Tab w) {a : Value} {pa : Bool} {xa : List Nat} (ha : Zl w a pa xa) (hg : 90 < xa.length) :
    Calls Tryz.prog 9 #[a] w fun e w' => e = .returned (.bool true) ∧ Below w.heap.size w w' := by
  obtain ⟨Aa, na, ca, rfl, ea, ha⟩ := ha.parts
  have d1 : decide ((90 : Int) < (na : Int)) = true := decide_eq_true (by omega)
  have S0 := Lib.hid (And.intro (ht) (Below.refl w.heap.size w))
  clear ht ha ea hg 
  go_enter Tryz.func9, Tryz.ntmps9
  go_upto_region 1 with (fail)
  obtain ⟨h1, hb⟩ := box1 w 24 (.bool pa) (.slice Aa na ca)
  have S1 := Lib.hid (And.intro (S0.out.1.keep (hb)) (And.intro (h1) (below_trans (S0.out.2) (hb))))
  clear hb h1 S0
  generalize w.alloc _ = W0 at S1 ⊢
  go_wp2_with fail
  refine (speaks_z _ S1.out.1).mono ?_; rintro e w2 ⟨rfl, hb⟩
  have S2 := Lib.hid (And.intro (S1.out.1.keep (hb)) (And.intro (S1.out.2.1.keep (hb)) (below_trans (S1.out.2.2) (hb))))
  clear hb  S1
  obtain ⟨aa, ab, -, -⟩ := S2.out.2.1.facts
  go_wp2_with fail
  go_ret
  exact ⟨rfl, S2.out.2.2⟩
set_option maxRecDepth 100000 in
set_option maxHeartbeats 2000000 in
theorem zintDigits_back (w : World) (ht : Tab w) {a : Value} {pa : Bool} {xa : List Nat} (ha : Zl w a pa xa) (la : xa.length ≤ 90) (z : Int) (hz : z = sg pa (val WB xa)) (T : ByteArray) (hT : textZ z = T) (hs : T.size ≤ 201) (he : parseErr (cutS T).2.data.toList = 0) (hr : readZ T = z) :
    Calls Tryz.prog 9 #[a] w fun e w' => e = .returned (.bool true) ∧ Below w.heap.size w w' := by
  have hza := ha.zn la
  rw [← hz] at hza
  obtain ⟨Aa, na, ca, rfl, ea, ha⟩ := ha.parts
  have d1 : decide ((90 : Int) < (na : Int)) = false := decide_eq_false (by omega)
  have d2 : decide ((201 : Int) < (T.size : Int)) = false := decide_eq_false (by omega)
  have HG := Lib.hid (And.intro hT (And.intro he (And.intro (show T.size ≤ 9223372036854775807 by omega) hr)))
  have S0 := Lib.hid (And.intro (ht) (And.intro (hza) (Below.refl w.heap.size w)))
  clear ht ha ea hza la hz hT he hs hr
  go_enter Tryz.func9, Tryz.ntmps9
  go_upto_region 1 with (fail)
  obtain ⟨h1, hb⟩ := box1 w 24 (.bool pa) (.slice Aa na ca)
  have S1 := Lib.hid (And.intro (S0.out.1.keep (hb)) (And.intro (S0.out.2.1.keep (hb)) (And.intro (h1) (below_trans (S0.out.2.2) (hb)))))
  clear hb h1 S0
  generalize w.alloc _ = W0 at S1 ⊢
  go_wp2_with fail
  refine (speaks_z _ S1.out.1).mono ?_; rintro e w2 ⟨rfl, hb⟩
  have S2 := Lib.hid (And.intro (S1.out.1.keep (hb)) (And.intro (S1.out.2.1.keep (hb)) (And.intro (S1.out.2.2.1.keep (hb)) (below_trans (S1.out.2.2.2) (hb)))))
  clear hb  S1
  obtain ⟨aa, ab, -, -⟩ := S2.out.2.2.1.facts
  go_wp2_with fail
  refine (text_z S2.out.1 S2.out.2.1 (by decide)).mono ?_; rintro e w3 ⟨rfl, hb⟩
  rw [HG.out.1]
  have S3 := Lib.hid (And.intro (S2.out.1.keep (hb)) (And.intro (S2.out.2.1.keep (hb)) (And.intro (S2.out.2.2.1.keep (hb)) (below_trans (S2.out.2.2.2) (hb)))))
  clear hb aa ab S2
  go_wp2_with fail
  refine (parse_z T _ HG.out.2.2.1).mono ?_; rintro e w4 ⟨v1, rfl, h, hb⟩
  rw [HG.out.2.1]
  rw [HG.out.2.2.2] at h
  obtain ⟨pb, Ab, lb, cb, rfl⟩ := h.parts
  have S4 := Lib.hid (And.intro (S3.out.1.keep (hb)) (And.intro (S3.out.2.1.keep (hb)) (And.intro (S3.out.2.2.1.keep (hb)) (And.intro (h) (below_trans (S3.out.2.2.2) (hb))))))
  clear h hb  S3
  go_upto_region 7 with (fail)
  obtain ⟨h0, hb⟩ := box1 w4 24 (.bool pb) (.slice Ab lb cb)
  obtain ⟨gb, hgb⟩ : ∃ g, g = w4.heap.size := ⟨_, rfl⟩
  have S5 := Lib.hid (And.intro (S4.out.1.keep (hb)) (And.intro (S4.out.2.1.keep (hb)) (And.intro (S4.out.2.2.1.keep (hb)) (And.intro (S4.out.2.2.2.1.keep (hb)) (And.intro (h0) (below_trans (S4.out.2.2.2.2) (hb)))))))
  clear hb h0 S4
  generalize (w4.alloc _) = Wb at S5 ⊢
  rw [← hgb] at S5 ⊢
  clear hgb
  obtain ⟨aa, ab, -, -⟩ := S5.out.2.2.1.facts
  obtain ⟨ba, bb, -, -⟩ := S5.out.2.2.2.2.1.facts
  go_wp2_with fail
  refine (cmp_k (cmpZ_self z) S5.out.2.1 (S5.out.2.2.2.1.zn S5.out.2.1.lt) (by decide) (by decide)).mono ?_; rintro e w6 ⟨rfl, hb⟩
  have S6 := Lib.hid (And.intro (S5.out.1.keep (hb)) (And.intro (S5.out.2.1.keep (hb)) (And.intro (S5.out.2.2.1.keep (hb)) (And.intro (S5.out.2.2.2.1.keep (hb)) (And.intro (S5.out.2.2.2.2.1.keep (hb)) (below_trans (S5.out.2.2.2.2.2) (hb)))))))
  clear hb aa ab ba bb S5
  obtain ⟨ba, bb, -, -⟩ := S6.out.2.2.2.2.1.facts
  go_wp2_with fail
  refine (text_z S6.out.1 (S6.out.2.2.2.1.zn S6.out.2.1.lt) (by decide)).mono ?_; rintro e w7 ⟨rfl, hb⟩
  rw [HG.out.1]
  have S7 := Lib.hid (And.intro (S6.out.1.keep (hb)) (And.intro (S6.out.2.1.keep (hb)) (And.intro (S6.out.2.2.1.keep (hb)) (And.intro (S6.out.2.2.2.1.keep (hb)) (And.intro (S6.out.2.2.2.2.1.keep (hb)) (below_trans (S6.out.2.2.2.2.2) (hb)))))))
  clear hb ba bb S6
  go_wp2_with fail
  go_ret
  exact ⟨rfl, S7.out.2.2.2.2.2⟩
set_option maxRecDepth 100000 in
set_option maxHeartbeats 2000000 in
theorem zintDigits_long (w : World) (ht : Tab w) {a : Value} {pa : Bool} {xa : List Nat} (ha : Zl w a pa xa) (la : xa.length ≤ 90) (z : Int) (hz : z = sg pa (val WB xa)) (T : ByteArray) (hT : textZ z = T) (hs : 201 < T.size) (hm : T.size ≤ 9223372036854775807) (he : parseErr (cutS T).2.data.toList = 1) :
    Calls Tryz.prog 9 #[a] w fun e w' => e = .returned (.bool true) ∧ Below w.heap.size w w' := by
  have hza := ha.zn la
  rw [← hz] at hza
  obtain ⟨Aa, na, ca, rfl, ea, ha⟩ := ha.parts
  have d1 : decide ((90 : Int) < (na : Int)) = false := decide_eq_false (by omega)
  have d2 : decide ((201 : Int) < (T.size : Int)) = true := decide_eq_true (by omega)
  have HG := Lib.hid (And.intro hT (And.intro he (And.intro (show T.size ≤ 9223372036854775807 by omega) trivial)))
  have S0 := Lib.hid (And.intro (ht) (And.intro (hza) (Below.refl w.heap.size w)))
  clear ht ha ea hza la hz hT he hs hm
  go_enter Tryz.func9, Tryz.ntmps9
  go_upto_region 1 with (fail)
  obtain ⟨h1, hb⟩ := box1 w 24 (.bool pa) (.slice Aa na ca)
  have S1 := Lib.hid (And.intro (S0.out.1.keep (hb)) (And.intro (S0.out.2.1.keep (hb)) (And.intro (h1) (below_trans (S0.out.2.2) (hb)))))
  clear hb h1 S0
  generalize w.alloc _ = W0 at S1 ⊢
  go_wp2_with fail
  refine (speaks_z _ S1.out.1).mono ?_; rintro e w2 ⟨rfl, hb⟩
  have S2 := Lib.hid (And.intro (S1.out.1.keep (hb)) (And.intro (S1.out.2.1.keep (hb)) (And.intro (S1.out.2.2.1.keep (hb)) (below_trans (S1.out.2.2.2) (hb)))))
  clear hb  S1
  obtain ⟨aa, ab, -, -⟩ := S2.out.2.2.1.facts
  go_wp2_with fail
  refine (text_z S2.out.1 S2.out.2.1 (by decide)).mono ?_; rintro e w3 ⟨rfl, hb⟩
  rw [HG.out.1]
  have S3 := Lib.hid (And.intro (S2.out.1.keep (hb)) (And.intro (S2.out.2.1.keep (hb)) (And.intro (S2.out.2.2.1.keep (hb)) (below_trans (S2.out.2.2.2) (hb)))))
  clear hb aa ab S2
  go_wp2_with fail
  refine (parse_z T _ HG.out.2.2.1).mono ?_; rintro e w4 ⟨v1, rfl, h, hb⟩
  rw [HG.out.2.1]
  obtain ⟨pb, Ab, lb, cb, rfl⟩ := h.parts
  have S4 := Lib.hid (And.intro (S3.out.1.keep (hb)) (And.intro (S3.out.2.1.keep (hb)) (And.intro (S3.out.2.2.1.keep (hb)) (And.intro (h) (below_trans (S3.out.2.2.2) (hb))))))
  clear h hb  S3
  go_upto_region 7 with (fail)
  obtain ⟨h0, hb⟩ := box1 w4 24 (.bool pb) (.slice Ab lb cb)
  obtain ⟨gb, hgb⟩ : ∃ g, g = w4.heap.size := ⟨_, rfl⟩
  have S5 := Lib.hid (And.intro (S4.out.1.keep (hb)) (And.intro (S4.out.2.1.keep (hb)) (And.intro (S4.out.2.2.1.keep (hb)) (And.intro (S4.out.2.2.2.1.keep (hb)) (And.intro (h0) (below_trans (S4.out.2.2.2.2) (hb)))))))
  clear hb h0 S4
  generalize (w4.alloc _) = Wb at S5 ⊢
  rw [← hgb] at S5 ⊢
  clear hgb
  go_wp2_with fail
  go_ret
  exact ⟨rfl, S5.out.2.2.2.2.2⟩
set_option maxRecDepth 100000 in
set_option maxHeartbeats 2000000 in
theorem zintDigits_edge (w : World) (ht : Tab w) {a : Value} {pa : Bool} {xa : List Nat} (ha : Zl w a pa xa) (la : xa.length ≤ 90) (z : Int) (hz : z = sg pa (val WB xa)) (T : ByteArray) (hT : textZ z = T) (hs : T.size = 201) (he : parseErr (cutS T).2.data.toList = 1) (h0 : 0 < T.size) (hf : T[0].toNat ≠ 45) :
    Calls Tryz.prog 9 #[a] w fun e w' => e = .returned (.bool true) ∧ Below w.heap.size w w' := by
  have hza := ha.zn la
  rw [← hz] at hza
  obtain ⟨Aa, na, ca, rfl, ea, ha⟩ := ha.parts
  have d1 : decide ((90 : Int) < (na : Int)) = false := decide_eq_false (by omega)
  have d2 : decide ((201 : Int) < (T.size : Int)) = false := decide_eq_false (by omega)
  have d3 : (T.size : Int) = 201 := by omega
  have d4 : (((T[0].toNat : Nat) : Int) != 45) = true := by simp; omega
  have HG := Lib.hid (And.intro hT (And.intro he (And.intro (show T.size ≤ 9223372036854775807 by omega) trivial)))
  have S0 := Lib.hid (And.intro (ht) (And.intro (hza) (Below.refl w.heap.size w)))
  clear ht ha ea hza la hz hT he hs hf
  go_enter Tryz.func9, Tryz.ntmps9
  go_upto_region 1 with (fail)
  obtain ⟨h1, hb⟩ := box1 w 24 (.bool pa) (.slice Aa na ca)
  have S1 := Lib.hid (And.intro (S0.out.1.keep (hb)) (And.intro (S0.out.2.1.keep (hb)) (And.intro (h1) (below_trans (S0.out.2.2) (hb)))))
  clear hb h1 S0
  generalize w.alloc _ = W0 at S1 ⊢
  go_wp2_with fail
  refine (speaks_z _ S1.out.1).mono ?_; rintro e w2 ⟨rfl, hb⟩
  have S2 := Lib.hid (And.intro (S1.out.1.keep (hb)) (And.intro (S1.out.2.1.keep (hb)) (And.intro (S1.out.2.2.1.keep (hb)) (below_trans (S1.out.2.2.2) (hb)))))
  clear hb  S1
  obtain ⟨aa, ab, -, -⟩ := S2.out.2.2.1.facts
  go_wp2_with fail
  refine (text_z S2.out.1 S2.out.2.1 (by decide)).mono ?_; rintro e w3 ⟨rfl, hb⟩
  rw [HG.out.1]
  have S3 := Lib.hid (And.intro (S2.out.1.keep (hb)) (And.intro (S2.out.2.1.keep (hb)) (And.intro (S2.out.2.2.1.keep (hb)) (below_trans (S2.out.2.2.2) (hb)))))
  clear hb aa ab S2
  go_wp2_with fail
  refine (parse_z T _ HG.out.2.2.1).mono ?_; rintro e w4 ⟨v1, rfl, h, hb⟩
  rw [HG.out.2.1]
  obtain ⟨pb, Ab, lb, cb, rfl⟩ := h.parts
  have S4 := Lib.hid (And.intro (S3.out.1.keep (hb)) (And.intro (S3.out.2.1.keep (hb)) (And.intro (S3.out.2.2.1.keep (hb)) (And.intro (h) (below_trans (S3.out.2.2.2) (hb))))))
  clear h hb  S3
  go_upto_region 7 with (fail)
  obtain ⟨h0, hb⟩ := box1 w4 24 (.bool pb) (.slice Ab lb cb)
  obtain ⟨gb, hgb⟩ : ∃ g, g = w4.heap.size := ⟨_, rfl⟩
  have S5 := Lib.hid (And.intro (S4.out.1.keep (hb)) (And.intro (S4.out.2.1.keep (hb)) (And.intro (S4.out.2.2.1.keep (hb)) (And.intro (S4.out.2.2.2.1.keep (hb)) (And.intro (h0) (below_trans (S4.out.2.2.2.2) (hb)))))))
  clear hb h0 S4
  generalize (w4.alloc _) = Wb at S5 ⊢
  rw [← hgb] at S5 ⊢
  clear hgb
  go_wp2_with fail
  go_ret
  exact ⟨rfl, S5.out.2.2.2.2.2⟩
theorem zintDigits_walk (w : World) (ht : Tab w) {a : Value} {pa : Bool} {xa : List Nat} (ha : Zl w a pa xa) :
    Calls Tryz.prog 9 #[a] w fun e w' => e = .returned (.bool true) ∧ Below w.heap.size w w' := by
  by_cases la : xa.length ≤ 90
  · obtain ⟨z, hz⟩ : ∃ z, z = sg pa (val WB xa) := ⟨_, rfl⟩
    have hlt := zl_abs ha la
    rw [← hz] at hlt
    have hs := text_size z
    have he := text_err z
    have hd := dec_short hlt
    by_cases h : (Lib.decDigits z.natAbs).length ≤ 200
    · rw [if_pos h] at he
      exact zintDigits_back w ht ha la z hz _ rfl (by rw [hs]; split <;> omega) he (text_back h)
    · rw [if_neg h] at he
      by_cases h2 : 201 < (textZ z).size
      · exact zintDigits_long w ht ha la z hz _ rfl h2 (by rw [hs]; split <;> omega) he
      · have hn : ¬ z < 0 := fun hn => by rw [if_pos hn] at hs; omega
        rw [if_neg hn] at hs
        exact zintDigits_edge w ht ha la z hz _ rfl (by omega) he (by omega) (text_first hn (by omega))
  · exact zintDigits_big w ht ha (by omega)
end Go.Proofs.YtgbfpimdnmmfpaaGreatDoor
