import Derived.Test.YtaajajngnmaggaaGreatENA30
namespace Go.Proofs.YtaajajngnmaggaaGreat
open Go Go.RowKit Go.Proofs
theorem below_trans {a b c : World} (h : Below a.heap.size a b) (k : Below b.heap.size b c) : Below a.heap.size a c := Yb h k
theorem below_al (w : World) (o : Obj) : Below w.heap.size w (w.alloc o) := Ya w o
end Go.Proofs.YtaajajngnmaggaaGreat

namespace Go.Proofs.YtaajajngnmaggaaGreat
section
open Go Go.RowKit Go.Proofs Pl
set_option linter.unusedVariables false
set_option linter.unusedSimpArgs false
theorem neg_lt {a b : Rat} : -a < -b ↔ b < a := ⟨fun h => by have := Rat.neg_lt_neg h; simpa using this, Rat.neg_lt_neg⟩
theorem neg_inj {a b : Rat} : -a = -b ↔ a = b := ⟨fun h => by have := congrArg (fun x => -x) h; simpa using this, fun h => by rw [h]⟩
theorem cmpQ_neg (a b : Rat) : cmpQ (-a) (-b) = cmpQ b a := by
  unfold cmpQ
  simp only [neg_lt, neg_inj]
  by_cases h : b < a
  · simp [h]
  · by_cases h2 : a = b
    · simp [h2]
    · have h3 : ¬ b = a := fun e => h2 e.symm
      simp [h, h2, h3]
theorem sgnQ_neg' (a : Rat) : sgnQ (-a) = - sgnQ a := by
  unfold sgnQ signZ
  rw [Rat.neg_num]
  by_cases h : a.num = 0
  · simp [h]
  · by_cases h2 : a.num < 0
    · simp [h2, show ¬ (-a.num) < 0 by omega, show ¬ (-a.num) = 0 by omega, h]; omega
    · simp [h2, show (-a.num) < 0 by omega, h]; omega
theorem absQ_neg (a : Rat) : absQ (-a) = absQ a := by
  unfold absQ
  by_cases h : a < 0
  · have : ¬ -a < 0 := fun h2 => by
      have h3 := Rat.neg_lt_neg h2
      rw [Rat.neg_neg] at h3
      exact absurd (rat_trans h (by simpa using h3)) (Rat.lt_irrefl)
    simp [h, this]
  · by_cases h2 : -a < 0
    · simp [h, h2]
    · have h3 : a = 0 := by
        refine Rat.le_antisymm ?_ (Rat.not_lt.1 h)
        have := Rat.neg_le_neg (Rat.not_lt.1 h2)
        simpa using this
      simp [h3]
/-- How a column stands, turned. -/
def turnS (s : Int) : Int := if s = 1 ∨ s = 2 then 3 - s else s
theorem mayQ_turn (s g : Int) (up fx : Bool) : mayQ (turnS s) g (!up) fx = mayQ s g up fx := by
  unfold mayQ turnS
  by_cases h1 : s = 1
  · subst h1; cases up <;> simp <;> omega
  · by_cases h2 : s = 2
    · subst h2; cases up <;> simp <;> omega
    · by_cases h4 : s = 4
      · subst h4; cases up <;> simp
      · simp [h1, h2, h4]
theorem okF_turn (s g : Int) (fx : Bool) : okF (turnS s) (-g) fx = okF s g fx := by
  unfold okF turnS
  by_cases h1 : s = 1
  · subst h1; simp <;> omega
  · by_cases h2 : s = 2
    · subst h2; simp <;> omega
    · simp [h1, h2] <;> omega
theorem fixedQ_turn (bl bh : Bool) (lo hi : Rat) : fixedQ bh bl (-hi) (-lo) = fixedQ bl bh lo hi := by
  unfold fixedQ
  rw [cmpQ_neg, Bool.and_comm bh bl]
theorem sub_neg' (a b : Rat) : -a - -b = b - a := by
  rw [Rat.sub_eq_add_neg, Rat.neg_neg, Rat.add_comm, ← Rat.sub_eq_add_neg]
theorem cmpQ_lt {a b : Rat} : cmpQ a b < 0 ↔ a < b := by
  unfold cmpQ
  by_cases h : a < b
  · simp [h]
  · by_cases h2 : a = b <;> simp [h, h2]
theorem cmpQ_gt {a b : Rat} : 0 < cmpQ a b ↔ b < a := by
  unfold cmpQ
  by_cases h : a < b
  · have : ¬ b < a := fun h2 => Rat.lt_irrefl (rat_trans h h2)
    simp [h, this]
  · by_cases h2 : a = b
    · subst h2; simp [Rat.lt_irrefl]
    · have : b < a := Rat.lt_iff_le_and_ne.2 ⟨Rat.not_lt.1 h, fun e => h2 e.symm⟩
      simp [h, h2, this]
/-- What is lacking, with all signs turned. -/
theorem lackQ_turn {bl bh : Bool} {lo hi x : Rat} (hc : bl = true → bh = true → ¬ hi < lo) : (lackQ bh bl (-hi) (-lo) (-x)).1 = (lackQ bl bh lo hi x).1 ∧ ((lackQ bl bh lo hi x).1 ≠ 0 → (lackQ bh bl (-hi) (-lo) (-x)).2 = !(lackQ bl bh lo hi x).2) := by
  unfold lackQ
  rw [cmpQ_neg, cmpQ_neg, sub_neg', sub_neg']
  by_cases h1 : bl = true ∧ x < lo
  · have e1 : (bl && decide (cmpQ x lo < 0)) = true := by simp [h1.1, cmpQ_lt.2 h1.2]
    have e2 : (bh && decide (cmpQ hi x < 0)) = false := by
      cases bh with
      | false => rfl
      | true =>
        have : ¬ hi < x := fun h => hc h1.1 rfl (rat_trans h h1.2)
        simpa [cmpQ_lt] using fun h => this h
    have e3 : (bl && decide (0 < cmpQ lo x)) = true := by simp [h1.1, cmpQ_gt.2 h1.2]
    simp [e1, e2, e3]
  · have e1 : (bl && decide (cmpQ x lo < 0)) = false := by
      cases bl with
      | false => rfl
      | true => simpa [cmpQ_lt] using fun h => h1 ⟨rfl, h⟩
    have e3 : (bl && decide (0 < cmpQ lo x)) = false := by
      cases bl with
      | false => rfl
      | true => simpa [cmpQ_gt] using fun h => h1 ⟨rfl, h⟩
    have e4 : (decide (cmpQ hi x < 0)) = decide (0 < cmpQ x hi) := by
      rw [decide_eq_decide, cmpQ_lt, cmpQ_gt]
    rw [e1, e3, e4]
    by_cases h2 : (bh && decide (0 < cmpQ x hi)) = true
    · simp [h2]
    · simp [h2]
theorem sorted_eq : ∀ {L M : List (Int × Rat)}, L.Perm M → SortedC L → SortedC M → (L.Pairwise fun a b => a.1 ≠ b.1) → L = M
  | [], M, hp, _, _, _ => hp.nil_eq
  | a :: L, [], hp, _, _, _ => absurd hp.symm.nil_eq (by simp)
  | a :: L, b :: M, hp, hL, hM, hd => by
    have hL' := List.pairwise_cons.1 hL
    have hM' := List.pairwise_cons.1 hM
    have hd' := List.pairwise_cons.1 hd
    have hab : a = b := by
      rcases List.mem_cons.1 (hp.mem_iff.1 (List.mem_cons_self ..)) with h | h
      · exact h
      rcases List.mem_cons.1 (hp.mem_iff.2 (List.mem_cons_self ..)) with h2 | h2
      · exact h2.symm
      exfalso
      have h3 : ¬ cfC b a < 0 := of_decide_eq_false (hL'.1 b h2)
      have h4 : ¬ cfC a b < 0 := of_decide_eq_false (hM'.1 a h)
      have h5 := hd'.1 b h2
      rw [cfC_lt] at h3 h4
      by_cases e : a.2 = b.2
      · rcases Int.lt_trichotomy a.1 b.1 with h6 | h6 | h6
        · exact h4 (.inr ⟨e, h6⟩)
        · exact h5 h6
        · exact h3 (.inr ⟨e.symm, h6⟩)
      · by_cases e2 : a.2 < b.2
        · exact h4 (.inl e2)
        · exact h3 (.inl (Rat.lt_iff_le_and_ne.2 ⟨Rat.not_lt.1 e2, fun e3 => e e3.symm⟩))
    subst hab
    rw [sorted_eq hp.cons_inv hL'.2 hM'.2 hd'.2]
def turnF (f : Fx) : Fx := fq (-f.q)
def turnR (fs : List Fx) : List Fx := fs.map turnF
def turnT (st : List Int) : List Int := st.map turnS
/-- A problem with all signs turned. -/
def turnL (l : LPx) : LPx := { l with hasLo := l.hasHi, hasHi := l.hasLo, lo := turnR l.hi, hi := turnR l.lo }
theorem turnR_q (fs : List Fx) (k : Nat) : ((turnR fs).getD k fx0).q = -(fs.getD k fx0).q := by
  unfold turnR
  rw [List.getD_eq_getElem?_getD, List.getD_eq_getElem?_getD, List.getElem?_map]
  cases fs[k]? with
  | none => show fx0.q = -fx0.q; decide +kernel
  | some f => exact fq_q _
theorem turnT_s (st : List Int) (k : Nat) : (turnT st).getD k 0 = turnS (st.getD k 0) := by
  unfold turnT
  rw [List.getD_eq_getElem?_getD, List.getD_eq_getElem?_getD, List.getElem?_map]
  cases st[k]? with
  | none => rfl
  | some f => rfl
theorem fixN_turn (l : LPx) (k : Nat) : fixN (turnL l) k = fixN l k := by
  show fixedQ (l.hasHi.getD k false) (l.hasLo.getD k false) ((turnR l.hi).getD k fx0).q ((turnR l.lo).getD k fx0).q = _
  rw [turnR_q, turnR_q, fixedQ_turn]; rfl
theorem candX_turn (l : LPx) (st : List Int) (ds rs : List Fx) (up : Bool) (k : Nat) : candX (turnL l) (turnT st) (turnR ds) rs (!up) k = candX l st ds rs up k := by
  have e1 : mayN (turnL l) (turnT st) rs (!up) = mayN l st rs up := funext fun k => by
    unfold mayN
    rw [turnT_s, fixN_turn, mayQ_turn]
  have e2 : ratN (turnR ds) rs = ratN ds rs := funext fun k => by
    unfold ratN
    rw [turnR_q, absQ_neg]
  unfold candX
  rw [e1, e2]
theorem hasN_turn (l : LPx) : hasN (turnL l) = hasN l := funext fun c => Bool.and_comm _ _
theorem wideN_turn (l : LPx) (c : Int) : wideN (turnL l) c = wideN l c := by
  show ((turnR l.lo).getD c.toNat fx0).q - ((turnR l.hi).getD c.toNat fx0).q = _
  rw [turnR_q, turnR_q, sub_neg']; rfl
theorem feas_turn (l : LPx) (st : List Int) (ds : List Fx) (k : Nat) : feasK (okN (turnL l) (turnT st) (turnR ds)) k = feasK (okN l st ds) k := by
  have e : okN (turnL l) (turnT st) (turnR ds) = okN l st ds := funext fun k => by
    unfold okN
    rw [turnT_s, turnR_q, sgnQ_neg', fixN_turn, okF_turn]
  rw [e]
/-- Both runs choose the same. -/
theorem enter_turn {l : LPx} {st : List Int} {ds rs : List Fx} {up flip : Bool} {q : Rat} {n : Nat} {L M : List (Int × Rat)} (h1 : L.Perm (candX l st ds rs up n)) (h2 : SortedC L) (h3 : M.Perm (candX (turnL l) (turnT st) (turnR ds) rs (!up) n)) (h4 : SortedC M) :
    goEnter flip (hasN (turnL l)) (fun c => absN rs c * wideN (turnL l) c) M q [] = goEnter flip (hasN l) (fun c => absN rs c * wideN l c) L q [] := by
  rw [candX_turn] at h3
  have e : L = M := sorted_eq (h1.trans h3.symm) h2 h4 ((h1.pairwise_iff (fun h e => h e.symm)).2 (candK_up n))
  rw [e, hasN_turn, show (fun c => absN rs c * wideN (turnL l) c) = fun c => absN rs c * wideN l c from funext fun c => by rw [wideN_turn]]
/-- No Lo above its Hi. -/
def NoCross (l : LPx) : Prop := ∀ k, l.hasLo.getD k false = true → l.hasHi.getD k false = true → ¬ (l.hi.getD k fx0).q < (l.lo.getD k fx0).q
theorem sL_turn {l : LPx} {xs : List Fx} (hc : NoCross l) (c : Int) : (sL (turnL l) (turnR xs) c).1 = (sL l xs c).1 ∧ ((sL l xs c).1 ≠ 0 → (sL (turnL l) (turnR xs) c).2 = !(sL l xs c).2) := by
  unfold sL
  rw [show (turnR xs).length = xs.length from List.length_map ..]
  split
  · show (lackQ (l.hasHi.getD c.toNat false) (l.hasLo.getD c.toNat false) ((turnR l.hi).getD c.toNat fx0).q ((turnR l.lo).getD c.toNat fx0).q ((turnR xs).getD c.toNat fx0).q).1 = _ ∧ (_ → (lackQ (l.hasHi.getD c.toNat false) (l.hasLo.getD c.toNat false) ((turnR l.hi).getD c.toNat fx0).q ((turnR l.lo).getD c.toNat fx0).q ((turnR xs).getD c.toNat fx0).q).2 = _)
    rw [turnR_q, turnR_q, turnR_q]
    exact lackQ_turn (hc _)
  · exact ⟨rfl, fun h => absurd rfl h⟩
theorem leave_turn {l : LPx} {bs : List Int} {xs : List Fx} {first : Bool} (hc : NoCross l) {p : Int} {up ok : Bool} (h : leaveX l bs xs first = (p, up, ok)) : ∃ up', leaveX (turnL l) bs (turnR xs) first = (p, up', ok) ∧ (ok = true → up' = !up) := by
  have hs : sLs (turnL l) (turnR xs) bs = sLs l xs bs := funext fun i => (sL_turn hc _).1
  unfold leaveX lvK at h ⊢
  rw [hs]
  cases e : leaveK first (sLs l xs bs) (cLs bs) bs.length with
  | none =>
    rw [e] at h
    injection h with h1 h2; injection h2 with h2 h3
    subst h1 h2 h3
    exact ⟨_, rfl, fun h => by cases h⟩
  | some j =>
    rw [e] at h
    injection h with h1 h2; injection h2 with h2 h3
    subst h1 h2 h3
    refine ⟨_, rfl, fun _ => (sL_turn hc _).2 fun h0 => ?_⟩
    exact (leaveK_lt e).2 ((sgn_zero _).2 h0)
end
end Go.Proofs.YtaajajngnmaggaaGreat

namespace Go.Proofs.YtaajajngnmaggaaGreat
section
open Go Go.RowKit Go.Proofs Pl
set_option linter.unusedVariables false
set_option linter.unusedSimpArgs false
namespace I
theorem turn_next {fs : List Fx} {k : Nat} {f : Fx} (h : fs[k]? = some f) : turnR (fs.take (k + 1)) = turnR (fs.take k) ++ [turnF f] := by
  rw [take_f h]; unfold turnR; rw [List.map_append]; rfl
set_option maxRecDepth 100000 in
set_option maxHeartbeats 2000000 in
theorem turned_v {w : World} {v : Value} {fs : List Fx} (h : Rx w v fs) (hl : fs.length ≤ 30) (hs : ∀ f ∈ fs, f.xs.length ≤ 6 ∧ f.ds.length ≤ 6) :
    Calls Tryz.prog 42 #[v] w fun e w' => ∃ u, e = .returned u ∧ Ro w w' u (turnR fs) := by
  obtain ⟨A, cap, rfl, -, -⟩ := h.shape
  obtain ⟨n, hn⟩ : ∃ n, fs.length = n := ⟨_, rfl⟩
  rw [hn] at h hl ⊢
  have HS := Lib.hid (And.intro h (And.intro hs hn))
  clear h hs hn
  go_enter Tryz.func42, Tryz.ntmps42
  go_upto_region 2 with (fail)
  have R0 : Hid (Ro w (w.alloc (.cells #[] 36)) (.slice (some ⟨w.heap.size, 0, none⟩) 0 0) []) := Ro.made w
  generalize w.alloc _ = W0 at R0 ⊢
  go_wp2_with fail
  go_loopw [3, 9] (fun z1 z2 wr => ∃ (k : Nat) (u1 : Value), u1 = z1 ∧ z2 = .int .i64 (k : Int) ∧ k ≤ n ∧ Hid (Ro w wr u1 (turnR (fs.take k)))) (fun _ z2 _ => n - (intOf z2).toNat)
  case atStart => exact ⟨0, _, rfl, rfl, Nat.zero_le _, R0.out⟩
  case round =>
    clear R0
    obtain ⟨k, u1, rfl, rfl, hk, H⟩ := hrel
    by_cases hlt : k < n
    · have hkx : k < fs.length := by rw [HS.out.2.2]; exact hlt
      obtain ⟨f, hf⟩ : ∃ f, fs[k]? = some f := ⟨_, List.getElem?_eq_getElem hkx⟩
      obtain ⟨g, off, cap', x, e, hgl, hFv, c0, c1, c2⟩ := (HS.out.1.keep H.out.below).at_ hf
      injection e with e1 e2 e3
      subst e1
      have hfs := HS.out.2.1 f (List.mem_of_getElem? hf)
      have hqv := Fv.qv (L := 6) hFv hfs.1 hfs.2
      have HX := Lib.hid (And.intro hqv (And.intro (hqv.sz (by decide)) (And.intro (turn_next hf) (show (turnR (fs.take k)).length ≤ 1048576 by unfold turnR; rw [List.length_map, List.length_take]; omega))))
      have d0 : (k : Int) < (n : Int) := by omega
      clear hf hgl hkx e2 e3 hFv hfs hqv
      go_upto_region 5 with (fail)
      have hal := below_al wr (.cells [Value.bool x.b, .slice x.A x.l x.k, .slice x.B x.m x.d].toArray 36)
      have K0 := Lib.hid (And.intro (H.out.keep hal) (And.intro (HX.out.1.keep hal) (Bl.new wr 36 [.bool x.b, .slice x.A x.l x.k, .slice x.B x.m x.d])))
      clear hal H c0 c1 c2
      generalize wr.alloc _ = W1 at K0 ⊢
      have z0 := Bl.ld K0.out.2.2 0 rfl
      have z1 := Bl.ld K0.out.2.2 1 rfl
      have z2 := Bl.ld K0.out.2.2 2 rfl
      go_wp2_with fail
      refine (of_e K0.out.2.1 (by decide) (by decide)).mono ?_; rintro e w4 ⟨v4, rfl, h4, hb4⟩
      obtain ⟨p4, A4, l4, k4, B4, m4, d4, rfl⟩ := h4.parts
      have K1 := Lib.hid (And.intro (K0.out.1.keep hb4) h4)
      clear h4 hb4 K0 z0 z1 z2
      go_wp2_with fail
      refine (neg_e K1.out.2 (by decide)).mono ?_; rintro e w5 ⟨v5, rfl, h5, hb5⟩
      obtain ⟨p5, A5, l5, k5, B5, m5, d5, rfl⟩ := h5.parts
      have K2 := Lib.hid (And.intro (K1.out.1.keep hb5) h5)
      clear h5 hb5 K1
      go_wp2_with fail
      refine (to_r (K := 6) K2.out.2 (by decide) HX.out.2.1.neg (by decide)).mono ?_; rintro e w6 ⟨v6, rfl, h6⟩
      have h7 := h6.fw
      obtain ⟨A6, l6, k6, B6, m6, d6, rfl⟩ := h7.fv.parts
      have K : Hid (Ro w w6 u1 (turnR (fs.take k)) ∧ Fw w w6 (.agg #[.bool (turnF f).b, .slice A6 l6 k6, .slice B6 m6 d6]) (turnF f)) := ⟨K2.out.1.keep h7.below, h7.from K2.out.1.below⟩
      clear h6 h7 K2
      go_wp2_with (at_builtin; refine app_rs rfl (.tmp 13) (.tmp 18) rfl (x := ⟨(turnF f).b, A6, l6, k6, B6, m6, d6⟩) rfl rfl (K.out.1.keep (below_al _ _)) (K.out.2.keep (below_al _ _)) (Bl.new w6 _ _) HX.out.2.2.2 ?_; intro u2 w2 k1 k2 k3)
      have K2 : Hid (Ro w w2 u2 (turnR (fs.take (k + 1)))) := by show Ro w w2 u2 (turnR (fs.take (k + 1))); rw [HX.out.2.2.1]; exact k1
      clear k1 k2 k3
      go_wp2_with fail
      case roundEnd => exact ⟨⟨k + 1, u2, rfl, by go_num, by omega, K2.out⟩, by simp [intOf]; omega⟩
    · have d0 : ¬ (k : Int) < (n : Int) := by omega
      have hf : Hid (Ro w wr u1 (turnR fs)) := by
        have h := H.out
        rw [List.take_of_length_le (by rw [HS.out.2.2]; omega)] at h
        exact h
      go_wp2_with fail
      go_ret
      exact ⟨_, rfl, hf.out⟩
/-- A fraction's other sign has no more words. -/
theorem turnF_len {f : Fx} (h : Sz 6 f.q) : (turnF f).xs.length ≤ 6 ∧ (turnF f).ds.length ≤ 6 := by
  have h1 := h.neg
  exact ⟨dg_length_le WB_one h1.1, dg_length_le WB_one h1.2⟩
end I
end
end Go.Proofs.YtaajajngnmaggaaGreat

namespace Go.Proofs.YtaajajngnmaggaaGreat
section
open Go Go.RowKit Go.Proofs Pl
set_option linter.unusedVariables false
set_option linter.unusedSimpArgs false
theorem turnT_next {st : List Int} {k : Nat} {s : Int} (h : st[k]? = some s) : turnT (st.take (k + 1)) = turnT (st.take k) ++ [turnS s] := by
  rw [take_f h]; unfold turnT; rw [List.map_append]; rfl
theorem turnR_length (fs : List Fx) : (turnR fs).length = fs.length := List.length_map ..
theorem turnT_length (st : List Int) : (turnT st).length = st.length := List.length_map ..
/-- None of the first k crosses. -/
def NoC (l : LPx) (k : Nat) : Prop := ∀ j, j < k → l.hasLo.getD j false = true → l.hasHi.getD j false = true → ¬ (l.hi.getD j fx0).q < (l.lo.getD j fx0).q
theorem NoC.step {l : LPx} {k : Nat} (h : NoC l k) (hk : l.hasLo.getD k false = true → l.hasHi.getD k false = true → ¬ (l.hi.getD k fx0).q < (l.lo.getD k fx0).q) : NoC l (k + 1) := fun j hj => by
  rcases Nat.lt_or_ge j k with h1 | h1
  · exact h j h1
  · obtain rfl : j = k := by omega
    exact hk
theorem NoC.all {l : LPx} {k : Nat} (h : NoC l k) (hl : l.hasLo.length ≤ k) : NoCross l := fun j h1 => by
  rcases Nat.lt_or_ge j k with h2 | h2
  · exact h j h2 h1
  · rw [List.getD_eq_getElem?_getD, List.getElem?_eq_none (by omega)] at h1
    cases h1
theorem turn_len {w : World} {v : Value} {fs : List Fx} (h : Rx w v fs) (hs : ∀ f ∈ fs, f.xs.length ≤ 6 ∧ f.ds.length ≤ 6) : ∀ f ∈ turnR fs, f.xs.length ≤ 6 ∧ f.ds.length ≤ 6 := fun f hf => by
  obtain ⟨g, hg, rfl⟩ := List.mem_map.1 hf
  exact I.turnF_len (rx_sz h hs g hg)
theorem turn_fit {w : World} {u v : Value} {l : LPx} (h1 : Rx w u l.lo) (h2 : Rx w v l.hi) (hf : Fit30 l) : Fit30 (turnL l) := by
  obtain ⟨⟨e1, e2, e3⟩, e4, e5, e6⟩ := hf
  have k1 := turn_len h1 fun f hf => e3 f (.inl hf)
  have k2 := turn_len h2 fun f hf => e3 f (.inr (.inl hf))
  refine ⟨⟨e1, e2, fun f hf => ?_⟩, Nat.le_trans (Nat.le_of_eq (turnR_length l.hi)) e5, Nat.le_trans (Nat.le_of_eq (turnR_length l.lo)) e4, e6⟩
  rcases hf with hf | hf | hf
  · exact k2 f hf
  · exact k1 f hf
  · exact e3 f (.inr (.inr hf))
namespace I
set_option maxRecDepth 100000 in
set_option maxHeartbeats 8000000 in
theorem turns_walk {w : World} {v u y d r : Value} {l : LPx} {bs st : List Int} {ds rs : List Fx} {up sb flip : Bool} {As Bs : Option Addr} {ls cs ms ds_ : Nat} {sh : Fx} (h : LPv w v l) (hf : Sane l) (hb : Iv w u bs) (hs : Iv w y st) (hd : Rx w d ds) (hds : ∀ f ∈ ds, f.xs.length ≤ 2305843009213693951 ∧ f.ds.length ≤ 2305843009213693951) (hr : Rx w r rs) (hrs : ∀ f ∈ rs, f.xs.length ≤ 2305843009213693951 ∧ f.ds.length ≤ 2305843009213693951) (hq : Fv w (.agg #[.bool sb, .slice As ls cs, .slice Bs ms ds_]) sh) (hsh : sh.xs.length + sh.ds.length ≤ 4611686018427387903) :
    Calls Tryz.prog 8 #[v, .agg #[u, y], .agg #[d, r, .bool up, .bool sb, .slice As ls cs, .slice Bs ms ds_, .bool flip]] w fun e w' => e = .returned (.bool true) ∧ Below w.heap.size w w' := by
  have hlp := h
  obtain ⟨aA, an, ac, bA, bn, bc, cA, cn, cc, dA, dn, dc, eA, en, ec, fA, fn, fc, rfl, hP, hla, hlb, hlc, hld, hle, hlf, hma, hmb, hmc, hmd, hme, hmf⟩ := h.open
  obtain ⟨Au, cu, rfl, hz1, hz2⟩ := hb.shape
  obtain ⟨Av, cv, rfl, -, -⟩ := hs.shape
  obtain ⟨Ay, cy, rfl, -, -⟩ := hd.shape
  obtain ⟨Az, cz, rfl, -, -⟩ := hr.shape
  obtain ⟨n, hnn⟩ : ∃ n, bs.length = n := ⟨_, rfl⟩
  obtain ⟨m, hnm⟩ : ∃ n, st.length = n := ⟨_, rfl⟩
  obtain ⟨N, hnN⟩ : ∃ n, ds.length = n := ⟨_, rfl⟩
  obtain ⟨M, hnM⟩ : ∃ n, rs.length = n := ⟨_, rfl⟩
  rw [hnn] at hb ⊢
  rw [hnm] at hs ⊢
  rw [hnN] at hd ⊢
  rw [hnM] at hr ⊢
  have HS := Lib.hid (And.intro hlp (And.intro hb (And.intro hs (And.intro hd (And.intro hr hq)))))
  have HN := Lib.hid (And.intro hnn (And.intro hnm (And.intro hnN hnM)))
  have HF := Lib.hid (And.intro hf (And.intro hds (And.intro hrs hsh)))
  have HP := Lib.hid hP
  have HLN := Lib.hid (And.intro hla (And.intro hlb (And.intro hlc (And.intro hld (And.intro hle hlf)))))
  clear hP hlp hb hs hd hr hq hnn hnm hnN hnM hf hds hrs hsh hz1 hz2 hla hlb hlc hld hle hlf hma hmb hmc hmd hme hmf h
  change Calls Tryz.prog 8 #[.agg #[.int .i64 l.n, .slice aA an ac, .slice bA bn bc, .slice cA cn cc, .slice dA dn dc, .slice eA en ec, .slice fA fn fc], .agg #[.slice Au n cu, .slice Av m cv], .agg #[.slice Ay N cy, .slice Az M cz, .bool up, .bool sb, .slice As ls cs, .slice Bs ms ds_, .bool flip]] w _
  go_enter Tryz.func8, Tryz.ntmps8
  go_upto_region 1 with (fail)
  obtain ⟨hX, hT, hU, hB⟩ := box3 w 26 75 82 [.int .i64 l.n, .slice aA an ac, .slice bA bn bc, .slice cA cn cc, .slice dA dn dc, .slice eA en ec, .slice fA fn fc] [.slice Au n cu, .slice Av m cv] [.slice Ay N cy, .slice Az M cz, .bool up, .bool sb, .slice As ls cs, .slice Bs ms ds_, .bool flip]
  have H0 := Lib.hid (And.intro hX (And.intro hT (And.intro hU hB)))
  clear hX hT hU hB
  generalize ((w.alloc _).alloc _).alloc _ = W0 at H0 ⊢
  go_wp2_with fail
  refine (speaks13).mono ?_; rintro e w1 ⟨rfl, hb⟩
  have H1 := Lib.hid (And.intro (H0.out.1.keep hb) (And.intro (H0.out.2.1.keep hb) (And.intro (H0.out.2.2.1.keep hb) (below_trans H0.out.2.2.2 hb))))
  clear H0
  clear hb
  have l0 := Bl.ld (H1.out.1) 0 rfl
  have l1 := Bl.ld (H1.out.1) 1 rfl
  have l2 := Bl.ld (H1.out.1) 2 rfl
  have l3 := Bl.ld (H1.out.1) 3 rfl
  have l4 := Bl.ld (H1.out.1) 4 rfl
  have l5 := Bl.ld (H1.out.1) 5 rfl
  have l6 := Bl.ld (H1.out.1) 6 rfl
  have b0 := Bl.ld (H1.out.2.1) 0 rfl
  have b1 := Bl.ld (H1.out.2.1) 1 rfl
  go_wp2_with fail
  refine (stands13 (HS.out.1.keep H1.out.2.2.2) (HS.out.2.1.keep H1.out.2.2.2) (HS.out.2.2.1.keep H1.out.2.2.2) HF.out.1).mono ?_; rintro e w2 ⟨⟨r, rfl, hr⟩, hb⟩
  have H2 := Lib.hid (And.intro (H1.out.1.keep hb) (And.intro (H1.out.2.1.keep hb) (And.intro (H1.out.2.2.1.keep hb) (below_trans H1.out.2.2.2 hb))))
  clear H1
  have HR := Lib.hid hr
  clear hb hr l0 l1 l2 l3 l4 l5 l6 b0 b1
  cases r with
  | false =>
    go_wp2_with fail
    go_ret
    exact ⟨rfl, H2.out.2.2.2⟩
  | true =>
    have HSQ := Lib.hid (HR.out rfl)
    clear HR
    have n0 := Bl.ld (H2.out.2.2.1) 0 rfl
    have n1 := Bl.ld (H2.out.2.2.1) 1 rfl
    have l1 := Bl.ld (H2.out.1) 1 rfl
    by_cases hNa : an = N
    · skip
      subst hNa
      have hNN : ((an : Int) != (an : Int)) = false := by simp
      by_cases hMa : an = M
      · skip
        subst hMa
        have HFT : Hid (Fit30 l) := HSQ.out.2.2.2.2
        go_wp2_with fail
        refine (greatAll_r (HS.out.2.2.2.1.keep H2.out.2.2.2) HF.out.2.1).mono ?_; rintro e w2 ⟨⟨r, rfl, hr⟩, hb⟩
        have H3 := Lib.hid (And.intro (H2.out.1.keep hb) (And.intro (H2.out.2.1.keep hb) (And.intro (H2.out.2.2.1.keep hb) (below_trans H2.out.2.2.2 hb))))
        clear H2
        have HR := Lib.hid hr
        clear hb hr n0 n1 l1
        cases r with
        | true =>
          go_wp2_with fail
          go_ret
          exact ⟨rfl, H3.out.2.2.2⟩
        | false =>
          have HD := Lib.hid (HR.out rfl)
          clear HR
          have n1 := Bl.ld (H3.out.2.2.1) 1 rfl
          go_wp2_with fail
          refine (greatAll_r (HS.out.2.2.2.2.1.keep H3.out.2.2.2) HF.out.2.2.1).mono ?_; rintro e w2 ⟨⟨r, rfl, hr⟩, hb⟩
          have H4 := Lib.hid (And.intro (H3.out.1.keep hb) (And.intro (H3.out.2.1.keep hb) (And.intro (H3.out.2.2.1.keep hb) (below_trans H3.out.2.2.2 hb))))
          clear H3
          have HR := Lib.hid hr
          clear hb hr n1
          cases r with
          | true =>
            go_wp2_with fail
            go_ret
            exact ⟨rfl, H4.out.2.2.2⟩
          | false =>
            have HW := Lib.hid (HR.out rfl)
            clear HR
            have HDS : Hid (∀ f ∈ ds, f.xs.length ≤ 6 ∧ f.ds.length ≤ 6) := fun f hf => by have := HD.out.2 f hf; omega
            have HRS : Hid (∀ f ∈ rs, f.xs.length ≤ 6 ∧ f.ds.length ≤ 6) := fun f hf => by have := HW.out.2 f hf; omega
            have n3 := Bl.ld (H4.out.2.2.1) 3 rfl
            have n4 := Bl.ld (H4.out.2.2.1) 4 rfl
            have n5 := Bl.ld (H4.out.2.2.1) 5 rfl
            go_wp2_with fail
            refine (words_qb (HS.out.2.2.2.2.2.keep H4.out.2.2.2) HF.out.2.2.2).mono ?_; rintro e w3 ⟨rfl, hb⟩
            have H5 := Lib.hid (And.intro (H4.out.1.keep hb) (And.intro (H4.out.2.1.keep hb) (And.intro (H4.out.2.2.1.keep hb) (below_trans H4.out.2.2.2 hb))))
            clear H4
            clear hb n3 n4 n5
            obtain ⟨kk, hkk⟩ : ∃ kk, sh.xs.length + sh.ds.length = kk := ⟨_, rfl⟩
            rw [hkk]
            by_cases hk6 : (6 : Int) < (kk : Int)
            · skip
              go_wp2_with fail
              go_ret
              exact ⟨rfl, H5.out.2.2.2⟩
            · skip
              have HSH : Hid (sh.xs.length ≤ 6 ∧ sh.ds.length ≤ 6) := ⟨by omega, by omega⟩
              have HFO : Hid (fitsOne l ds.length) := by
                rw [HN.out.2.2.1, ← HLN.out.1]
                have := HSQ.out.1.1
                exact ⟨rfl, this.2.2.1, this.2.2.2.1, this.2.2.2.2.1, this.2.2.2.2.2.1⟩
              have HST : Hid (ds.length = an ∧ st.length = an ∧ rs.length = an) := ⟨HN.out.2.2.1, by rw [HSQ.out.2.1.1, HLN.out.1], HN.out.2.2.2⟩
              have HLA : Hid (bn = an ∧ cn = an ∧ dn = an ∧ en = an ∧ an ≤ 14) := by
                have e1 := HFO.out
                have e2 := HLN.out
                have e3 := HST.out.1
                have e4 := HFT.out.1.1
                obtain ⟨h1, h2, h3, h4, h5⟩ := e1
                exact ⟨by omega, by omega, by omega, by omega, by omega⟩
              have l1 := Bl.ld (H5.out.1) 1 rfl
              go_wp2_with fail
              clear hkk hk6
              go_loopw [67] (fun z wr => ∃ k : Nat, z = .int .i64 (k : Int) ∧ k ≤ an ∧ Hid (NoC l k ∧ Bl wr 26 w.heap.size [.int .i64 l.n, .slice aA an ac, .slice bA bn bc, .slice cA cn cc, .slice dA dn dc, .slice eA en ec, .slice fA fn fc] ∧ Bl wr 75 (w.heap.size + 1) [.slice Au n cu, .slice Av m cv] ∧ Bl wr 82 (w.heap.size + 2) [.slice Ay an cy, .slice Az an cz, .bool up, .bool sb, .slice As ls cs, .slice Bs ms ds_, .bool flip] ∧ Below w.heap.size w wr)) (fun z _ => an - (intOf z).toNat)
              case atStart => exact ⟨0, rfl, Nat.zero_le _, fun j hj => absurd hj (Nat.not_lt_zero _), H5.out⟩
              case round =>
                obtain ⟨k, rfl, hk, H⟩ := hrel
                have h14 : an ≤ 14 := HLA.out.2.2.2.2
                by_cases hlt : k < an
                · skip
                  have HB := Lib.hid H.out.2.2.2.2
                  have hA := HLA.out
                  obtain ⟨bl, bh, f, g, dx, h1, h2, h3, h4, -⟩ := el_ex (xs := ds) (c := k) HFO.out (by rw [HST.out.1]; exact hlt)
                  obtain ⟨gb, ob, _, e, hgb, zb0⟩ := HP.out.2.1.at_ h1
                  rw [HLN.out.2.1] at e
                  injection e with e1 e2 e3
                  subst e1
                  clear e2 e3
                  obtain ⟨gc, oc, _, e, hgc, zc0⟩ := HP.out.2.2.1.at_ h2
                  rw [HLN.out.2.2.1] at e
                  injection e with e1 e2 e3
                  subst e1
                  clear e2 e3
                  obtain ⟨gd, od, _, xd, e, hgd, hvd, zd0, zd1, zd2⟩ := HP.out.2.2.2.1.at_ h3
                  rw [HLN.out.2.2.2.1] at e
                  injection e with e1 e2 e3
                  subst e1
                  clear e2 e3
                  obtain ⟨ge, oe, _, xe, e, hge, hve, ze0, ze1, ze2⟩ := HP.out.2.2.2.2.1.at_ h4
                  rw [HLN.out.2.2.2.2.1] at e
                  injection e with e1 e2 e3
                  subst e1
                  clear e2 e3
                  have z3 := HFT.out.1.2.2 f (.inl (List.mem_of_getElem? h3))
                  have z4 := HFT.out.1.2.2 g (.inr (.inl (List.mem_of_getElem? h4)))
                  have HV := Lib.hid (And.intro (Fv.qv (L := 6) hvd z3.1 z3.2) (Fv.qv (L := 6) hve z4.1 z4.2))
                  have HGD : Hid (l.hasLo.getD k false = bl ∧ l.hasHi.getD k false = bh ∧ (l.hi.getD k fx0).q = g.q ∧ (l.lo.getD k fx0).q = f.q) := by
                    refine ⟨?_, ?_, ?_, ?_⟩ <;> simp [List.getD_eq_getElem?_getD, h1, h2, h3, h4]
                  have HY : Hid (∀ W, Below w.heap.size w W → W.cell? ⟨gb,ob+k,none⟩=some (.bool bl)∧W.cell? ⟨gc,oc+k,none⟩=some (.bool bh)∧W.cell? ⟨gd,od+k*3,none⟩=some (.bool xd.b)∧W.cell? ⟨gd,od+k*3+1,none⟩=some (.slice xd.A xd.l xd.k)∧W.cell? ⟨gd,od+k*3+2,none⟩=some (.slice xd.B xd.m xd.d)∧W.cell? ⟨ge,oe+k*3,none⟩=some (.bool xe.b)∧W.cell? ⟨ge,oe+k*3+1,none⟩=some (.slice xe.A xe.l xe.k)∧W.cell? ⟨ge,oe+k*3+2,none⟩=some (.slice xe.B xe.m xe.d)) := fun W b => ⟨(b.cell (p := ⟨gb, _, none⟩) hgb).trans zb0, (b.cell (p := ⟨gc, _, none⟩) hgc).trans zc0, (b.cell (p := ⟨gd, _, none⟩) hgd).trans zd0, (b.cell (p := ⟨gd, _, none⟩) hgd).trans zd1, (b.cell (p := ⟨gd, _, none⟩) hgd).trans zd2, (b.cell (p := ⟨ge, _, none⟩) hge).trans ze0, (b.cell (p := ⟨ge, _, none⟩) hge).trans ze1, (b.cell (p := ⟨ge, _, none⟩) hge).trans ze2⟩
                  have hlN : (k : Int) < (an : Int) := by omega
                  have ixb : (k : Int) < (bn : Int) := by omega
                  have ixc : (k : Int) < (cn : Int) := by omega
                  have ixd : (k : Int) < (dn : Int) := by omega
                  have ixe : (k : Int) < (en : Int) := by omega
                  clear h1 h2 h3 h4 z3 z4 hvd hve zb0 zc0 zd0 zd1 zd2 ze0 ze1 ze2 hgb hgc hgd hge hA
                  go_upto_region 8 with (fail)
                  cases bl with
                  | false =>
                    as_aux_lemma =>
                      refine flow (fun W=>Below wr.heap.size wr W∧W.cell? ⟨w.heap.size,2,none⟩=some (.slice (some ⟨gb, ob, none⟩) bn bc)∧W.cell? ⟨w.heap.size,3,none⟩=some (.slice (some ⟨gc, oc, none⟩) cn cc)∧W.cell? ⟨w.heap.size,4,none⟩=some (.slice (some ⟨gd, od, none⟩) dn dc)∧W.cell? ⟨w.heap.size,5,none⟩=some (.slice (some ⟨ge, oe, none⟩) en ec)∧W.cell? ⟨gb,ob+k,none⟩=some (.bool false)∧W.cell? ⟨gc,oc+k,none⟩=some (.bool bh)∧W.cell? ⟨gd,od+k*3,none⟩=some (.bool xd.b)∧W.cell? ⟨gd,od+k*3+1,none⟩=some (.slice xd.A xd.l xd.k)∧W.cell? ⟨gd,od+k*3+2,none⟩=some (.slice xd.B xd.m xd.d)∧W.cell? ⟨ge,oe+k*3,none⟩=some (.bool xe.b)∧W.cell? ⟨ge,oe+k*3+1,none⟩=some (.slice xe.A xe.l xe.k)∧W.cell? ⟨ge,oe+k*3+2,none⟩=some (.slice xe.B xe.m xe.d)) (fun _ _=>True) (fun _ _=>False) 0 [⟨[],[(0,70),(1,71),(2,72),(3,73),(4,74),(5,75),(6,76),(7,77),(8,78),(9,79),(10,80),(11,81),(12,82),(13,83),(14,84),(15,85),(16,86),(17,87),(19,89),(20,90),(21,91),(22,92),(23,93)],[],[(18,88,fun v W=>v=undef),(24,94,fun v W=>v=undef)]⟩, ⟨[(25,95)],[(0,70),(1,71),(2,72),(3,73),(4,74),(5,75),(6,76),(7,77),(8,78),(9,79),(10,80),(11,81),(12,82),(26,96),(27,97)],[],[]⟩, ⟨[(18,88),(24,94)],[(0,70),(1,71),(2,72),(3,73),(4,74),(5,75),(6,76),(7,77),(8,78),(9,79),(10,80),(11,81),(12,82)],[],[(25,95,fun v W=>v=undef)]⟩] [] [] ⟨[(18,88),(24,94),(25,95)],[(0,70),(1,71),(2,72),(3,73),(4,74),(5,75),(6,76),(7,77),(8,78),(9,79),(10,80),(11,81),(12,82),(13,83),(14,84),(15,85),(16,86),(17,87),(19,89),(20,90),(21,91),(22,92),(23,93),(26,96),(27,97)],[],[]⟩ ⟨below_nil,Bl.ld (H.out.2.1.keep below_nil) 2 rfl,Bl.ld (H.out.2.1.keep below_nil) 3 rfl,Bl.ld (H.out.2.1.keep below_nil) 4 rfl,Bl.ld (H.out.2.1.keep below_nil) 5 rfl,HY.out _ (below_trans H.out.2.2.2.2 below_nil)⟩ (trivial) (fun _ _ h b=>⟨(below_trans h.1 b),Bl.ld (H.out.2.1.keep (below_trans h.1 b)) 2 rfl,Bl.ld (H.out.2.1.keep (below_trans h.1 b)) 3 rfl,Bl.ld (H.out.2.1.keep (below_trans h.1 b)) 4 rfl,Bl.ld (H.out.2.1.keep (below_trans h.1 b)) 5 rfl,HY.out _ (below_trans H.out.2.2.2.2 (below_trans h.1 b))⟩) (fun _ _ _ h _=>h) ⟨fun _ _ _ h _=>h,fun _ _ _ _ h=>h.elim,⟨fun _ _ _ h _=>h,fun _ _ _ _ h=>h.elim,⟨fun _ _ _ h _=>h,fun _ _ _ _ h=>h.elim,trivial⟩⟩⟩ ⟨?_,?_,?_,trivial⟩ trivial trivial ?_
                      · rintro W hS
                        refine gvN ?_;(repeat first|refine flA ?_|refine flB ?_);refine flN (flN ?_)
                        refine flK (fun K hK=>?_) (flK (fun K hK=>?_) flL)
                        · go_simp
                          exact hK.out _ _ ⟨rfl,below_nil⟩
                        · go_simp
                          exact hK.out _ _ ⟨rfl,below_nil⟩
                      · rintro W hS v25 rfl
                        refine gvN ?_;(repeat first|refine flA ?_|refine flB ?_);refine flN (flN ?_)
                        exact flL
                      · rintro W hS v18 rfl v24 rfl
                        refine gvN ?_;(repeat first|refine flA ?_|refine flB ?_);refine flN (flN ?_)
                        refine flK (fun K hK=>?_) flL
                        go_simp
                        exact hK.out _ _ ⟨rfl,below_nil⟩
                      rintro W hS - v18 rfl v24 rfl v25 rfl
                      have hS:=hS flY
                      refine gvN ?_;(repeat first|refine flA ?_|refine flB ?_);refine flN (flN ?_)
                      obtain ⟨W9, hWW⟩ : ∃ X, X = W := ⟨_, rfl⟩
                      subst hWW
                      have H9 := Lib.hid (And.intro H.out.1 (And.intro (H.out.2.1.keep hS.1) (And.intro (H.out.2.2.1.keep hS.1) (And.intro (H.out.2.2.2.1.keep hS.1) ((below_trans H.out.2.2.2.2 hS.1))))))
                      clear hS H HB
                      go_wp2_with fail
                      case roundEnd => exact ⟨⟨k + 1, by go_num, by omega, NoC.step H9.out.1 (by rw [HGD.out.1, HGD.out.2.1, HGD.out.2.2.1, HGD.out.2.2.2]; exact fun h => absurd h (by decide)), H9.out.2⟩, by simp [intOf]; omega⟩
                  | true =>
                    cases bh with
                    | false =>
                      as_aux_lemma =>
                        refine flow (fun W=>Below wr.heap.size wr W∧W.cell? ⟨w.heap.size,2,none⟩=some (.slice (some ⟨gb, ob, none⟩) bn bc)∧W.cell? ⟨w.heap.size,3,none⟩=some (.slice (some ⟨gc, oc, none⟩) cn cc)∧W.cell? ⟨w.heap.size,4,none⟩=some (.slice (some ⟨gd, od, none⟩) dn dc)∧W.cell? ⟨w.heap.size,5,none⟩=some (.slice (some ⟨ge, oe, none⟩) en ec)∧W.cell? ⟨gb,ob+k,none⟩=some (.bool true)∧W.cell? ⟨gc,oc+k,none⟩=some (.bool false)∧W.cell? ⟨gd,od+k*3,none⟩=some (.bool xd.b)∧W.cell? ⟨gd,od+k*3+1,none⟩=some (.slice xd.A xd.l xd.k)∧W.cell? ⟨gd,od+k*3+2,none⟩=some (.slice xd.B xd.m xd.d)∧W.cell? ⟨ge,oe+k*3,none⟩=some (.bool xe.b)∧W.cell? ⟨ge,oe+k*3+1,none⟩=some (.slice xe.A xe.l xe.k)∧W.cell? ⟨ge,oe+k*3+2,none⟩=some (.slice xe.B xe.m xe.d)) (fun _ _=>True) (fun _ _=>False) 0 [⟨[],[(0,70),(1,71),(2,72),(3,73),(4,74),(5,75),(6,76),(7,77),(8,78),(9,79),(10,80),(11,81),(12,82),(13,83),(14,84),(15,85),(16,86),(17,87),(19,89),(20,90),(21,91),(22,92),(23,93)],[],[(18,88,fun v W=>v=undef),(24,94,fun v W=>v=undef)]⟩, ⟨[(25,95)],[(0,70),(1,71),(2,72),(3,73),(4,74),(5,75),(6,76),(7,77),(8,78),(9,79),(10,80),(11,81),(12,82),(26,96),(27,97)],[],[]⟩, ⟨[(18,88),(24,94)],[(0,70),(1,71),(2,72),(3,73),(4,74),(5,75),(6,76),(7,77),(8,78),(9,79),(10,80),(11,81),(12,82)],[],[(25,95,fun v W=>v=undef)]⟩] [] [] ⟨[(18,88),(24,94),(25,95)],[(0,70),(1,71),(2,72),(3,73),(4,74),(5,75),(6,76),(7,77),(8,78),(9,79),(10,80),(11,81),(12,82),(13,83),(14,84),(15,85),(16,86),(17,87),(19,89),(20,90),(21,91),(22,92),(23,93),(26,96),(27,97)],[],[]⟩ ⟨below_nil,Bl.ld (H.out.2.1.keep below_nil) 2 rfl,Bl.ld (H.out.2.1.keep below_nil) 3 rfl,Bl.ld (H.out.2.1.keep below_nil) 4 rfl,Bl.ld (H.out.2.1.keep below_nil) 5 rfl,HY.out _ (below_trans H.out.2.2.2.2 below_nil)⟩ (trivial) (fun _ _ h b=>⟨(below_trans h.1 b),Bl.ld (H.out.2.1.keep (below_trans h.1 b)) 2 rfl,Bl.ld (H.out.2.1.keep (below_trans h.1 b)) 3 rfl,Bl.ld (H.out.2.1.keep (below_trans h.1 b)) 4 rfl,Bl.ld (H.out.2.1.keep (below_trans h.1 b)) 5 rfl,HY.out _ (below_trans H.out.2.2.2.2 (below_trans h.1 b))⟩) (fun _ _ _ h _=>h) ⟨fun _ _ _ h _=>h,fun _ _ _ _ h=>h.elim,⟨fun _ _ _ h _=>h,fun _ _ _ _ h=>h.elim,⟨fun _ _ _ h _=>h,fun _ _ _ _ h=>h.elim,trivial⟩⟩⟩ ⟨?_,?_,?_,trivial⟩ trivial trivial ?_
                        · rintro W hS
                          refine gvN ?_;(repeat first|refine flA ?_|refine flB ?_);refine flN (flN ?_)
                          refine flK (fun K hK=>?_) (flK (fun K hK=>?_) flL)
                          · go_simp
                            exact hK.out _ _ ⟨rfl,below_nil⟩
                          · go_simp
                            exact hK.out _ _ ⟨rfl,below_nil⟩
                        · rintro W hS v25 rfl
                          refine gvN ?_;(repeat first|refine flA ?_|refine flB ?_);refine flN (flN ?_)
                          exact flL
                        · rintro W hS v18 rfl v24 rfl
                          refine gvN ?_;(repeat first|refine flA ?_|refine flB ?_);refine flN (flN ?_)
                          refine flK (fun K hK=>?_) flL
                          go_simp
                          exact hK.out _ _ ⟨rfl,below_nil⟩
                        rintro W hS - v18 rfl v24 rfl v25 rfl
                        have hS:=hS flY
                        refine gvN ?_;(repeat first|refine flA ?_|refine flB ?_);refine flN (flN ?_)
                        obtain ⟨W9, hWW⟩ : ∃ X, X = W := ⟨_, rfl⟩
                        subst hWW
                        have H9 := Lib.hid (And.intro H.out.1 (And.intro (H.out.2.1.keep hS.1) (And.intro (H.out.2.2.1.keep hS.1) (And.intro (H.out.2.2.2.1.keep hS.1) ((below_trans H.out.2.2.2.2 hS.1))))))
                        clear hS H HB
                        go_wp2_with fail
                        case roundEnd => exact ⟨⟨k + 1, by go_num, by omega, NoC.step H9.out.1 (by rw [HGD.out.1, HGD.out.2.1, HGD.out.2.2.1, HGD.out.2.2.2]; exact fun _ h => absurd h (by decide)), H9.out.2⟩, by simp [intOf]; omega⟩
                    | true =>
                      as_aux_lemma =>
                        refine flow (fun W=>Below wr.heap.size wr W∧W.cell? ⟨w.heap.size,2,none⟩=some (.slice (some ⟨gb, ob, none⟩) bn bc)∧W.cell? ⟨w.heap.size,3,none⟩=some (.slice (some ⟨gc, oc, none⟩) cn cc)∧W.cell? ⟨w.heap.size,4,none⟩=some (.slice (some ⟨gd, od, none⟩) dn dc)∧W.cell? ⟨w.heap.size,5,none⟩=some (.slice (some ⟨ge, oe, none⟩) en ec)∧W.cell? ⟨gb,ob+k,none⟩=some (.bool true)∧W.cell? ⟨gc,oc+k,none⟩=some (.bool true)∧W.cell? ⟨gd,od+k*3,none⟩=some (.bool xd.b)∧W.cell? ⟨gd,od+k*3+1,none⟩=some (.slice xd.A xd.l xd.k)∧W.cell? ⟨gd,od+k*3+2,none⟩=some (.slice xd.B xd.m xd.d)∧W.cell? ⟨ge,oe+k*3,none⟩=some (.bool xe.b)∧W.cell? ⟨ge,oe+k*3+1,none⟩=some (.slice xe.A xe.l xe.k)∧W.cell? ⟨ge,oe+k*3+2,none⟩=some (.slice xe.B xe.m xe.d)) (fun _ _=>True) (fun _ _=>False) 0 [⟨[],[(0,70),(1,71),(2,72),(3,73),(4,74),(5,75),(6,76),(7,77),(8,78),(9,79),(10,80),(11,81),(12,82),(13,83),(14,84),(15,85),(16,86),(17,87),(19,89),(20,90),(21,91),(22,92),(23,93)],[],[(18,88,fun v W=>∃ p18 A18 l18 c18 B18 k18 d18,v=.agg #[.bool p18,.slice A18 l18 c18,.slice B18 k18 d18]∧Qe W 30 (.agg #[.bool p18,.slice A18 l18 c18,.slice B18 k18 d18]) (f.q)),(24,94,fun v W=>∃ p24 A24 l24 c24 B24 k24 d24,v=.agg #[.bool p24,.slice A24 l24 c24,.slice B24 k24 d24]∧Qe W 30 (.agg #[.bool p24,.slice A24 l24 c24,.slice B24 k24 d24]) (g.q))]⟩, ⟨[(25,95)],[(0,70),(1,71),(2,72),(3,73),(4,74),(5,75),(6,76),(7,77),(8,78),(9,79),(10,80),(11,81),(12,82),(26,96),(27,97)],[],[]⟩, ⟨[(18,88),(24,94)],[(0,70),(1,71),(2,72),(3,73),(4,74),(5,75),(6,76),(7,77),(8,78),(9,79),(10,80),(11,81),(12,82)],[],[(25,95,fun v W=>v=.int .i64 (cmpQ f.q g.q))]⟩] [] [] ⟨[(18,88),(24,94),(25,95)],[(0,70),(1,71),(2,72),(3,73),(4,74),(5,75),(6,76),(7,77),(8,78),(9,79),(10,80),(11,81),(12,82),(13,83),(14,84),(15,85),(16,86),(17,87),(19,89),(20,90),(21,91),(22,92),(23,93),(26,96),(27,97)],[],[]⟩ ⟨below_nil,Bl.ld (H.out.2.1.keep below_nil) 2 rfl,Bl.ld (H.out.2.1.keep below_nil) 3 rfl,Bl.ld (H.out.2.1.keep below_nil) 4 rfl,Bl.ld (H.out.2.1.keep below_nil) 5 rfl,HY.out _ (below_trans H.out.2.2.2.2 below_nil)⟩ (trivial) (fun _ _ h b=>⟨(below_trans h.1 b),Bl.ld (H.out.2.1.keep (below_trans h.1 b)) 2 rfl,Bl.ld (H.out.2.1.keep (below_trans h.1 b)) 3 rfl,Bl.ld (H.out.2.1.keep (below_trans h.1 b)) 4 rfl,Bl.ld (H.out.2.1.keep (below_trans h.1 b)) 5 rfl,HY.out _ (below_trans H.out.2.2.2.2 (below_trans h.1 b))⟩) (fun _ _ _ h _=>h) ⟨fun _ _ _ ⟨p,A,l,c,B,k,d,e,h⟩ b=>⟨p,A,l,c,B,k,d,e,h.keep b⟩,fun _ _ _ _ h=>h.elim,⟨fun _ _ _ ⟨p,A,l,c,B,k,d,e,h⟩ b=>⟨p,A,l,c,B,k,d,e,h.keep b⟩,fun _ _ _ _ h=>h.elim,⟨fun _ _ _ h _=>h,fun _ _ _ _ h=>h.elim,trivial⟩⟩⟩ ⟨?_,?_,?_,trivial⟩ trivial trivial ?_
                        · rintro W hS
                          refine gvN ?_;(repeat first|refine flA ?_|refine flB ?_);refine flN (flN ?_)
                          refine flK (fun K hK=>?_) (flK (fun K hK=>?_) flL)
                          · go_simp
                            go_at_call 41; refine (of_e (HV.out.1.keep (below_trans H.out.2.2.2.2 hS.1)) (by decide) (by decide)).mono ?_; rintro e W2 ⟨v, rfl, h, hb⟩
                            obtain ⟨p,A,l_,c,B,k_,d,rfl⟩ := h.parts
                            go_wp2_with fail
                            exact hK.out _ _ ⟨⟨_,_,_,_,_,_,_,rfl,h⟩,hb⟩
                          · go_simp
                            go_at_call 41; refine (of_e (HV.out.2.keep (below_trans H.out.2.2.2.2 hS.1)) (by decide) (by decide)).mono ?_; rintro e W2 ⟨v, rfl, h, hb⟩
                            obtain ⟨p,A,l_,c,B,k_,d,rfl⟩ := h.parts
                            go_wp2_with fail
                            exact hK.out _ _ ⟨⟨_,_,_,_,_,_,_,rfl,h⟩,hb⟩
                        · rintro W hS v25 rfl
                          refine gvN ?_;(repeat first|refine flA ?_|refine flB ?_);refine flN (flN ?_)
                          exact flL
                        · rintro W hS v18 ⟨p18,A18,l18,c18,B18,k18,d18,rfl,h18⟩ v24 ⟨p24,A24,l24,c24,B24,k24,d24,rfl,h24⟩
                          refine gvN ?_;(repeat first|refine flA ?_|refine flB ?_);refine flN (flN ?_)
                          refine flK (fun K hK=>?_) flL
                          go_simp
                          go_at_call 40; refine (cmp_e h18 h24 (by decide) (by decide) (by decide) (by decide)).mono ?_; rintro e W2 ⟨rfl, hb⟩
                          go_wp2_with fail
                          exact hK.out _ _ ⟨rfl,hb⟩
                        rintro W hS - v18 ⟨p18,A18,l18,c18,B18,k18,d18,rfl,h18⟩ v24 ⟨p24,A24,l24,c24,B24,k24,d24,rfl,h24⟩ v25 rfl
                        have hS:=hS flY
                        refine gvN ?_;(repeat first|refine flA ?_|refine flB ?_);refine flN (flN ?_)
                        obtain ⟨W9, hWW⟩ : ∃ X, X = W := ⟨_, rfl⟩
                        subst hWW
                        have H9 := Lib.hid (And.intro H.out.1 (And.intro (H.out.2.1.keep hS.1) (And.intro (H.out.2.2.1.keep hS.1) (And.intro (H.out.2.2.2.1.keep hS.1) ((below_trans H.out.2.2.2.2 hS.1))))))
                        clear hS H HB
                        by_cases hc : 0 < cmpQ f.q g.q
                        · skip
                          go_wp2_with fail
                          go_ret
                          exact ⟨rfl, H9.out.2.2.2.2⟩
                        · skip
                          have HC := Lib.hid hc
                          go_wp2_with fail
                          case roundEnd => exact ⟨⟨k + 1, by go_num, by omega, NoC.step H9.out.1 (by rw [HGD.out.1, HGD.out.2.1, HGD.out.2.2.1, HGD.out.2.2.2]; exact fun _ _ h => HC.out (cmpQ_gt.2 h)), H9.out.2⟩, by simp [intOf]; omega⟩
                · skip
                  obtain rfl : an = k := by omega
                  have HNC := Lib.hid (NoC.all H.out.1 (by have := HFO.out.2.2.2.1; have := HST.out.1; omega))
                  have hnk : ¬ (an : Int) < (an : Int) := by omega
                  have HTL : Hid ((turnR l.hi).length = en ∧ (turnR l.lo).length = dn ∧ (turnR ds).length = an ∧ (turnT st).length = an) := ⟨(turnR_length _).trans HLN.out.2.2.2.2.1, (turnR_length _).trans HLN.out.2.2.2.1, (turnR_length _).trans HST.out.1, (turnT_length _).trans HST.out.2.1⟩
                  have HFM : Hid (Fit30 (turnL l)) := turn_fit HP.out.2.2.2.1 HP.out.2.2.2.2.1 HFT.out
                  have HDM : Hid (∀ f ∈ turnR ds, f.xs.length ≤ 6 ∧ f.ds.length ≤ 6) := turn_len HS.out.2.2.2.1 HDS.out
                  have HB := Lib.hid H.out.2.2.2.2
                  go_upto_region 11 with (fail)
                  refine flow (fun W=>Below wr.heap.size wr W∧W.cell? ⟨w.heap.size,0,none⟩=some (.int .i64 l.n)∧W.cell? ⟨w.heap.size,1,none⟩=some (.slice aA an ac)∧W.cell? ⟨w.heap.size,2,none⟩=some (.slice bA bn bc)∧W.cell? ⟨w.heap.size,3,none⟩=some (.slice cA cn cc)∧W.cell? ⟨w.heap.size,4,none⟩=some (.slice dA dn dc)∧W.cell? ⟨w.heap.size,5,none⟩=some (.slice eA en ec)∧W.cell? ⟨w.heap.size,6,none⟩=some (.slice fA fn fc)) (fun vs W=>match vs with|[]=>True|[a]=>∃ gg,a=.pointer (some ⟨gg,0,none⟩)∧wr.heap.size≤gg∧Bl W 26 gg [.int .i64 0, .slice none 0 0, .slice none 0 0, .slice none 0 0, .slice none 0 0, .slice none 0 0, .slice none 0 0]|[a,_]=>∃ gg A c A2 c2,a=.pointer (some ⟨gg,0,none⟩)∧wr.heap.size≤gg∧Bl W 26 gg [.int .i64 l.n, .slice aA an ac, .slice cA cn cc, .slice bA bn bc, .slice A en c, .slice A2 dn c2, .slice fA fn fc]∧Ro w W (.slice A en c) (turnR l.hi)∧Ro w W (.slice A2 dn c2) (turnR l.lo)∧Below wr.heap.size wr W|_=>True) (fun w w'=>Below w.heap.size w w') 1 [⟨[],[(0,99),(1,100),(2,101),(3,102),(4,103),(5,104),(6,105),(7,106),(8,107),(9,108),(10,109),(11,110),(13,112),(14,113)],[],[(12,111,fun v W=>∃ A c,v=.slice A en c∧Ro w W (.slice A en c) (turnR l.hi)),(15,114,fun v W=>∃ A c,v=.slice A dn c∧Ro w W (.slice A dn c) (turnR l.lo))]⟩] [⟨[(12,111),(15,114)],[(0,99),(1,100),(2,101),(3,102),(4,103),(5,104),(6,105),(7,106),(8,107),(9,108)],[(16,115)],[]⟩] [⟨17,some 8,[],[],[]⟩, ⟨18,none,[(12,111),(15,114)],[(0,99),(1,100),(2,101),(3,102),(4,103),(5,104),(6,105),(7,106),(8,107),(9,108)],[(16,115)]⟩] ⟨[(12,111),(15,114)],[(0,99),(1,100),(2,101),(3,102),(4,103),(5,104),(6,105),(7,106),(8,107),(9,108),(10,109),(11,110),(13,112),(14,113)],[(16,115)],[]⟩ ⟨below_nil,Bl.ld (H.out.2.1.keep below_nil) 0 rfl,Bl.ld (H.out.2.1.keep below_nil) 1 rfl,Bl.ld (H.out.2.1.keep below_nil) 2 rfl,Bl.ld (H.out.2.1.keep below_nil) 3 rfl,Bl.ld (H.out.2.1.keep below_nil) 4 rfl,Bl.ld (H.out.2.1.keep below_nil) 5 rfl,Bl.ld (H.out.2.1.keep below_nil) 6 rfl⟩ (trivial) (fun _ _ h b=>⟨(below_trans h.1 b),Bl.ld (H.out.2.1.keep (below_trans h.1 b)) 0 rfl,Bl.ld (H.out.2.1.keep (below_trans h.1 b)) 1 rfl,Bl.ld (H.out.2.1.keep (below_trans h.1 b)) 2 rfl,Bl.ld (H.out.2.1.keep (below_trans h.1 b)) 3 rfl,Bl.ld (H.out.2.1.keep (below_trans h.1 b)) 4 rfl,Bl.ld (H.out.2.1.keep (below_trans h.1 b)) 5 rfl,Bl.ld (H.out.2.1.keep (below_trans h.1 b)) 6 rfl⟩) (fun vs _ _ h b=>match vs,h with|[],_=>trivial|[_],⟨g,e,h1,h2⟩=>⟨g,e,h1,h2.keep b⟩|[_,_],⟨g,A,c,A2,c2,e,h1,h2,h3,h4,h5⟩=>⟨g,A,c,A2,c2,e,h1,h2.keep b,h3.keep b,h4.keep b,below_trans h5 b⟩|_::_::_::_,_=>trivial) ⟨fun _ _ _ ⟨A,c,e,h⟩ b=>⟨A,c,e,h.keep b⟩,fun _ _ _ ⟨A,c,e,h⟩ b=>⟨A,c,e,h.keep b⟩,⟨fun _ _ _ ⟨A,c,e,h⟩ b=>⟨A,c,e,h.keep b⟩,fun _ _ _ ⟨A,c,e,h⟩ b=>⟨A,c,e,h.keep b⟩,trivial⟩⟩ ⟨?_,trivial⟩ ⟨?_,trivial⟩ ⟨?_,?_,trivial⟩ ?_
                  · rintro W hS
                    refine gvN ?_;(repeat refine flA ?_);refine flN (flN ?_)
                    refine flK (fun K hK=>?_) (flK (fun K hK=>?_) flL)
                    · go_simp
                      go_at_call 42; refine (turned_v (HP.out.2.2.2.2.1.keep (below_trans HB.out hS.1)) HFT.out.2.2.1 (fun f hf => HFT.out.1.2.2 f (.inr (.inl hf)))).mono ?_; rintro e W2 ⟨u, rfl, h⟩
                      have hb := h.below
                      have h := h.from (below_trans HB.out hS.1)
                      obtain ⟨A, c, hv⟩ := h.shape
                      rw [HTL.out.1] at hv
                      subst hv
                      go_wp2_with fail
                      exact hK.out _ _ ⟨⟨_,_,rfl,h⟩,hb⟩
                    · go_simp
                      go_at_call 42; refine (turned_v (HP.out.2.2.2.1.keep (below_trans HB.out hS.1)) HFT.out.2.1 (fun f hf => HFT.out.1.2.2 f (.inl hf))).mono ?_; rintro e W2 ⟨u, rfl, h⟩
                      have hb := h.below
                      have h := h.from (below_trans HB.out hS.1)
                      obtain ⟨A, c, hv⟩ := h.shape
                      rw [HTL.out.2.1] at hv
                      subst hv
                      go_wp2_with fail
                      exact hK.out _ _ ⟨⟨_,_,rfl,h⟩,hb⟩
                  · rintro v12 ⟨_,A12,c12,rfl,-⟩ v15 ⟨_,A15,c15,rfl,-⟩
                    refine gvN ?_;(repeat refine flA ?_);exact trivial
                  · rintro W hS -
                    have hS:=hS flY
                    refine gvN ?_;refine flN (flN ?_)
                    refine flC fun K hK=>?_
                    have hal := below_al W (.cells #[.int .i64 0, .slice none 0 0, .slice none 0 0, .slice none 0 0, .slice none 0 0, .slice none 0 0, .slice none 0 0] 26)
                    go_simp
                    have hb2 := below_trans hS.1 hal
                    exact hK.out _ _ ⟨⟨_,rfl,hS.1.size,Bl.new W 26 [.int .i64 0, .slice none 0 0, .slice none 0 0, .slice none 0 0, .slice none 0 0, .slice none 0 0, .slice none 0 0]⟩,fun _=>⟨⟨hb2,Bl.ld (H.out.2.1.keep hb2) 0 rfl,Bl.ld (H.out.2.1.keep hb2) 1 rfl,Bl.ld (H.out.2.1.keep hb2) 2 rfl,Bl.ld (H.out.2.1.keep hb2) 3 rfl,Bl.ld (H.out.2.1.keep hb2) 4 rfl,Bl.ld (H.out.2.1.keep hb2) 5 rfl,Bl.ld (H.out.2.1.keep hb2) 6 rfl⟩,hal⟩⟩
                  · rintro W hS c17 ⟨gz2,rfl,pz,Xz⟩ v12 ⟨A12,c12,rfl,h12⟩ v15 ⟨A15,c15,rfl,h15⟩
                    have hS:=hS flY
                    refine gvN ?_;(repeat refine flA ?_);refine flN ?_
                    refine flC fun K hK=>?_
                    have f0:=Bl.fr Xz 0
                    have f1:=Bl.fr Xz 1
                    have f2:=Bl.fr Xz 2
                    have f3:=Bl.fr Xz 3
                    have f4:=Bl.fr Xz 4
                    have f5:=Bl.fr Xz 5
                    have f6:=Bl.fr Xz 6
                    have r0:=Bl.ld Xz 0 rfl
                    have r1:=Bl.ld Xz 1 rfl
                    have r2:=Bl.ld Xz 2 rfl
                    have r3:=Bl.ld Xz 3 rfl
                    have r4:=Bl.ld Xz 4 rfl
                    have r5:=Bl.ld Xz 5 rfl
                    have r6:=Bl.ld Xz 6 rfl
                    go_simp
                    clear f0 r0 f1 r1 f2 r2 f3 r3 f4 r4 f5 r5 f6 r6
                    have k7:=fun T h=>Xz.keep7 (e:=T) h (.int .i64 l.n) (.slice aA an ac) (.slice cA cn cc) (.slice bA bn bc) (.slice A12 en c12) (.slice A15 dn c15) (.slice fA fn fc)
                    have b3:=below7 hS.1 pz (.int .i64 l.n) (.slice aA an ac) (.slice cA cn cc) (.slice bA bn bc) (.slice A12 en c12) (.slice A15 dn c15) (.slice fA fn fc)
                    have b4:=below_trans HB.out b3
                    exact hK.out undef _ ⟨⟨_,_,_,_,_,rfl,pz,Xz.set7 rfl (.int .i64 l.n) (.slice aA an ac) (.slice cA cn cc) (.slice bA bn bc) (.slice A12 en c12) (.slice A15 dn c15) (.slice fA fn fc),h12.keepT (k7 _ (by decide)) (k7 _ (by decide)) b4,h15.keepT (k7 _ (by decide)) (k7 _ (by decide)) b4,b3⟩,fun h=>flX h⟩
                  rintro W hS c17 c18 ⟨gm,Aq,cq,Ar,cr,rfl,pq,Xq,hq1,hq2,hbq⟩ v12 ⟨_,A12,c12,rfl,-⟩ v15 ⟨_,A15,c15,rfl,-⟩
                  clear hS
                  refine gvN ?_;(repeat refine flA ?_);refine flN ?_
                  obtain ⟨W6, hWW⟩ : ∃ X, X = W := ⟨_, rfl⟩
                  subst hWW
                  have b6 := below_trans HB.out hbq
                  have H6 := Lib.hid (And.intro (H.out.2.1.keep hbq) (And.intro (H.out.2.2.1.keep hbq) (And.intro (H.out.2.2.2.1.keep hbq) (And.intro Xq (And.intro hq1 (And.intro hq2 (b6)))))))
                  clear H HB hbq Xq hq1 hq2 pq b6 hnk
                  go_upto_region 13 with (fail)
                  have hal := below_al W6 (.cells #[] 3)
                  have H7 := Lib.hid (And.intro (H6.out.1.keep hal) (And.intro (H6.out.2.1.keep hal) (And.intro (H6.out.2.2.1.keep hal) (And.intro (H6.out.2.2.2.1.keep hal) (And.intro (H6.out.2.2.2.2.1.keep hal) (And.intro (H6.out.2.2.2.2.2.1.keep hal) (And.intro ((rr_empty (B := w.heap.size) (Bl.new W6 3 []) H6.out.2.2.2.2.2.2.size)) (below_trans H6.out.2.2.2.2.2.2 hal))))))))
                  clear H6
                  clear hal
                  generalize W6.alloc _ = W7 at H7 ⊢
                  have b1 := Bl.ld (H7.out.2.1) 1 rfl
                  go_wp2_with fail
                  go_loopw [9, 120] (fun z9 z120 wr2 => ∃ (k : Nat) (u1 : Value), u1 = z9 ∧ z120 = .int .i64 (k : Int) ∧ k ≤ m ∧ Hid (Bl wr2 26 w.heap.size [.int .i64 l.n, .slice aA an ac, .slice bA bn bc, .slice cA cn cc, .slice dA dn dc, .slice eA en ec, .slice fA fn fc] ∧ Bl wr2 75 (w.heap.size + 1) [.slice Au n cu, .slice Av m cv] ∧ Bl wr2 82 (w.heap.size + 2) [.slice Ay an cy, .slice Az an cz, .bool up, .bool sb, .slice As ls cs, .slice Bs ms ds_, .bool flip] ∧ Bl wr2 26 gm [.int .i64 l.n, .slice aA an ac, .slice cA cn cc, .slice bA bn bc, .slice Aq en cq, .slice Ar dn cr, .slice fA fn fc] ∧ Ro w wr2 (.slice Aq en cq) (turnR l.hi) ∧ Ro w wr2 (.slice Ar dn cr) (turnR l.lo) ∧ Rr wr2 w.heap.size 3 1 ics u1 (turnT (st.take k)) ∧ Below w.heap.size w wr2)) (fun _ z _ => m - (intOf z).toNat)
                  case atStart => exact ⟨0, _, rfl, rfl, Nat.zero_le _, H7.out.1, H7.out.2.1, H7.out.2.2.1, H7.out.2.2.2.1, H7.out.2.2.2.2.1, H7.out.2.2.2.2.2.1, H7.out.2.2.2.2.2.2.1, H7.out.2.2.2.2.2.2.2⟩
                  case round =>
                    obtain ⟨k2, u1, rfl, rfl, hk2, H⟩ := hrel
                    have hm20 : m ≤ 20 := by have e1 := HSQ.out.2.2.2.1; have e2 := HN.out.2.1; omega
                    by_cases hlt2 : k2 < m
                    · skip
                      obtain ⟨s_, h0⟩ : ∃ x, st[k2]? = some x := ⟨_, List.getElem?_eq_getElem (by rw [HN.out.2.1]; exact hlt2)⟩
                      have hs4 := HSQ.out.2.1.2.2 k2 s_ h0
                      have hs4 : s_ = 1 ∨ s_ = 2 ∨ s_ = 3 ∨ s_ = 4 := by omega
                      obtain ⟨gu, ou, _, e, hgu, cu0⟩ := (HS.out.2.2.1.keep H.out.2.2.2.2.2.2.2).at_ h0
                      rw [HN.out.2.1] at e
                      injection e with e1 e2 e3
                      subst e1
                      have HNX := Lib.hid (turnT_next h0)
                      have hll : (turnT (st.take k2)).length ≤ 1048576 := by rw [turnT_length, List.length_take]; have := HSQ.out.2.2.2.1; omega
                      have HLL := Lib.hid hll
                      clear hll
                      have d0 : (k2 : Int) < (m : Int) := by omega
                      clear e2 e3 hgu h0
                      rcases hs4 with rfl | rfl | rfl | rfl
                      · skip
                        as_aux_lemma =>
                          go_wp2_with (at_builtin; refine app_els (w0 := w) (f := ics) (x := (2 : Int)) Tryz.underlying73 int_info ⟨by decide, rfl, by decide⟩ ics_len ics_one rfl (.tmp 132) (.tmp 134) rfl rfl rfl (Rr.keep H.out.2.2.2.2.2.2.1 (below_al _ _)) (Bl.new wr _ _) HLL.out (below_trans H.out.2.2.2.2.2.2.2 (below_al _ _)) ?_; intro u2 w11 k1 k2_ k3 k4)
                          have hbz : ∀ T, 3 ≠ T → KeepT T wr w11 := fun T hT => (KeepT.below (below_al _ _)).trans (k3 T hT)
                          have HK : Hid (Bl w11 26 w.heap.size [.int .i64 l.n, .slice aA an ac, .slice bA bn bc, .slice cA cn cc, .slice dA dn dc, .slice eA en ec, .slice fA fn fc] ∧ Bl w11 75 (w.heap.size + 1) [.slice Au n cu, .slice (some ⟨gu, ou, none⟩) m cv] ∧ Bl w11 82 (w.heap.size + 2) [.slice Ay an cy, .slice Az an cz, .bool up, .bool sb, .slice As ls cs, .slice Bs ms ds_, .bool flip] ∧ Bl w11 26 gm [.int .i64 l.n, .slice aA an ac, .slice cA cn cc, .slice bA bn bc, .slice Aq en cq, .slice Ar dn cr, .slice fA fn fc] ∧ Ro w w11 (.slice Aq en cq) (turnR l.hi) ∧ Ro w w11 (.slice Ar dn cr) (turnR l.lo) ∧ Rr w11 w.heap.size 3 1 ics u2 (turnT (st.take (k2 + 1))) ∧ Below w.heap.size w w11) := ⟨(hbz _ (by decide)).bl H.out.1, (hbz _ (by decide)).bl H.out.2.1, (hbz _ (by decide)).bl H.out.2.2.1, (hbz _ (by decide)).bl H.out.2.2.2.1, Ro.keepT H.out.2.2.2.2.1 (hbz _ (by decide)) (hbz _ (by decide)) k2_, Ro.keepT H.out.2.2.2.2.2.1 (hbz _ (by decide)) (hbz _ (by decide)) k2_, by rw [HNX.out]; exact k1, k2_⟩
                          clear k1 k2_ k3 k4 hbz H
                          go_wp2_with fail
                          case roundEnd => exact ⟨⟨k2 + 1, u2, rfl, by go_num, by omega, HK.out⟩, by simp [intOf]; omega⟩
                      · skip
                        as_aux_lemma =>
                          go_wp2_with (at_builtin; refine app_els (w0 := w) (f := ics) (x := (1 : Int)) Tryz.underlying73 int_info ⟨by decide, rfl, by decide⟩ ics_len ics_one rfl (.tmp 132) (.tmp 134) rfl rfl rfl (Rr.keep H.out.2.2.2.2.2.2.1 (below_al _ _)) (Bl.new wr _ _) HLL.out (below_trans H.out.2.2.2.2.2.2.2 (below_al _ _)) ?_; intro u2 w11 k1 k2_ k3 k4)
                          have hbz : ∀ T, 3 ≠ T → KeepT T wr w11 := fun T hT => (KeepT.below (below_al _ _)).trans (k3 T hT)
                          have HK : Hid (Bl w11 26 w.heap.size [.int .i64 l.n, .slice aA an ac, .slice bA bn bc, .slice cA cn cc, .slice dA dn dc, .slice eA en ec, .slice fA fn fc] ∧ Bl w11 75 (w.heap.size + 1) [.slice Au n cu, .slice (some ⟨gu, ou, none⟩) m cv] ∧ Bl w11 82 (w.heap.size + 2) [.slice Ay an cy, .slice Az an cz, .bool up, .bool sb, .slice As ls cs, .slice Bs ms ds_, .bool flip] ∧ Bl w11 26 gm [.int .i64 l.n, .slice aA an ac, .slice cA cn cc, .slice bA bn bc, .slice Aq en cq, .slice Ar dn cr, .slice fA fn fc] ∧ Ro w w11 (.slice Aq en cq) (turnR l.hi) ∧ Ro w w11 (.slice Ar dn cr) (turnR l.lo) ∧ Rr w11 w.heap.size 3 1 ics u2 (turnT (st.take (k2 + 1))) ∧ Below w.heap.size w w11) := ⟨(hbz _ (by decide)).bl H.out.1, (hbz _ (by decide)).bl H.out.2.1, (hbz _ (by decide)).bl H.out.2.2.1, (hbz _ (by decide)).bl H.out.2.2.2.1, Ro.keepT H.out.2.2.2.2.1 (hbz _ (by decide)) (hbz _ (by decide)) k2_, Ro.keepT H.out.2.2.2.2.2.1 (hbz _ (by decide)) (hbz _ (by decide)) k2_, by rw [HNX.out]; exact k1, k2_⟩
                          clear k1 k2_ k3 k4 hbz H
                          go_wp2_with fail
                          case roundEnd => exact ⟨⟨k2 + 1, u2, rfl, by go_num, by omega, HK.out⟩, by simp [intOf]; omega⟩
                      · skip
                        as_aux_lemma =>
                          go_wp2_with (at_builtin; refine app_els (w0 := w) (f := ics) (x := (3 : Int)) Tryz.underlying73 int_info ⟨by decide, rfl, by decide⟩ ics_len ics_one rfl (.tmp 132) (.tmp 134) rfl rfl rfl (Rr.keep H.out.2.2.2.2.2.2.1 (below_al _ _)) (Bl.new wr _ _) HLL.out (below_trans H.out.2.2.2.2.2.2.2 (below_al _ _)) ?_; intro u2 w11 k1 k2_ k3 k4)
                          have hbz : ∀ T, 3 ≠ T → KeepT T wr w11 := fun T hT => (KeepT.below (below_al _ _)).trans (k3 T hT)
                          have HK : Hid (Bl w11 26 w.heap.size [.int .i64 l.n, .slice aA an ac, .slice bA bn bc, .slice cA cn cc, .slice dA dn dc, .slice eA en ec, .slice fA fn fc] ∧ Bl w11 75 (w.heap.size + 1) [.slice Au n cu, .slice (some ⟨gu, ou, none⟩) m cv] ∧ Bl w11 82 (w.heap.size + 2) [.slice Ay an cy, .slice Az an cz, .bool up, .bool sb, .slice As ls cs, .slice Bs ms ds_, .bool flip] ∧ Bl w11 26 gm [.int .i64 l.n, .slice aA an ac, .slice cA cn cc, .slice bA bn bc, .slice Aq en cq, .slice Ar dn cr, .slice fA fn fc] ∧ Ro w w11 (.slice Aq en cq) (turnR l.hi) ∧ Ro w w11 (.slice Ar dn cr) (turnR l.lo) ∧ Rr w11 w.heap.size 3 1 ics u2 (turnT (st.take (k2 + 1))) ∧ Below w.heap.size w w11) := ⟨(hbz _ (by decide)).bl H.out.1, (hbz _ (by decide)).bl H.out.2.1, (hbz _ (by decide)).bl H.out.2.2.1, (hbz _ (by decide)).bl H.out.2.2.2.1, Ro.keepT H.out.2.2.2.2.1 (hbz _ (by decide)) (hbz _ (by decide)) k2_, Ro.keepT H.out.2.2.2.2.2.1 (hbz _ (by decide)) (hbz _ (by decide)) k2_, by rw [HNX.out]; exact k1, k2_⟩
                          clear k1 k2_ k3 k4 hbz H
                          go_wp2_with fail
                          case roundEnd => exact ⟨⟨k2 + 1, u2, rfl, by go_num, by omega, HK.out⟩, by simp [intOf]; omega⟩
                      · skip
                        as_aux_lemma =>
                          go_wp2_with (at_builtin; refine app_els (w0 := w) (f := ics) (x := (4 : Int)) Tryz.underlying73 int_info ⟨by decide, rfl, by decide⟩ ics_len ics_one rfl (.tmp 132) (.tmp 134) rfl rfl rfl (Rr.keep H.out.2.2.2.2.2.2.1 (below_al _ _)) (Bl.new wr _ _) HLL.out (below_trans H.out.2.2.2.2.2.2.2 (below_al _ _)) ?_; intro u2 w11 k1 k2_ k3 k4)
                          have hbz : ∀ T, 3 ≠ T → KeepT T wr w11 := fun T hT => (KeepT.below (below_al _ _)).trans (k3 T hT)
                          have HK : Hid (Bl w11 26 w.heap.size [.int .i64 l.n, .slice aA an ac, .slice bA bn bc, .slice cA cn cc, .slice dA dn dc, .slice eA en ec, .slice fA fn fc] ∧ Bl w11 75 (w.heap.size + 1) [.slice Au n cu, .slice (some ⟨gu, ou, none⟩) m cv] ∧ Bl w11 82 (w.heap.size + 2) [.slice Ay an cy, .slice Az an cz, .bool up, .bool sb, .slice As ls cs, .slice Bs ms ds_, .bool flip] ∧ Bl w11 26 gm [.int .i64 l.n, .slice aA an ac, .slice cA cn cc, .slice bA bn bc, .slice Aq en cq, .slice Ar dn cr, .slice fA fn fc] ∧ Ro w w11 (.slice Aq en cq) (turnR l.hi) ∧ Ro w w11 (.slice Ar dn cr) (turnR l.lo) ∧ Rr w11 w.heap.size 3 1 ics u2 (turnT (st.take (k2 + 1))) ∧ Below w.heap.size w w11) := ⟨(hbz _ (by decide)).bl H.out.1, (hbz _ (by decide)).bl H.out.2.1, (hbz _ (by decide)).bl H.out.2.2.1, (hbz _ (by decide)).bl H.out.2.2.2.1, Ro.keepT H.out.2.2.2.2.1 (hbz _ (by decide)) (hbz _ (by decide)) k2_, Ro.keepT H.out.2.2.2.2.2.1 (hbz _ (by decide)) (hbz _ (by decide)) k2_, by rw [HNX.out]; exact k1, k2_⟩
                          clear k1 k2_ k3 k4 hbz H
                          go_wp2_with fail
                          case roundEnd => exact ⟨⟨k2 + 1, u2, rfl, by go_num, by omega, HK.out⟩, by simp [intOf]; omega⟩
                    · skip
                      obtain rfl : m = k2 := by omega
                      have hkk : ¬ (m : Int) < (m : Int) := by omega
                      have HTT : Hid (turnT (st.take m) = turnT st) := congrArg turnT (List.take_of_length_le (Nat.le_of_eq HN.out.2.1))
                      have hrow := H.out.2.2.2.2.2.2.1
                      have b6 := H.out.2.2.2.2.2.2.2
                      have hq1 := H.out.2.2.2.2.1
                      have hq2 := H.out.2.2.2.2.2.1
                      have hlm : LPv wr (.agg #[.int .i64 l.n, .slice aA an ac, .slice cA cn cc, .slice bA bn bc, .slice Aq en cq, .slice Ar dn cr, .slice fA fn fc]) (turnL l) := (⟨⟨l.n, ⟨aA, an, ac⟩, ⟨cA, cn, cc⟩, ⟨bA, bn, bc⟩, ⟨Aq, en, cq⟩, ⟨Ar, dn, cr⟩, ⟨fA, fn, fc⟩⟩, rfl, rfl, HP.out.1.keep b6, HP.out.2.2.1.keep b6, HP.out.2.1.keep b6, hq1.rx, hq2.rx, HP.out.2.2.2.2.2.keep b6⟩ : LPv wr (.agg #[.int .i64 l.n, .slice aA an ac, .slice cA cn cc, .slice bA bn bc, .slice Aq en cq, .slice Ar dn cr, .slice fA fn fc]) (turnL l))
                      rw [HTT.out] at hrow
                      have hrow : Iv wr _ _ := Rr.rv hrow
                      obtain ⟨As9, cs9, hu1, -⟩ := Iv.shape hrow
                      rw [HTL.out.2.2.2] at hu1
                      subst hu1
                      have H8 := Lib.hid (And.intro H.out.1 (And.intro H.out.2.1 (And.intro H.out.2.2.1 (And.intro H.out.2.2.2.1 (And.intro hlm (And.intro hrow (H.out.2.2.2.2.2.2.2)))))))
                      clear H hrow hlm b6 hq1 hq2
                      have HFX : Hid (fitsX l [(ds.length : Int)] = true ∧ fitsX l [(st.length : Int), (ds.length : Int)] = true ∧ fitsX l [(st.length : Int), (ds.length : Int), (rs.length : Int)] = true ∧ fitsX (turnL l) [((turnR ds).length : Int)] = true ∧ fitsX (turnL l) [((turnT st).length : Int), ((turnR ds).length : Int)] = true ∧ fitsX (turnL l) [((turnT st).length : Int), ((turnR ds).length : Int), (rs.length : Int)] = true) := by
                        obtain ⟨e1, e2, e3, e4, e5⟩ := HFO.out
                        have e6 : (turnR l.hi).length = ds.length := (turnR_length _).trans e3
                        have e7 : (turnR l.lo).length = ds.length := (turnR_length _).trans e2
                        rw [turnR_length, turnT_length, HST.out.2.1, HST.out.2.2]
                        rw [HST.out.1] at *
                        refine ⟨?_, ?_, ?_, ?_, ?_, ?_⟩ <;> simp [fitsX, allIs, turnL, e1, e2, e3, e4, e5, e6, e7]
                      have i0 := Bl.ld (H8.out.2.2.2.1) 0 rfl
                      have i1 := Bl.ld (H8.out.2.2.2.1) 1 rfl
                      have i2 := Bl.ld (H8.out.2.2.2.1) 2 rfl
                      have i3 := Bl.ld (H8.out.2.2.2.1) 3 rfl
                      have i4 := Bl.ld (H8.out.2.2.2.1) 4 rfl
                      have i5 := Bl.ld (H8.out.2.2.2.1) 5 rfl
                      have i6 := Bl.ld (H8.out.2.2.2.1) 6 rfl
                      have b0 := Bl.ld (H8.out.2.1) 0 rfl
                      have b1 := Bl.ld (H8.out.2.1) 1 rfl
                      have n0 := Bl.ld (H8.out.2.2.1) 0 rfl
                      have n1 := Bl.ld (H8.out.2.2.1) 1 rfl
                      have n2 := Bl.ld (H8.out.2.2.1) 2 rfl
                      have n3 := Bl.ld (H8.out.2.2.1) 3 rfl
                      have n4 := Bl.ld (H8.out.2.2.1) 4 rfl
                      have n5 := Bl.ld (H8.out.2.2.1) 5 rfl
                      have n6 := Bl.ld (H8.out.2.2.1) 6 rfl
                      have l0 := Bl.ld (H8.out.1) 0 rfl
                      have l1 := Bl.ld (H8.out.1) 1 rfl
                      have l2 := Bl.ld (H8.out.1) 2 rfl
                      have l3 := Bl.ld (H8.out.1) 3 rfl
                      have l4 := Bl.ld (H8.out.1) 4 rfl
                      have l5 := Bl.ld (H8.out.1) 5 rfl
                      have l6 := Bl.ld (H8.out.1) 6 rfl
                      go_wp2_with fail
                      refine (leave_v (first := up) (HS.out.1.keep H8.out.2.2.2.2.2.2) (HS.out.2.1.keep H8.out.2.2.2.2.2.2) (HS.out.2.2.2.1.keep H8.out.2.2.2.2.2.2) HFT.out HDS.out HD.out.1).mono ?_; rintro e w9 ⟨p1, up1, ok1, rfl, hb, hl1⟩
                      have HL1 := Lib.hid (hl1 HFX.out.1)
                      have H9 := Lib.hid (And.intro (H8.out.1.keep hb) (And.intro (H8.out.2.1.keep hb) (And.intro (H8.out.2.2.1.keep hb) (And.intro (H8.out.2.2.2.1.keep hb) (And.intro (H8.out.2.2.2.2.1.keep hb) (And.intro (H8.out.2.2.2.2.2.1.keep hb) (below_trans H8.out.2.2.2.2.2.2 hb)))))))
                      clear H8
                      clear hb hl1
                      clear i0 i1 i2 i3 i4 i5 i6 b0 b1 n0 n1 n2 n3 n4 n5 n6 l0 l1 l2 l3 l4 l5 l6
                      go_upto_region 21 with (fail)
                      refine flow (fun W=>Below w9.heap.size w9 W∧W.cell? ⟨gm,0,none⟩=some (.int .i64 l.n)∧W.cell? ⟨gm,1,none⟩=some (.slice aA an ac)∧W.cell? ⟨gm,2,none⟩=some (.slice cA cn cc)∧W.cell? ⟨gm,3,none⟩=some (.slice bA bn bc)∧W.cell? ⟨gm,4,none⟩=some (.slice Aq en cq)∧W.cell? ⟨gm,5,none⟩=some (.slice Ar dn cr)∧W.cell? ⟨gm,6,none⟩=some (.slice fA fn fc)∧W.cell? ⟨(w.heap.size+1),0,none⟩=some (.slice Au n cu)∧W.cell? ⟨(w.heap.size+2),0,none⟩=some (.slice Ay an cy)∧W.cell? ⟨(w.heap.size+2),2,none⟩=some (.bool up)) (fun _ _=>True) (fun _ _=>False) 0 [⟨[],[(0,150),(1,151),(2,152),(3,153),(4,154),(6,156),(7,157)],[],[(5,155,fun v W=>∃ A c,v=.slice A an c∧Ro w W (.slice A an c) (turnR ds))]⟩, ⟨[(5,155)],[(0,150),(1,151),(2,152),(6,156),(7,157)],[],[(8,158,fun v W=>∃ p2 up2 ok2,v=.tuple #[.int .i64 p2,.bool up2,.bool ok2]∧leaveX (turnL l) bs (turnR ds) up=(p2,up2,ok2))]⟩, ⟨[(8,158)],[(9,149),(10,159),(11,160),(12,161),(13,15),(14,16),(15,17)],[],[]⟩] [] [] ⟨[(5,155),(8,158)],[(0,150),(1,151),(2,152),(3,153),(4,154),(6,156),(7,157),(9,149),(10,159),(11,160),(12,161),(13,15),(14,16),(15,17)],[],[]⟩ ⟨below_nil,Bl.ld (H9.out.2.2.2.1.keep below_nil) 0 rfl,Bl.ld (H9.out.2.2.2.1.keep below_nil) 1 rfl,Bl.ld (H9.out.2.2.2.1.keep below_nil) 2 rfl,Bl.ld (H9.out.2.2.2.1.keep below_nil) 3 rfl,Bl.ld (H9.out.2.2.2.1.keep below_nil) 4 rfl,Bl.ld (H9.out.2.2.2.1.keep below_nil) 5 rfl,Bl.ld (H9.out.2.2.2.1.keep below_nil) 6 rfl,Bl.ld (H9.out.2.1.keep below_nil) 0 rfl,Bl.ld (H9.out.2.2.1.keep below_nil) 0 rfl,Bl.ld (H9.out.2.2.1.keep below_nil) 2 rfl⟩ (trivial) (fun _ _ h b=>⟨(below_trans h.1 b),Bl.ld (H9.out.2.2.2.1.keep (below_trans h.1 b)) 0 rfl,Bl.ld (H9.out.2.2.2.1.keep (below_trans h.1 b)) 1 rfl,Bl.ld (H9.out.2.2.2.1.keep (below_trans h.1 b)) 2 rfl,Bl.ld (H9.out.2.2.2.1.keep (below_trans h.1 b)) 3 rfl,Bl.ld (H9.out.2.2.2.1.keep (below_trans h.1 b)) 4 rfl,Bl.ld (H9.out.2.2.2.1.keep (below_trans h.1 b)) 5 rfl,Bl.ld (H9.out.2.2.2.1.keep (below_trans h.1 b)) 6 rfl,Bl.ld (H9.out.2.1.keep (below_trans h.1 b)) 0 rfl,Bl.ld (H9.out.2.2.1.keep (below_trans h.1 b)) 0 rfl,Bl.ld (H9.out.2.2.1.keep (below_trans h.1 b)) 2 rfl⟩) (fun _ _ _ h _=>h) ⟨fun _ _ _ ⟨A,c,e,h⟩ b=>⟨A,c,e,h.keep b⟩,fun _ _ _ _ h=>h.elim,⟨fun _ _ _ h _=>h,fun _ _ _ _ h=>h.elim,trivial⟩⟩ ⟨?_,?_,?_,trivial⟩ trivial trivial ?_
                      · rintro W hS
                        refine gvN ?_;(repeat refine flA ?_);refine flN (flN ?_)
                        refine flK (fun K hK=>?_) flL
                        go_simp
                        go_at_call 42; refine (turned_v (HS.out.2.2.2.1.keep (below_trans H9.out.2.2.2.2.2.2 hS.1)) HD.out.1 HDS.out).mono ?_; rintro e W2 ⟨u, rfl, h⟩
                        have hb := h.below
                        have h := h.from (below_trans H9.out.2.2.2.2.2.2 hS.1)
                        obtain ⟨A, c, hv⟩ := h.shape
                        rw [HTL.out.2.2.1] at hv
                        subst hv
                        go_wp2_with fail
                        exact hK.out _ _ ⟨⟨_,_,rfl,h⟩,hb⟩
                      · rintro W hS v5 ⟨A5,c5,rfl,h5⟩
                        refine gvN ?_;(repeat refine flA ?_);refine flN (flN ?_)
                        refine flK (fun K hK=>?_) flL
                        go_simp
                        go_at_call 30; refine (leave_v (first := up) (H9.out.2.2.2.2.1.keep hS.1) (HS.out.2.1.keep (below_trans H9.out.2.2.2.2.2.2 hS.1)) h5.rx HFM.out HDM.out (by rw [turnR_length]; exact HD.out.1)).mono ?_; rintro e W2 ⟨p, up_, ok, rfl, hb, h⟩
                        have h := h HFX.out.2.2.2.1
                        go_wp2_with fail
                        exact hK.out _ _ ⟨⟨_,_,_,rfl,h⟩,hb⟩
                      · rintro W hS v8 ⟨p2,up2,ok2,rfl,h8⟩
                        refine gvN ?_;(repeat refine flA ?_);refine flN (flN ?_)
                        exact flL
                      rintro W hS - v5 ⟨A5,c5,rfl,h5⟩ v8 ⟨p2,up2,ok2,rfl,h8⟩
                      have hS:=hS flY
                      refine gvN ?_;(repeat refine flA ?_);refine flN (flN ?_)
                      obtain ⟨W10, hWW⟩ : ∃ X, X = W := ⟨_, rfl⟩
                      subst hWW
                      have H10 := Lib.hid (And.intro (H9.out.1.keep hS.1) (And.intro (H9.out.2.1.keep hS.1) (And.intro (H9.out.2.2.1.keep hS.1) (And.intro (H9.out.2.2.2.1.keep hS.1) (And.intro (H9.out.2.2.2.2.1.keep hS.1) (And.intro (H9.out.2.2.2.2.2.1.keep hS.1) (below_trans H9.out.2.2.2.2.2.2 hS.1)))))))
                      clear H9
                      obtain ⟨up3, hl3, hl4⟩ := leave_turn HNC.out HL1.out
                      rw [h8] at hl3
                      injection hl3 with e1 e2; injection e2 with e2 e3; subst e1; subst e2; subst e3
                      clear hS h8 h5 HL1
                      have hpp : (p2 != p2) = false := by simp
                      go_upto_region 22 with (fail)
                      go_cut [177] (fun cc wx => cc = .bool false ∧ wx = W10)
                      case first =>
                        cases ok2 with
                        | false =>
                          go_wp2_with fail
                          go_meet
                          exact ⟨rfl, rfl⟩
                        | true =>
                          have hua := hl4 rfl
                          subst hua
                          have hux : (up1 == !up1) = false := by cases up1 <;> rfl
                          go_wp2_with fail
                          go_meet
                          exact ⟨rfl, rfl⟩
                      case rest =>
                        obtain ⟨rfl, hwc⟩ := hcut
                        subst hwc
                        as_aux_lemma =>
                          have i0 := Bl.ld (H10.out.2.2.2.1) 0 rfl
                          have i1 := Bl.ld (H10.out.2.2.2.1) 1 rfl
                          have i2 := Bl.ld (H10.out.2.2.2.1) 2 rfl
                          have i3 := Bl.ld (H10.out.2.2.2.1) 3 rfl
                          have i4 := Bl.ld (H10.out.2.2.2.1) 4 rfl
                          have i5 := Bl.ld (H10.out.2.2.2.1) 5 rfl
                          have i6 := Bl.ld (H10.out.2.2.2.1) 6 rfl
                          have b0 := Bl.ld (H10.out.2.1) 0 rfl
                          have b1 := Bl.ld (H10.out.2.1) 1 rfl
                          have n0 := Bl.ld (H10.out.2.2.1) 0 rfl
                          have n1 := Bl.ld (H10.out.2.2.1) 1 rfl
                          have n2 := Bl.ld (H10.out.2.2.1) 2 rfl
                          have n3 := Bl.ld (H10.out.2.2.1) 3 rfl
                          have n4 := Bl.ld (H10.out.2.2.1) 4 rfl
                          have n5 := Bl.ld (H10.out.2.2.1) 5 rfl
                          have n6 := Bl.ld (H10.out.2.2.1) 6 rfl
                          have l0 := Bl.ld (H10.out.1) 0 rfl
                          have l1 := Bl.ld (H10.out.1) 1 rfl
                          have l2 := Bl.ld (H10.out.1) 2 rfl
                          have l3 := Bl.ld (H10.out.1) 3 rfl
                          have l4 := Bl.ld (H10.out.1) 4 rfl
                          have l5 := Bl.ld (H10.out.1) 5 rfl
                          have l6 := Bl.ld (H10.out.1) 6 rfl
                          go_wp2_with fail
                          refine (enter_a (flip := flip) (up := up) (HS.out.1.keep H10.out.2.2.2.2.2.2) (HS.out.2.2.1.keep H10.out.2.2.2.2.2.2) (HS.out.2.2.2.1.keep H10.out.2.2.2.2.2.2) (HS.out.2.2.2.2.1.keep H10.out.2.2.2.2.2.2) (HS.out.2.2.2.2.2.keep H10.out.2.2.2.2.2.2) HFT.out HDS.out HRS.out HSH.out).mono ?_; rintro e w11 ⟨c, fl, ok, fv, rfl, hfl, hb, hE⟩
                          obtain ⟨L, hL, hso, hgo⟩ := hE HFX.out.2.2.1
                          have HL := Lib.hid (And.intro hL (And.intro hso hgo))
                          have H11 := Lib.hid (And.intro (H10.out.1.keep hb) (And.intro (H10.out.2.1.keep hb) (And.intro (H10.out.2.2.1.keep hb) (And.intro (H10.out.2.2.2.1.keep hb) (And.intro (H10.out.2.2.2.2.1.keep hb) (And.intro (H10.out.2.2.2.2.2.1.keep hb) (And.intro (hfl.rv) (below_trans H10.out.2.2.2.2.2.2 hb))))))))
                          clear H10
                          clear hb hE hfl hL hso hgo
                          clear i0 i1 i2 i3 i4 i5 i6 b0 b1 n0 n1 n2 n3 n4 n5 n6 l0 l1 l2 l3 l4 l5 l6
                          go_upto_region 25 with (fail)
                          refine flow (fun W=>Below w11.heap.size w11 W∧W.cell? ⟨gm,0,none⟩=some (.int .i64 l.n)∧W.cell? ⟨gm,1,none⟩=some (.slice aA an ac)∧W.cell? ⟨gm,2,none⟩=some (.slice cA cn cc)∧W.cell? ⟨gm,3,none⟩=some (.slice bA bn bc)∧W.cell? ⟨gm,4,none⟩=some (.slice Aq en cq)∧W.cell? ⟨gm,5,none⟩=some (.slice Ar dn cr)∧W.cell? ⟨gm,6,none⟩=some (.slice fA fn fc)∧W.cell? ⟨(w.heap.size+2),0,none⟩=some (.slice Ay an cy)∧W.cell? ⟨(w.heap.size+2),1,none⟩=some (.slice Az an cz)∧W.cell? ⟨(w.heap.size+2),2,none⟩=some (.bool up)∧W.cell? ⟨(w.heap.size+2),3,none⟩=some (.bool sb)∧W.cell? ⟨(w.heap.size+2),4,none⟩=some (.slice As ls cs)∧W.cell? ⟨(w.heap.size+2),5,none⟩=some (.slice Bs ms ds_)∧W.cell? ⟨(w.heap.size+2),6,none⟩=some (.bool flip)) (fun _ _=>True) (fun _ _=>False) 0 [⟨[],[(0,198),(1,199),(2,200),(3,201),(5,203),(6,204),(7,205),(8,206),(9,207),(10,208),(11,209),(12,210),(13,211),(14,212)],[],[(4,202,fun v W=>∃ A c,v=.slice A an c∧Ro w W (.slice A an c) (turnR ds))]⟩, ⟨[(4,202)],[(0,198),(1,199),(5,203),(6,204),(7,205),(8,206),(9,207),(10,208),(11,209),(12,210),(13,211),(14,212)],[],[(15,213,fun v W=>∃ c2 fl2 ok3 fv2,v=.tuple #[.int .i64 c2,fv2,.bool ok3]∧Iv W fv2 fl2∧∃ M : List (Int × Rat),M.Perm (candX (turnL l) (turnT st) (turnR ds) rs (!up) (turnT st).length)∧SortedC M∧goEnter flip (hasN (turnL l)) (fun c=>absN rs c*wideN (turnL l) c) M sh.q []=(c2,fl2,ok3))]⟩, ⟨[(15,213)],[(16,197),(17,214),(18,215),(19,216),(20,21),(21,22),(22,23)],[],[]⟩] [] [] ⟨[(4,202),(15,213)],[(0,198),(1,199),(2,200),(3,201),(5,203),(6,204),(7,205),(8,206),(9,207),(10,208),(11,209),(12,210),(13,211),(14,212),(16,197),(17,214),(18,215),(19,216),(20,21),(21,22),(22,23)],[],[]⟩ ⟨below_nil,Bl.ld (H11.out.2.2.2.1.keep below_nil) 0 rfl,Bl.ld (H11.out.2.2.2.1.keep below_nil) 1 rfl,Bl.ld (H11.out.2.2.2.1.keep below_nil) 2 rfl,Bl.ld (H11.out.2.2.2.1.keep below_nil) 3 rfl,Bl.ld (H11.out.2.2.2.1.keep below_nil) 4 rfl,Bl.ld (H11.out.2.2.2.1.keep below_nil) 5 rfl,Bl.ld (H11.out.2.2.2.1.keep below_nil) 6 rfl,Bl.ld (H11.out.2.2.1.keep below_nil) 0 rfl,Bl.ld (H11.out.2.2.1.keep below_nil) 1 rfl,Bl.ld (H11.out.2.2.1.keep below_nil) 2 rfl,Bl.ld (H11.out.2.2.1.keep below_nil) 3 rfl,Bl.ld (H11.out.2.2.1.keep below_nil) 4 rfl,Bl.ld (H11.out.2.2.1.keep below_nil) 5 rfl,Bl.ld (H11.out.2.2.1.keep below_nil) 6 rfl⟩ (trivial) (fun _ _ h b=>⟨(below_trans h.1 b),Bl.ld (H11.out.2.2.2.1.keep (below_trans h.1 b)) 0 rfl,Bl.ld (H11.out.2.2.2.1.keep (below_trans h.1 b)) 1 rfl,Bl.ld (H11.out.2.2.2.1.keep (below_trans h.1 b)) 2 rfl,Bl.ld (H11.out.2.2.2.1.keep (below_trans h.1 b)) 3 rfl,Bl.ld (H11.out.2.2.2.1.keep (below_trans h.1 b)) 4 rfl,Bl.ld (H11.out.2.2.2.1.keep (below_trans h.1 b)) 5 rfl,Bl.ld (H11.out.2.2.2.1.keep (below_trans h.1 b)) 6 rfl,Bl.ld (H11.out.2.2.1.keep (below_trans h.1 b)) 0 rfl,Bl.ld (H11.out.2.2.1.keep (below_trans h.1 b)) 1 rfl,Bl.ld (H11.out.2.2.1.keep (below_trans h.1 b)) 2 rfl,Bl.ld (H11.out.2.2.1.keep (below_trans h.1 b)) 3 rfl,Bl.ld (H11.out.2.2.1.keep (below_trans h.1 b)) 4 rfl,Bl.ld (H11.out.2.2.1.keep (below_trans h.1 b)) 5 rfl,Bl.ld (H11.out.2.2.1.keep (below_trans h.1 b)) 6 rfl⟩) (fun _ _ _ h _=>h) ⟨fun _ _ _ ⟨A,c,e,h⟩ b=>⟨A,c,e,h.keep b⟩,fun _ _ _ _ h=>h.elim,⟨fun _ _ _ ⟨c,f,o,v,e,h,r⟩ b=>⟨c,f,o,v,e,Iv.keep h b,r⟩,fun _ _ _ _ h=>h.elim,trivial⟩⟩ ⟨?_,?_,?_,trivial⟩ trivial trivial ?_
                          · rintro W hS
                            refine gvN ?_;(repeat refine flA ?_);refine flN (flN ?_)
                            refine flK (fun K hK=>?_) flL
                            go_simp
                            go_at_call 42; refine (turned_v (HS.out.2.2.2.1.keep (below_trans H11.out.2.2.2.2.2.2.2 hS.1)) HD.out.1 HDS.out).mono ?_; rintro e W2 ⟨u, rfl, h⟩
                            have hb := h.below
                            have h := h.from (below_trans H11.out.2.2.2.2.2.2.2 hS.1)
                            obtain ⟨A, c, hv⟩ := h.shape
                            rw [HTL.out.2.2.1] at hv
                            subst hv
                            go_wp2_with fail
                            exact hK.out _ _ ⟨⟨_,_,rfl,h⟩,hb⟩
                          · rintro W hS v4 ⟨A4,c4,rfl,h4⟩
                            refine gvN ?_;(repeat refine flA ?_);refine flN (flN ?_)
                            refine flK (fun K hK=>?_) flL
                            go_simp
                            go_at_call 35; refine (enter_a (flip := flip) (up := !up) (H11.out.2.2.2.2.1.keep hS.1) (H11.out.2.2.2.2.2.1.keep hS.1) h4.rx (HS.out.2.2.2.2.1.keep (below_trans H11.out.2.2.2.2.2.2.2 hS.1)) (HS.out.2.2.2.2.2.keep (below_trans H11.out.2.2.2.2.2.2.2 hS.1)) HFM.out HDM.out HRS.out HSH.out).mono ?_; rintro e W2 ⟨c_, fl_, ok_, fv_, rfl, hfl, hb, hE⟩
                            obtain ⟨L2, k1, k2, k3⟩ := hE HFX.out.2.2.2.2.2
                            go_wp2_with fail
                            exact hK.out _ _ ⟨⟨_,_,_,_,rfl,hfl.rv,L2,k1,k2,k3⟩,hb⟩
                          · rintro W hS v15 ⟨c2,fl2,ok3,fv2,rfl,hiv,M,h15a,h15b,h15c⟩
                            refine gvN ?_;(repeat refine flA ?_);refine flN (flN ?_)
                            exact flL
                          rintro W hS - v4 ⟨A4,c4,rfl,h4⟩ v15 ⟨c2,fl2,ok3,fv2,rfl,hiv,M,h15a,h15b,h15c⟩
                          have hS:=hS flY
                          refine gvN ?_;(repeat refine flA ?_);refine flN (flN ?_)
                          obtain ⟨W12, hWW⟩ : ∃ X, X = W := ⟨_, rfl⟩
                          subst hWW
                          have H12 := Lib.hid (And.intro (H11.out.1.keep hS.1) (And.intro (H11.out.2.1.keep hS.1) (And.intro (H11.out.2.2.1.keep hS.1) (And.intro (H11.out.2.2.2.1.keep hS.1) (And.intro (H11.out.2.2.2.2.1.keep hS.1) (And.intro (H11.out.2.2.2.2.2.1.keep hS.1) (And.intro (H11.out.2.2.2.2.2.2.1.keep hS.1) (And.intro (hiv) (below_trans H11.out.2.2.2.2.2.2.2 hS.1)))))))))
                          clear H11
                          rw [turnT_length] at h15a
                          have hge := enter_turn (flip := flip) (q := sh.q) HL.out.1 HL.out.2.1 h15a h15b
                          rw [h15c, HL.out.2.2] at hge
                          injection hge with e1 e2; injection e2 with e2 e3; subst e1; subst e2; subst e3
                          have HFLN : Hid (fl2.length ≤ 1000) := by
                            have e1 := goEnter_len HL.out.2.2
                            have e2 := HL.out.1.length_eq
                            have e3 : (candX l st ds rs up st.length).length ≤ st.length := candK_len _
                            have e4 := HSQ.out.2.2.2.1
                            simp only [List.length_nil] at e1
                            exact (by omega : fl2.length ≤ 1000)
                          clear hS hiv h15a h15b h15c h4
                          have hcc : (c2 == c2) = true := by simp
                          have hok : (ok3 == ok3) = true := by simp
                          obtain ⟨fe, hfe⟩ : ∃ b, feasK (okN l st ds) st.length = b := ⟨_, rfl⟩
                          have HFE := Lib.hid hfe
                          have hff : (fe == fe) = true := by simp
                          clear hfe
                          go_upto_region 26 with (fail)
                          as_aux_lemma =>
                            refine flow (fun W=>Below W12.heap.size W12 W∧W.cell? ⟨w.heap.size,0,none⟩=some (.int .i64 l.n)∧W.cell? ⟨w.heap.size,1,none⟩=some (.slice aA an ac)∧W.cell? ⟨w.heap.size,2,none⟩=some (.slice bA bn bc)∧W.cell? ⟨w.heap.size,3,none⟩=some (.slice cA cn cc)∧W.cell? ⟨w.heap.size,4,none⟩=some (.slice dA dn dc)∧W.cell? ⟨w.heap.size,5,none⟩=some (.slice eA en ec)∧W.cell? ⟨w.heap.size,6,none⟩=some (.slice fA fn fc)∧W.cell? ⟨gm,0,none⟩=some (.int .i64 l.n)∧W.cell? ⟨gm,1,none⟩=some (.slice aA an ac)∧W.cell? ⟨gm,2,none⟩=some (.slice cA cn cc)∧W.cell? ⟨gm,3,none⟩=some (.slice bA bn bc)∧W.cell? ⟨gm,4,none⟩=some (.slice Aq en cq)∧W.cell? ⟨gm,5,none⟩=some (.slice Ar dn cr)∧W.cell? ⟨gm,6,none⟩=some (.slice fA fn fc)∧W.cell? ⟨(w.heap.size+1),1,none⟩=some (.slice Av m cv)∧W.cell? ⟨(w.heap.size+2),0,none⟩=some (.slice Ay an cy)) (fun _ _=>True) (fun _ _=>False) 0 [⟨[],[(0,217),(1,218),(2,219),(3,220),(4,221),(5,222)],[],[(6,223,fun v W=>v=.bool true)]⟩, ⟨[(6,223)],[(0,217),(1,218),(2,219),(3,220),(7,224),(8,225),(9,226),(10,227),(11,228),(12,229),(13,230),(14,231),(15,232),(16,233),(17,234),(18,235),(20,237),(21,238),(22,239),(23,240)],[],[(19,236,fun v W=>v=.bool fe),(24,241,fun v W=>∃ A c,v=.slice A an c∧Ro w W (.slice A an c) (turnR ds))]⟩, ⟨[(6,223),(24,241)],[(0,217),(1,218),(2,219),(3,220),(7,224),(8,225),(9,226),(10,227),(11,228),(12,229),(13,230),(20,237),(21,238)],[],[(25,242,fun v W=>v=.bool fe)]⟩, ⟨[(6,223),(19,236),(25,242)],[(0,217),(1,218),(2,219),(3,220),(7,224),(8,225),(9,226),(10,227),(11,228),(12,229),(13,230),(26,243),(27,244),(28,6)],[],[]⟩] [] [] ⟨[(6,223),(19,236),(24,241),(25,242)],[(0,217),(1,218),(2,219),(3,220),(4,221),(5,222),(7,224),(8,225),(9,226),(10,227),(11,228),(12,229),(13,230),(14,231),(15,232),(16,233),(17,234),(18,235),(20,237),(21,238),(22,239),(23,240),(26,243),(27,244),(28,6)],[],[]⟩ ⟨below_nil,Bl.ld (H12.out.1.keep below_nil) 0 rfl,Bl.ld (H12.out.1.keep below_nil) 1 rfl,Bl.ld (H12.out.1.keep below_nil) 2 rfl,Bl.ld (H12.out.1.keep below_nil) 3 rfl,Bl.ld (H12.out.1.keep below_nil) 4 rfl,Bl.ld (H12.out.1.keep below_nil) 5 rfl,Bl.ld (H12.out.1.keep below_nil) 6 rfl,Bl.ld (H12.out.2.2.2.1.keep below_nil) 0 rfl,Bl.ld (H12.out.2.2.2.1.keep below_nil) 1 rfl,Bl.ld (H12.out.2.2.2.1.keep below_nil) 2 rfl,Bl.ld (H12.out.2.2.2.1.keep below_nil) 3 rfl,Bl.ld (H12.out.2.2.2.1.keep below_nil) 4 rfl,Bl.ld (H12.out.2.2.2.1.keep below_nil) 5 rfl,Bl.ld (H12.out.2.2.2.1.keep below_nil) 6 rfl,Bl.ld (H12.out.2.1.keep below_nil) 1 rfl,Bl.ld (H12.out.2.2.1.keep below_nil) 0 rfl⟩ (trivial) (fun _ _ h b=>⟨(below_trans h.1 b),Bl.ld (H12.out.1.keep (below_trans h.1 b)) 0 rfl,Bl.ld (H12.out.1.keep (below_trans h.1 b)) 1 rfl,Bl.ld (H12.out.1.keep (below_trans h.1 b)) 2 rfl,Bl.ld (H12.out.1.keep (below_trans h.1 b)) 3 rfl,Bl.ld (H12.out.1.keep (below_trans h.1 b)) 4 rfl,Bl.ld (H12.out.1.keep (below_trans h.1 b)) 5 rfl,Bl.ld (H12.out.1.keep (below_trans h.1 b)) 6 rfl,Bl.ld (H12.out.2.2.2.1.keep (below_trans h.1 b)) 0 rfl,Bl.ld (H12.out.2.2.2.1.keep (below_trans h.1 b)) 1 rfl,Bl.ld (H12.out.2.2.2.1.keep (below_trans h.1 b)) 2 rfl,Bl.ld (H12.out.2.2.2.1.keep (below_trans h.1 b)) 3 rfl,Bl.ld (H12.out.2.2.2.1.keep (below_trans h.1 b)) 4 rfl,Bl.ld (H12.out.2.2.2.1.keep (below_trans h.1 b)) 5 rfl,Bl.ld (H12.out.2.2.2.1.keep (below_trans h.1 b)) 6 rfl,Bl.ld (H12.out.2.1.keep (below_trans h.1 b)) 1 rfl,Bl.ld (H12.out.2.2.1.keep (below_trans h.1 b)) 0 rfl⟩) (fun _ _ _ h _=>h) ⟨fun _ _ _ h _=>h,fun _ _ _ _ h=>h.elim,⟨fun _ _ _ h _=>h,fun _ _ _ _ h=>h.elim,⟨fun _ _ _ ⟨A,c,e,h⟩ b=>⟨A,c,e,h.keep b⟩,fun _ _ _ _ h=>h.elim,⟨fun _ _ _ h _=>h,fun _ _ _ _ h=>h.elim,trivial⟩⟩⟩⟩ ⟨?_,?_,?_,?_,trivial⟩ trivial trivial ?_
                            · rintro W hS
                              refine gvN ?_;(repeat first|refine flA ?_|refine flB ?_);refine flN (flN ?_)
                              refine flK (fun K hK=>?_) flL
                              go_simp
                              go_at_call 38; refine (ints_d (Iv.keep H12.out.2.2.2.2.2.2.1 hS.1) (Iv.keep H12.out.2.2.2.2.2.2.2.1 hS.1) HFLN.out).mono ?_; rintro e W2 ⟨rfl, hb⟩
                              go_wp2_with fail
                              exact hK.out _ _ ⟨rfl,hb⟩
                            · rintro W hS v6 rfl
                              refine gvN ?_;(repeat first|refine flA ?_|refine flB ?_);refine flN (flN ?_)
                              refine flK (fun K hK=>?_) (flK (fun K hK=>?_) flL)
                              · go_simp
                                go_at_call 36; refine (feas_v (HS.out.1.keep (below_trans H12.out.2.2.2.2.2.2.2.2 hS.1)) (HS.out.2.2.1.keep (below_trans H12.out.2.2.2.2.2.2.2.2 hS.1)) (HS.out.2.2.2.1.keep (below_trans H12.out.2.2.2.2.2.2.2.2 hS.1)) HFT.out HDS.out).mono ?_; rintro e W2 ⟨⟨r, rfl, h⟩, hb⟩
                                have h := (h HFX.out.2.1).trans HFE.out
                                subst h
                                go_wp2_with fail
                                exact hK.out _ _ ⟨rfl,hb⟩
                              · go_simp
                                go_at_call 42; refine (turned_v (HS.out.2.2.2.1.keep (below_trans H12.out.2.2.2.2.2.2.2.2 hS.1)) HD.out.1 HDS.out).mono ?_; rintro e W2 ⟨u, rfl, h⟩
                                have hb := h.below
                                have h := h.from (below_trans H12.out.2.2.2.2.2.2.2.2 hS.1)
                                obtain ⟨A, c, hv⟩ := h.shape
                                rw [HTL.out.2.2.1] at hv
                                subst hv
                                go_wp2_with fail
                                exact hK.out _ _ ⟨⟨_,_,rfl,h⟩,hb⟩
                            · rintro W hS v6 rfl v24 ⟨A24,c24,rfl,h24⟩
                              refine gvN ?_;(repeat first|refine flA ?_|refine flB ?_);refine flN (flN ?_)
                              refine flK (fun K hK=>?_) flL
                              go_simp
                              go_at_call 36; refine (feas_v (H12.out.2.2.2.2.1.keep hS.1) (H12.out.2.2.2.2.2.1.keep hS.1) h24.rx HFM.out HDM.out).mono ?_; rintro e W2 ⟨⟨r, rfl, h⟩, hb⟩
                              have h := h HFX.out.2.2.2.2.1
                              rw [feas_turn, turnT_length, HFE.out] at h
                              subst h
                              go_wp2_with fail
                              exact hK.out _ _ ⟨rfl,hb⟩
                            · rintro W hS v6 rfl v19 rfl v25 rfl
                              refine gvN ?_;(repeat first|refine flA ?_|refine flB ?_);refine flN (flN ?_)
                              exact flL
                            rintro W hS - v6 rfl v19 rfl v24 ⟨A24,c24,rfl,h24⟩ v25 rfl
                            have hS:=hS flY
                            refine gvN ?_;(repeat first|refine flA ?_|refine flB ?_);refine flN (flN ?_)
                            obtain ⟨W13, hWW⟩ : ∃ X, X = W := ⟨_, rfl⟩
                            subst hWW
                            have H13 := Lib.hid (And.intro (H12.out.1.keep hS.1) (And.intro (H12.out.2.1.keep hS.1) (And.intro (H12.out.2.2.1.keep hS.1) (And.intro (H12.out.2.2.2.1.keep hS.1) (And.intro (H12.out.2.2.2.2.1.keep hS.1) (And.intro (H12.out.2.2.2.2.2.1.keep hS.1) (And.intro (H12.out.2.2.2.2.2.2.1.keep hS.1) (And.intro (H12.out.2.2.2.2.2.2.2.1.keep hS.1) (below_trans H12.out.2.2.2.2.2.2.2.2 hS.1)))))))))
                            clear H12
                            clear hS
                            go_wp2_with fail
                            go_ret
                            exact ⟨rfl, H13.out.2.2.2.2.2.2.2.2⟩
      · skip
        have hNN : ((M : Int) != (an : Int)) = true := by simp; omega
        go_wp2_with fail
        go_ret
        exact ⟨rfl, H2.out.2.2.2⟩
    · skip
      have hNN : ((N : Int) != (an : Int)) = true := by simp; omega
      go_wp2_with fail
      go_ret
      exact ⟨rfl, H2.out.2.2.2⟩
end I
end
end Go.Proofs.YtaajajngnmaggaaGreat
