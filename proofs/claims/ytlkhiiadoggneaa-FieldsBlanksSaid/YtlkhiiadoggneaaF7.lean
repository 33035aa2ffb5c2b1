/-
  FieldsJoins: it answers true, whatever the two texts are.
-/
import Derived.Test.YtlkhiiadoggneaaF5
import Derived.Test.YtlkhiiadoggneaaF6
import Derived.Laws.AppendOwnNone
namespace Go.Proofs.Ytlkhiiadoggneaa
open Go Go.RowKit Go.Lib Go.Proofs

theorem lines_at {t : ByteArray} {ls : List Ln} {e n : Nat} (h : linesOf t = (ls, e, n)) (m : Int) (w : World) (ht : t.size ≤ maxLen) (hm : w.cell? ⟨0, 0, none⟩ = some (.int .i64 m)) :
    Calls Try.prog 6 #[.string t] w fun x w' => ∃ A c, x = .returned (.tuple #[.slice A ls.length c, .int .i64 e, .int .i64 n]) ∧ Lns w' w.heap.size (.slice A ls.length c) ls ∧ Below w.heap.size w w' :=
  (lines_any t m w ht hm).mono fun x w' ⟨v, h1, h2, h3⟩ => by
    rw [h] at h1 h2
    obtain ⟨us, a, b⟩ := h2
    obtain ⟨A, c, rfl, _⟩ := own_slice a
    exact ⟨A, c, h1, ⟨us, a, b⟩, h3⟩
theorem Below.cell0 {w w' : World} {v : Value} (hm : w.cell? ⟨0, 0, none⟩ = some v) (h : Below w.heap.size w w') : w'.cell? ⟨0, 0, none⟩ = some v := (h.cell (p := ⟨0, 0, none⟩) (cell_lt hm)).trans hm


theorem own_set {w : World} {B : Nat} {t : TypeId} {size n cap g : Nat} {xs : List Value} (h : w.ownsRow B t size (.slice (some ⟨g, 0, none⟩) n cap) n xs) {j : Nat} (u : Value) :
    (w.setCell ⟨g, j, none⟩ u).ownsRow B t size (.slice (some ⟨g, 0, none⟩) n cap) n (xs.set j u) := by
  obtain ⟨h1, h2⟩ := h
  refine ⟨by rw [List.length_set]; exact h1, ?_⟩
  rcases h2 with ⟨h2, _⟩ | ⟨g', cap', cur, hv, hg, hh, a, b, c, d⟩
  · cases h2
  · injection hv with hv _ hc
    injection hv with hv
    injection hv with hv
    subst hv; subst hc
    refine .inr ⟨g, cap, cur.setIfInBounds j u, rfl, hg, ?_, a, b, by simpa using c, ?_⟩
    · simp [World.setCell, Array.getElem?_modify, hh]
    · rw [Array.toList_setIfInBounds, List.take_set, d]
theorem LnCells.set_ {w w' : World} {B : Nat} {ls : List Ln} {us : List Value} (h : LnCells w B ls us) (hk : KeepT 9 w w') {i : Nat} (hi : i < ls.length) (k : Nat) :
    LnCells w' B (ls.set i ⟨k, ls[i].head, ls[i].words⟩) (us.set (i * 3) (.int .i64 k)) := by
  induction ls generalizing us i with
  | nil => simp at hi
  | cons l ls ih =>
    obtain ⟨A, us', h1, h2, h3⟩ := h
    subst h1
    cases i with
    | zero => exact ⟨A, us', rfl, own_keepT h2 hk, h3.keep hk⟩
    | succ i =>
      refine ⟨A, us'.set (i * 3) (.int .i64 k), ?_, own_keepT h2 hk, ih h3 (by simpa using hi)⟩
      rw [show (i + 1) * 3 = i * 3 + 1 + 1 + 1 from by omega]
      rfl
theorem Lns.set_ {w : World} {B g cap : Nat} {ls : List Ln} {n : Nat} (hn : n = ls.length) (h : Lns w B (.slice (some ⟨g, 0, none⟩) n cap) ls) {i : Nat} (hi : i < ls.length) (k : Nat) :
    Lns (w.setCell ⟨g, i * 3, none⟩ (.int .i64 k)) B (.slice (some ⟨g, 0, none⟩) n cap) (ls.set i ⟨k, ls[i].head, ls[i].words⟩) := by
  subst hn
  obtain ⟨us, a, b⟩ := h
  obtain ⟨cs, e, m, h1, h2⟩ := own_type a g rfl
  refine ⟨us.set (i * 3) (.int .i64 k), ?_, b.set_ (KeepT.setCell h1 (by rw [h2]; decide) rfl _) hi k⟩
  rw [List.length_set]
  exact own_set a _
theorem Lns.setCell_below {w : World} {B : Nat} {v : Value} {ls : List Ln} (h : Lns w B v ls) {p : Addr} (hp : p.block < B) (u : Value) : Lns (w.setCell p u) B v ls := by
  obtain ⟨us, a, b⟩ := h
  refine ⟨us, ownsRow_setCell_below a hp u, ?_⟩
  clear a
  induction ls generalizing us with
  | nil => exact b
  | cons l ls ih =>
    obtain ⟨A, us', h1, h2, h3⟩ := b
    exact ⟨A, us', h1, ownsRow_setCell_below h2 hp u, ih _ h3⟩
theorem own_grown_below {w w' : World} {B : Nat} {t : TypeId} {size n : Nat} {v : Value} {xs : List Value} {row : Option Nat} (h : w.ownsRow B t size v n xs) (hg : w.grownBy w' row) (hr : ∀ k, row = some k → k < B) : w'.ownsRow B t size v n xs := by
  obtain ⟨h1, h2⟩ := h
  refine ⟨h1, ?_⟩
  rcases h2 with h2 | ⟨g, cap, cur, hv, hB, hh, r⟩
  · exact Or.inl h2
  · exact Or.inr ⟨g, cap, cur, hv, hB, (hg.block g (heap_lt hh) (fun e => by have := hr g e.symm; omega)).trans hh, r⟩
theorem Lns.grown_below {w w' : World} {B : Nat} {v : Value} {ls : List Ln} {row : Option Nat} (h : Lns w B v ls) (hg : w.grownBy w' row) (hr : ∀ k, row = some k → k < B) : Lns w' B v ls := by
  obtain ⟨us, a, b⟩ := h
  refine ⟨us, own_grown_below a hg hr, ?_⟩
  clear a
  induction ls generalizing us with
  | nil => exact b
  | cons l ls ih =>
    obtain ⟨A, us', h1, h2, h3⟩ := b
    exact ⟨A, us', h1, own_grown_below h2 hg hr, ih _ h3⟩
theorem LnCells.append {w : World} {B : Nat} {ls ms : List Ln} {us vs : List Value} (h : LnCells w B ls us) (k : LnCells w B ms vs) : LnCells w B (ls ++ ms) (us ++ vs) := by
  induction ls generalizing us with
  | nil => rw [show us = [] from h]; exact k
  | cons l ls ih =>
    obtain ⟨A, us', h1, h2, h3⟩ := h
    subst h1
    exact ⟨A, us' ++ vs, rfl, h2, ih h3⟩
theorem LnCells.one {w : World} {B : Nat} {ls : List Ln} {us : List Value} (h : LnCells w B ls us) : ∀ u ∈ us, u.oneCell' = true := by
  induction ls generalizing us with
  | nil => rw [show us = [] from h]; simp
  | cons l ls ih =>
    obtain ⟨A, us', h1, h2, h3⟩ := h
    subst h1
    intro u hu
    simp only [List.mem_cons] at hu
    rcases hu with rfl | rfl | rfl | hu
    · rfl
    · rfl
    · rfl
    · exact ih h3 u hu

theorem Lns.spot {w : World} {B n cap : Nat} {A : Option Addr} {ls : List Ln} (hn : n = ls.length) (h : Lns w B (.slice A n cap) ls) {i : Nat} (hi : i < ls.length) :
    ∃ g, A = some ⟨g, 0, none⟩ ∧ B ≤ g ∧ g < w.heap.size ∧ n ≤ cap ∧ w.cell? ⟨g, i * 3, none⟩ = some (.int .i64 ls[i].no) ∧ w.frozen? ⟨g, i * 3, none⟩ = false := by
  subst hn
  obtain ⟨us, a, b⟩ := h
  obtain ⟨g, cap', hv, h1, h2, _, h3, h4, h5⟩ := own_cells a (by omega)
  injection hv with hv _ hc
  obtain ⟨A', e1, _⟩ := b.at_ hi
  exact ⟨g, hv, h1, h3, by omega, h4 _ _ e1, h5 _⟩
theorem wpList_wanted {P : Program} {o : Oper} {a : Act} {w : World} {ops : Array Oper} {rest : List Oper} {Q : Exit → Act → World → Prop} (hw : Region.wanted o (yielded ops a.tmps) = true)
    (h : ∀ K : Act → World → Prop, (∀ a w, wpList P ops Q rest a w → K a w) → o.wp P a w K Q) : wpList P ops Q (o :: rest) a w :=
  wpList_step fun K hK => by rw [if_pos hw]; exact h K hK
theorem wpList_append_w {P : Program} {w : World} {ops : Array Oper} {rest : List Oper} {o : Oper} {a : Act} {Q : Exit → Act → World → Prop} (hw : Region.wanted o (yielded ops a.tmps) = true) (s x : Operand) (t : TypeId)
    (ho : o.op = .call { callee := .builtin .append, args := #[s, x], argTypes := #[t, t] })
    (base : Nat) (e : TypeId) (i : TypeInfo) (z : Value) (size bytes : Nat) (ht : P.underlying t = some (.slice e)) (hi : P.info? e = some i) (hz : i.zero = some z)
    (hsize : i.size = size) (hby : i.bytes = bytes) (hzs : z.cells.size = size) (hsz : 0 < size)
    (v : Value) (n : Nat) (xs : List Value) (hs : a.eval s = v) (hown : w.ownsRow base e size v n xs)
    (ad : Addr) (m c : Nat) (news : List Value) (hx : a.eval x = .slice (some ad) m c) (hl : news.length = m * size) (hnews : ∀ j u, news[j]? = some u → w.cell? (ad.add j) = some u) (h1 : ∀ u ∈ news, u.oneCell' = true)
    (h63 : n + m ≤ maxLen) (hbytes : (n + m) * bytes ≤ 140737488355328) (hbase : base ≤ w.heap.size)
    (h : ∀ v' w', w'.ownsRow base e size v' (n + m) (xs ++ news) → w.grownBy w' v.ownBlock → (v' = .slice none 0 0 ↔ v = .slice none 0 0 ∧ m = 0) → wpList P ops Q rest (a.put o.dst v') w') : wpList P ops Q (o :: rest) a w :=
  wpList_wanted hw fun _ hK => wp_append_own w s x t ho base e i z size bytes ht hi hz hsize hby hzs hsz v n xs hs hown ad m c news hx hl hnews h1 h63 hbytes hbase fun v' w' h2 h3 h4 => hK _ _ (h v' w' h2 h3 h4)
theorem wpList_append_none_w {P : Program} {w : World} {ops : Array Oper} {rest : List Oper} {o : Oper} {a : Act} {Q : Exit → Act → World → Prop} (hw : Region.wanted o (yielded ops a.tmps) = true) (s x : Operand) (t : TypeId)
    (ho : o.op = .call { callee := .builtin .append, args := #[s, x], argTypes := #[t, t] })
    (base : Nat) (e : TypeId) (i : TypeInfo) (size : Nat) (ht : P.underlying t = some (.slice e)) (hi : P.info? e = some i)
    (v : Value) (n : Nat) (xs : List Value) (hs : a.eval s = v) (hown : w.ownsRow base e size v n xs) (hx : a.eval x = .slice none 0 0)
    (h : wpList P ops Q rest (a.put o.dst v) w) : wpList P ops Q (o :: rest) a w := by
  refine wpList_wanted hw fun K hK => ?_
  have hrun := run_append_owned_none (P := P) (w := w) base t o.type e i size ht hi v n xs hown
  unfold Oper.wp
  simp [execOp, ho, resolve, invoke, builtin, hs, hx, hrun, Result.andThen]
  exact hK _ _ h
theorem cells_at {w : World} {B : Nat} {t : TypeId} {size n cap g : Nat} {xs : List Value} (h : w.ownsRow B t size (.slice (some ⟨g, 0, none⟩) n cap) n xs) : ∀ j u, xs[j]? = some u → w.cell? ((⟨g, 0, none⟩ : Addr).add j) = some u := h.cells (g := g) rfl
/-- The first k of them counted on. -/
def upTo (n k : Nat) (ls : List Ln) : List Ln := (ls.take k).map (up n) ++ ls.drop k
theorem upTo_zero (n : Nat) (ls : List Ln) : upTo n 0 ls = ls := by simp [upTo]
theorem upTo_all (n : Nat) (ls : List Ln) : upTo n ls.length ls = ls.map (up n) := by simp [upTo]
theorem upTo_length (n k : Nat) (ls : List Ln) : (upTo n k ls).length = ls.length := by simp [upTo]; omega
theorem upTo_get (n k : Nat) (ls : List Ln) (h : k < ls.length) (h' : k < (upTo n k ls).length) : (upTo n k ls)[k] = ls[k] := by
  have hk : ((ls.take k).map (up n)).length = k := by simp; omega
  have e : (upTo n k ls)[k]? = some ls[k] := by
    unfold upTo
    rw [List.getElem?_append_right (by omega), hk, Nat.sub_self, List.drop_eq_getElem_cons h]; rfl
  rw [List.getElem?_eq_getElem h'] at e
  injection e
theorem upTo_step (n k : Nat) (ls : List Ln) (h : k < ls.length) : (upTo n k ls).set k (up n ls[k]) = upTo n (k + 1) ls := by
  have hk : ((ls.take k).map (up n)).length = k := by simp; omega
  unfold upTo
  rw [List.set_append_right _ _ (by omega), hk, Nat.sub_self, List.drop_eq_getElem_cons h]
  show List.map (up n) (ls.take k) ++ (up n ls[k] :: ls.drop (k + 1)) = _
  rw [List.take_succ_eq_append_getElem h, List.map_append, List.append_assoc]
  rfl

theorem linesR_bound (n : Nat) : ∀ (t : ByteArray) (all : Nat) (out : List Ln), t.size ≤ n → (∀ l ∈ out, l.no ≤ all) →
    (linesR t all out).2.2 ≤ all + t.size ∧ ∀ l ∈ (linesR t all out).1, l.no ≤ all + t.size := by
  induction n with
  | zero => intro t all out h ho; rw [linesR_end t all out (by omega)]; exact ⟨by simp, fun l hl => by have := ho l hl; omega⟩
  | succ n ih =>
    intro t all out h ho
    by_cases h0 : t.size = 0
    · rw [linesR_end t all out h0]; exact ⟨by simp, fun l hl => by have := ho l hl; omega⟩
    · have hr := restOf_size t h0
      rw [linesR_step t all out h0]
      split
      · exact ⟨by simp; omega, by simp⟩
      · split
        · obtain ⟨a, b⟩ := ih (restOf t) (all + 1) (out ++ [⟨all + 1, !isBlank (first (noCR (lineOf t))), wordsOf (noCR (lineOf t))⟩]) (by omega) (by
            intro l hl
            rcases List.mem_append.1 hl with hl | hl
            · have := ho l hl; omega
            · simp at hl; rw [hl]; exact Nat.le_refl _)
          exact ⟨by omega, fun l hl => by have := b l hl; omega⟩
        · obtain ⟨a, b⟩ := ih (restOf t) (all + 1) out (by omega) (fun l hl => by have := ho l hl; omega)
          exact ⟨by omega, fun l hl => by have := b l hl; omega⟩
theorem linesR_count (n : Nat) : ∀ (t : ByteArray) (all : Nat) (out : List Ln), t.size ≤ n → (linesR t all out).1.length ≤ out.length + t.size := by
  induction n with
  | zero => intro t all out h; rw [linesR_end t all out (by omega)]; simp
  | succ n ih =>
    intro t all out h
    by_cases h0 : t.size = 0
    · rw [linesR_end t all out h0]; simp
    · have hr := restOf_size t h0
      rw [linesR_step t all out h0]
      split
      · simp
      · split
        · have := ih (restOf t) (all + 1) (out ++ [⟨all + 1, !isBlank (first (noCR (lineOf t))), wordsOf (noCR (lineOf t))⟩]) (by omega)
          simp only [List.length_append, List.length_cons, List.length_nil] at this
          omega
        · have := ih (restOf t) (all + 1) out (by omega)
          omega
theorem linesOf_count (t : ByteArray) : (linesOf t).1.length ≤ 65536 := by
  unfold linesOf
  split
  · simp
  · have : (linesF t.size t 0 []).1.length ≤ [].length + t.size := linesR_count _ t 0 [] (Nat.le_refl _)
    simp at this
    omega
theorem linesOf_bound (t : ByteArray) : (linesOf t).2.2 ≤ 65536 ∧ ∀ l ∈ (linesOf t).1, l.no ≤ 65536 := by
  unfold linesOf
  split
  · simp
  · obtain ⟨a, b⟩ := linesR_bound _ t 0 [] (Nat.le_refl _) (by simp)
    exact ⟨by have : (linesF t.size t 0 []).2.2 ≤ 0 + t.size := a
              omega, fun l hl => by have := b l hl; omega⟩

set_option maxHeartbeats 1000000 in
theorem joins_any (a b : ByteArray) (m : Int) (w : World) (ha : a.size < maxLen) (hb : b.size ≤ maxLen) (hab : a.size + 1 + b.size ≤ maxLen) (hm : w.cell? ⟨0, 0, none⟩ = some (.int .i64 m)) :
    Calls Try.prog 4 #[.string a, .string b] w fun e w' => e = .returned (.bool true) ∧ Below w.heap.size w w' := by
  have hs1 : (a ++ ⟨#[10]⟩ : ByteArray).size = a.size + 1 := ByteArray.size_append
  have hs2 : ((a ++ ⟨#[10]⟩) ++ b : ByteArray).size = a.size + 1 + b.size := by rw [ByteArray.size_append, hs1]
  obtain ⟨l, e, n, h1⟩ : ∃ l e n, linesOf (a ++ ⟨#[10]⟩) = (l, e, n) := ⟨_, _, _, rfl⟩
  obtain ⟨k, f, q, h2⟩ : ∃ l e n, linesOf b = (l, e, n) := ⟨_, _, _, rfl⟩
  obtain ⟨o, g, r, h3⟩ : ∃ l e n, linesOf ((a ++ ⟨#[10]⟩) ++ b) = (l, e, n) := ⟨_, _, _, rfl⟩
  have j1 := fun w hm => lines_at h1 m w (by omega) hm
  have j2 := fun w hm => lines_at h2 m w (by omega) hm
  have j3 := fun w hm => lines_at h3 m w (by omega) hm
  have J1 := Lib.hid j1; have J2 := Lib.hid j2; have J3 := Lib.hid j3
  clear j1 j2 j3
  by_cases hlong : 65536 < a.size + 1 + b.size
  · have h4 : linesOf ((a ++ ⟨#[10]⟩) ++ b) = ([], 1, 0) := by unfold linesOf; rw [if_pos (by omega)]
    rw [h3] at h4
    injection h4 with h4 h5
    injection h5 with h5 h6
    subst h4; subst h5; subst h6
    have hlt : (65536 : Int) - (b.size : Int) < ((a ++ ⟨#[10]⟩ : ByteArray).size : Int) := by omega
    have hs0 : (a ++ ⟨#[10]⟩ : ByteArray).size ≤ maxLen := by omega
    clear h1 h2 h3 hs1 hs2
    unfold maxLen at *
    go_enter Try.func4, Try.ntmps4
    go_wp2_with (go_at_call 5; refine (speaks_any m _ hm).mono ?_; rintro e w1 ⟨rfl, hb1⟩)
    have hm1 := Below.cell0 hm hb1
    refine (J1.out _ hm1).mono ?_; rintro e w2 ⟨A1, c1, rfl, l1, hb2⟩
    have hm2 := Below.cell0 hm1 hb2
    go_wp2_with fail
    refine (J2.out _ hm2).mono ?_; rintro e w3 ⟨A2, c2, rfl, l2, hb3⟩
    have hm3 := Below.cell0 hm2 hb3
    go_wp2_with fail
    refine (J3.out _ hm3).mono ?_; rintro e w4 ⟨A3, c3, rfl, l3, hb4⟩
    have hbb : Below w.heap.size w w4 := ((hb1.trans (hb2.mono hb1.size)).trans (hb3.mono (Nat.le_trans hb1.size hb2.size))).trans (hb4.mono (Nat.le_trans (Nat.le_trans hb1.size hb2.size) hb3.size))
    clear l1 l2 l3 hb1 hb2 hb3 hb4 hm1 hm2 hm3
    go_wp2_with fail
    go_ret
    exact ⟨rfl, hbb⟩
  · have h4 := lines_join a b (by omega)
    have hlt : ¬ (65536 : Int) - (b.size : Int) < ((a ++ ⟨#[10]⟩ : ByteArray).size : Int) := by omega
    have hlt2 : ¬ (65536 : Int) < (b.size : Int) := by omega
    have hs0 : (a ++ ⟨#[10]⟩ : ByteArray).size ≤ maxLen := by omega
    rw [h3, h2, h1] at h4
    by_cases he : e = 0
    · rw [if_pos he] at h4
      subst he
      by_cases hf : f = 0
      · rw [if_pos hf] at h4
        subst hf
        injection h4 with h4 h5
        injection h5 with h5 h6
        subst h5; subst h6
        have HO := Lib.hid h4; clear h4
        have hbn := (linesOf_bound (a ++ ⟨#[10]⟩)).1
        have hbk := (linesOf_bound b)
        have hc1 := linesOf_count (a ++ ⟨#[10]⟩)
        have hc2 := linesOf_count b
        rw [h1] at hbn hc1
        rw [h2] at hbk hc2
        obtain ⟨hbq, hbk⟩ := hbk
        clear h1 h2 h3 hs1 hs2
        simp only at hbn hbk hbq hc1 hc2
        unfold maxLen at *
        go_enter Try.func4, Try.ntmps4
        go_wp2_with (go_at_call 5; refine (speaks_any m _ hm).mono ?_; rintro e w1 ⟨rfl, hb1⟩)
        have hm1 := Below.cell0 hm hb1
        refine (J1.out _ hm1).mono ?_; rintro e w2 ⟨A1, c1, rfl, l1, hb2⟩
        have hm2 := Below.cell0 hm1 hb2
        go_wp2_with fail
        refine (J2.out _ hm2).mono ?_; rintro e w3 ⟨A2, c2, rfl, l2, hb3⟩
        have hm3 := Below.cell0 hm2 hb3
        go_wp2_with fail
        refine (J3.out _ hm3).mono ?_; rintro e w4 ⟨A3, c3, rfl, l3, hb4⟩
        clear hm1 hm2 hm3 hm
        go_wp2_with fail
        go_loopw [81] (fun i wr => ∃ j : Nat, i = .int .i64 j ∧ j ≤ k.length ∧ Lns wr w2.heap.size (.slice A2 k.length c2) (upTo n j k) ∧ Lns wr w3.heap.size (.slice A3 o.length c3) o ∧ Below w2.heap.size w2 wr) (fun i _ => k.length - (intOf i).toNat)
        case atStart => exact ⟨0, rfl, by omega, by rw [upTo_zero]; exact l2.keep (KeepT.below hb4) (KeepT.below hb4), l3, hb3.trans (hb4.mono hb3.size)⟩
        case round =>
          obtain ⟨j, rfl, hj, k2, k3, hbw⟩ := hrel
          by_cases hjl : j < k.length
          · obtain ⟨g, rfl, hg1, hg2, hg3, hcell, hfr⟩ := k2.spot (upTo_length n j k).symm (i := j) (by rw [upTo_length]; exact hjl)
            rw [upTo_get n j k hjl] at hcell
            have hno := hbk k[j] (List.getElem_mem hjl)
            have hcap : c2 ≤ 9223372036854775807 := by
              obtain ⟨_, u1, _⟩ := k2
              obtain ⟨_, _, hv, _, _, hm, _⟩ := own_cells u1 (by rw [upTo_length]; omega)
              injection hv with _ _ hv
              unfold maxLen at hm
              omega
            have hset := k2.set_ (upTo_length n j k).symm (i := j) (by rw [upTo_length]; exact hjl) (k[j].no + n)
            rw [upTo_get n j k hjl] at hset
            have e : (upTo n j k).set j ⟨k[j].no + n, k[j].head, k[j].words⟩ = upTo n (j + 1) k := upTo_step n j k hjl
            rw [e] at hset
            have hg4 : g < w3.heap.size := by
              obtain ⟨g', hh, _, hg', _⟩ := l2.spot rfl (i := j) hjl
              injection hh with hh
              injection hh with hh
              omega
            have hall := k3.setCell_below (p := ⟨g, j * 3, none⟩) hg4 (.int .i64 (k[j].no + n : Nat))
            have hbw' := hbw.setCell (p := ⟨g, j * 3, none⟩) hg1 (.int .i64 (k[j].no + n : Nat))
            have HH := Lib.hid (And.intro hset (And.intro hall hbw'))
            clear hset hall hbw' e k2 k3 hbw l1 l2 l3 hb1 hb2 hb3 hb4
            go_wp2_with fail
            go_roundw
            case rel => exact ⟨j + 1, by go_num, by omega, HH.out⟩
            case measure => simp [intOf]; omega
          · obtain rfl : j = k.length := by omega
            have bs1 := hb1.size
            have bs2 := hb2.size
            have bs3 := hb3.size
            have hbz := hbw.size
            have hbb : Below w.heap.size w wr := (hb1.trans (hb2.mono hb1.size)).trans (hbw.mono (Nat.le_trans hb1.size hb2.size))
            have hl1 : ∀ g, (Value.slice A1 l.length c1).ownBlock = some g → g < w2.heap.size := by
              obtain ⟨_, u1, _⟩ := l1
              exact fun g hg => (u1.lt g hg).2
            obtain ⟨us1, o1, cc1⟩ := l1.keep (KeepT.below hbw) (KeepT.below hbw)
            rw [upTo_all] at k2
            obtain ⟨us2, o2, cc2⟩ := k2
            rw [List.length_map] at o2
            obtain ⟨i0, hi0, hz0, hz1, hz2⟩ := info_parts line_info
            have hge := own_ge o1
            clear l1 l2 l3 hb1 hb2 hb3 hb4
            rcases o2.2 with ⟨hv, h0⟩ | ⟨g, cap, cur, hv, _⟩
            · injection hv with hv hv2 hv3
              subst hv; subst hv3
              have hk0 : k = [] := List.eq_nil_of_length_eq_zero h0
              subst hk0
              have hs1 := same_any _ (.slice A1 l.length c1) _ _ o wr k3 (by
                rw [HO.out]; simpa using (show Lns wr w1.heap.size _ l from ⟨us1, o1, cc1⟩))
              have HS := Lib.hid hs1
              clear hs1 k3 hv2 h0 o2 cc2
              go_wp2_with (first
                | (at_builtin; refine wpList_append_none_w rfl (.tmp 105) (.tmp 106) 23 rfl w1.heap.size 31 i0 3 Try.underlying23 hi0 _ _ us1 rfl o1 rfl ?_)
                | (go_at_call 7; refine HS.out.mono ?_; rintro e w' ⟨rfl, q1, rfl⟩))
              go_ret
              exact ⟨rfl, below_drewN' hbb _⟩
            · injection hv with hv hv2 hv3
              subst hv; subst hv3
              go_wp2_with (first
                | (at_builtin; refine wpList_append_w rfl (.tmp 105) (.tmp 106) 23 rfl w1.heap.size 31 i0 _ 3 40 Try.underlying23 hi0 hz0 hz1 hz2 rfl (by decide) _ _ us1 rfl o1 _ _ _ us2 rfl o2.1 (cells_at o2) cc2.one (by unfold maxLen; omega) (by omega) (by omega) ?_; intro v1 W1 hown1 hg1 _)
                | fail)
              have hk3 : Lns W1 w3.heap.size (.slice A3 o.length c3) o := k3.grown_below hg1 (fun g hg => Nat.lt_of_lt_of_le (hl1 g hg) bs3)
              have hv1 : Lns W1 w1.heap.size v1 o := by
                rw [HO.out]
                refine ⟨us1 ++ us2, ?_, (cc1.append (cc2.mono bs2)).keep (own_keepT_of o1 hg1 (by decide))⟩
                rw [List.length_append, List.length_map]
                exact hown1
              have hb5 : Below w.heap.size w W1 := hbb.grown hg1 (Nat.le_trans (Nat.le_trans bs1 bs2) hbz) (fun g hg => Nat.le_trans bs1 (hge g hg))
              refine (same_any _ _ _ _ o W1 hk3 hv1).mono ?_
              rintro e w' ⟨rfl, q1, rfl⟩
              clear hk3 hv1 hown1 hg1 k3 o2 cc2 cc1 o1
              go_wp2_with fail
              go_ret
              exact ⟨rfl, below_drewN' hb5 _⟩
      · rw [if_neg hf] at h4
        injection h4 with h4 h5
        injection h5 with h5 h6
        subst h4; subst h5; subst h6
        have he' : ((g : Int) != 0) = true := by simp; omega
        have hbn := (linesOf_bound (a ++ ⟨#[10]⟩)).1
        have hbk := (linesOf_bound b).1
        rw [h1] at hbn
        rw [h2] at hbk
        clear h1 h2 h3 hs1 hs2 hf
        simp only at hbn hbk
        unfold maxLen at *
        go_enter Try.func4, Try.ntmps4
        go_wp2_with (go_at_call 5; refine (speaks_any m _ hm).mono ?_; rintro e w1 ⟨rfl, hb1⟩)
        have hm1 := Below.cell0 hm hb1
        refine (J1.out _ hm1).mono ?_; rintro e w2 ⟨A1, c1, rfl, l1, hb2⟩
        have hm2 := Below.cell0 hm1 hb2
        go_wp2_with fail
        refine (J2.out _ hm2).mono ?_; rintro e w3 ⟨A2, c2, rfl, l2, hb3⟩
        have hm3 := Below.cell0 hm2 hb3
        go_wp2_with fail
        refine (J3.out _ hm3).mono ?_; rintro e w4 ⟨A3, c3, rfl, l3, hb4⟩
        have hbb : Below w.heap.size w w4 := ((hb1.trans (hb2.mono hb1.size)).trans (hb3.mono (Nat.le_trans hb1.size hb2.size))).trans (hb4.mono (Nat.le_trans (Nat.le_trans hb1.size hb2.size) hb3.size))
        clear l1 l2 l3 hb1 hb2 hb3 hb4 hm1 hm2 hm3
        go_wp2_with fail
        go_ret
        exact ⟨by simp, hbb⟩
    · rw [if_neg he] at h4
      injection h4 with h4 h5
      injection h5 with h5 h6
      subst h4; subst h5; subst h6
      have he' : ((g : Int) != 0) = true := by simp; omega
      clear h1 h2 h3 hs1 hs2 he
      unfold maxLen at *
      go_enter Try.func4, Try.ntmps4
      go_wp2_with (go_at_call 5; refine (speaks_any m _ hm).mono ?_; rintro e w1 ⟨rfl, hb1⟩)
      have hm1 := Below.cell0 hm hb1
      refine (J1.out _ hm1).mono ?_; rintro e w2 ⟨A1, c1, rfl, l1, hb2⟩
      have hm2 := Below.cell0 hm1 hb2
      go_wp2_with fail
      refine (J2.out _ hm2).mono ?_; rintro e w3 ⟨A2, c2, rfl, l2, hb3⟩
      have hm3 := Below.cell0 hm2 hb3
      go_wp2_with fail
      refine (J3.out _ hm3).mono ?_; rintro e w4 ⟨A3, c3, rfl, l3, hb4⟩
      have hbb : Below w.heap.size w w4 := ((hb1.trans (hb2.mono hb1.size)).trans (hb3.mono (Nat.le_trans hb1.size hb2.size))).trans (hb4.mono (Nat.le_trans (Nat.le_trans hb1.size hb2.size) hb3.size))
      clear l1 l2 l3 hb1 hb2 hb3 hb4 hm1 hm2 hm3
      go_wp2_with fail
      go_ret
      exact ⟨rfl, hbb⟩
end Go.Proofs.Ytlkhiiadoggneaa
