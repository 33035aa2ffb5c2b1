/-
  Lines of words written again with blanks between, and what counts for nothing behind them: the same lines.
-/
import Derived.Test.YtlkhiiadoggneaaB1
import Derived.Test.YtlkhiiadoggneaaF7
namespace Go.Proofs.Ytlkhiiadoggneaa
open Go Go.RowKit Go.Lib Go.Proofs

def Sign (b : UInt8) : Prop := isBad b.toNat = false ∧ isBlank b.toNat = false
def WfWord (w : ByteArray) : Prop := w.data.toList ≠ [] ∧ ∀ b ∈ w.data.toList, Sign b
def WfLn (l : Ln) : Prop := l.words ≠ [] ∧ (∀ w ∈ l.words, WfWord w) ∧ (l.head = true → ∀ w ws, l.words = w :: ws → first w ≠ 42)

theorem fieldsL_wf : ∀ (l cur : List UInt8), (∀ b ∈ cur, Sign b) → Good l → ∀ w ∈ fieldsL l cur, w ≠ [] ∧ ∀ b ∈ w, Sign b := by
  intro l
  induction l with
  | nil =>
    intro cur hc _ w hw
    unfold fieldsL at hw
    split at hw
    · simp at hw
    · simp at hw; subst hw; exact ⟨by assumption, hc⟩
  | cons c l ih =>
    intro cur hc hg w hw
    obtain ⟨h1, h2⟩ := (good_cons c l).1 hg
    unfold fieldsL at hw
    cases hb : isBlank c.toNat with
    | true =>
      rw [if_pos hb] at hw
      split at hw
      · exact ih [] (by simp) h2 w hw
      · rcases List.mem_cons.1 hw with rfl | hw
        · exact ⟨by assumption, hc⟩
        · exact ih [] (by simp) h2 w hw
    | false =>
      rw [if_neg (by rw [hb]; simp)] at hw
      refine ih (cur ++ [c]) (fun b hbm => ?_) h2 w hw
      rcases List.mem_append.1 hbm with hbm | hbm
      · exact hc b hbm
      · simp at hbm; subst hbm; exact ⟨h1, hb⟩
theorem fieldsL_first : ∀ (l cur : List UInt8), cur ≠ [] → ∃ w ws, fieldsL l cur = w :: ws ∧ w.headD 0 = cur.headD 0 := by
  intro l
  induction l with
  | nil => intro cur hc; exact ⟨cur, [], by simp [fieldsL, hc], rfl⟩
  | cons c l ih =>
    intro cur hc
    cases hb : isBlank c.toNat with
    | true => exact ⟨cur, fieldsL l [], by simp [fieldsL, hb, hc], rfl⟩
    | false =>
      obtain ⟨w, ws, h1, h2⟩ := ih (cur ++ [c]) (by simp)
      refine ⟨w, ws, by simp [fieldsL, hb, h1], ?_⟩
      rw [h2]
      cases cur with
      | nil => exact absurd rfl hc
      | cons a b => rfl
theorem bs_toList' (w : List UInt8) : (bs w).data.toList = w := bs_toList w

theorem line_wf (x : ByteArray) (hb : hasBad x = false) (hc : counts x = true) (n : Nat) : WfLn ⟨n, !isBlank (first x), wordsOf x⟩ := by
  rw [← bs_of x] at hb hc ⊢
  generalize x.data.toList = l at *
  have hg := (hasBad_iff l).1 hb
  have hw := words_eq l hg
  unfold counts at hc
  rw [hw] at hc ⊢
  simp only [Bool.and_eq_true, Bool.not_eq_true', decide_eq_true_eq] at hc
  refine ⟨?_, ?_, ?_⟩
  · intro e; simp only at e; rw [e] at hc; simp at hc
  · intro w hwm
    obtain ⟨v, hv, rfl⟩ := List.mem_map.1 hwm
    obtain ⟨h1, h2⟩ := fieldsL_wf l [] (by simp) hg v hv
    exact ⟨by rw [bs_toList]; exact h1, by rw [bs_toList]; exact h2⟩
  · intro hh w ws he
    cases l with
    | nil => simp [fieldsL] at he
    | cons c l =>
      have hf : first (bs (c :: l)) = c.toNat := by unfold first; rw [bs_toList]; rfl
      rw [hf] at hh hc
      have hbl : isBlank c.toNat = false := by simpa using hh
      obtain ⟨v, vs, h1, h2⟩ := fieldsL_first l [c] (by simp)
      have e : fieldsL (c :: l) [] = v :: vs := by rw [← h1]; simp [fieldsL, hbl]
      simp only at he
      rw [e] at he
      injection he with he _
      rw [← he]
      unfold first
      rw [bs_toList, h2]
      exact hc.2

theorem linesR_wf (n : Nat) : ∀ (t : ByteArray) (all : Nat) (out : List Ln), t.size ≤ n → (∀ l ∈ out, WfLn l) → ∀ l ∈ (linesR t all out).1, WfLn l := by
  induction n with
  | zero => intro t all out h ho; rw [linesR_end t all out (by omega)]; exact ho
  | succ n ih =>
    intro t all out h ho
    by_cases h0 : t.size = 0
    · rw [linesR_end t all out h0]; exact ho
    · have hr := restOf_size t h0
      rw [linesR_step t all out h0]
      split
      · simp
      · rename_i hb
        split
        · rename_i hc
          refine ih (restOf t) (all + 1) _ (by omega) (fun l hl => ?_)
          rcases List.mem_append.1 hl with hl | hl
          · exact ho l hl
          · simp at hl; rw [hl]; exact line_wf _ (by simpa using hb) hc _
        · exact ih (restOf t) (all + 1) out (by omega) ho
theorem linesOf_wf (t : ByteArray) : ∀ l ∈ (linesOf t).1, WfLn l := by
  unfold linesOf
  split
  · simp
  · exact linesR_wf _ t 0 [] (Nat.le_refl _) (by simp)

/-! ### How much the words hold -/
def wsum : List ByteArray → Nat
  | [] => 0
  | w :: ws => w.size + wsum ws
def lsum : List Ln → Nat
  | [] => 0
  | l :: ls => wsum l.words + lsum ls
theorem lsum_append (a b : List Ln) : lsum (a ++ b) = lsum a + lsum b := by
  induction a with
  | nil => simp [lsum]
  | cons x a ih => simp [lsum, ih]; omega
theorem fieldsL_sum : ∀ (l cur : List UInt8), wsum ((fieldsL l cur).map bs) ≤ cur.length + l.length := by
  intro l
  induction l with
  | nil => intro cur; unfold fieldsL; split <;> simp [wsum, bs_size]
  | cons c l ih =>
    intro cur
    have a := ih []
    have b := ih (cur ++ [c])
    simp only [List.length_append, List.length_cons, List.length_nil] at a b ⊢
    unfold fieldsL
    split
    · split
      · omega
      · simp only [List.map_cons, wsum, bs_size]; omega
    · omega
theorem words_sum (x : ByteArray) (hb : hasBad x = false) : wsum (wordsOf x) ≤ x.size := by
  rw [← bs_of x] at hb ⊢
  generalize x.data.toList = l at *
  rw [words_eq l ((hasBad_iff l).1 hb), bs_size]
  have := fieldsL_sum l []
  simpa using this
theorem cut_sum (l : List UInt8) : (Lib.cut l [10]).1.length + (Lib.cut l [10]).2.1.length ≤ l.length := by
  unfold Lib.cut
  split
  · simp; omega
  · simp
theorem line_rest_size (t : ByteArray) : (lineOf t).size + (restOf t).size ≤ t.size := by
  have := cut_sum t.data.toList
  rw [lineOf, restOf, size_mk, size_mk]
  rw [size_toList] at this
  exact this
theorem linesR_sum (n : Nat) : ∀ (t : ByteArray) (all : Nat) (out : List Ln), t.size ≤ n → lsum (linesR t all out).1 ≤ lsum out + t.size := by
  induction n with
  | zero => intro t all out h; rw [linesR_end t all out (by omega)]; simp
  | succ n ih =>
    intro t all out h
    by_cases h0 : t.size = 0
    · rw [linesR_end t all out h0]; simp
    · have hr := restOf_size t h0
      have hlr := line_rest_size t
      have hcr := noCR_size (lineOf t)
      rw [linesR_step t all out h0]
      split
      · simp [lsum]
      · rename_i hb
        have hws := words_sum _ (by simpa using hb : hasBad (noCR (lineOf t)) = false)
        split
        · have := ih (restOf t) (all + 1) (out ++ [⟨all + 1, !isBlank (first (noCR (lineOf t))), wordsOf (noCR (lineOf t))⟩]) (by omega)
          rw [lsum_append] at this
          simp only [lsum] at this
          omega
        · have := ih (restOf t) (all + 1) out (by omega)
          omega
theorem linesOf_sum (t : ByteArray) : lsum (linesOf t).1 ≤ t.size := by
  unfold linesOf
  split
  · simp [lsum]
  · have : lsum (linesF t.size t 0 []).1 ≤ lsum [] + t.size := linesR_sum _ t 0 [] (Nat.le_refl _)
    simpa [lsum] using this

/-! ### What is written -/
def IsGap (g : List UInt8) : Prop := g ≠ [] ∧ ∀ b ∈ g, isBlank b.toNat = true
def tailB : List UInt8 := [13, 10, 42, 32, 112, 97, 115, 115, 101, 100, 32, 111, 118, 101, 114, 10, 10]
def wordsText (g : List UInt8) (ws : List ByteArray) : List UInt8 := ws.flatMap fun w => w.data.toList ++ g
def lineText (g : List UInt8) (l : Ln) : List UInt8 := (if l.head then [] else g) ++ wordsText g l.words ++ tailB
def allText (g : List UInt8) (ls : List Ln) : List UInt8 := ls.flatMap (lineText g)

theorem blank_not_bad {r : Nat} (h : isBlank r = true) : isBad r = false := by simp [isBad, h]
theorem fieldsL_gap {g : List UInt8} (hg : ∀ b ∈ g, isBlank b.toNat = true) (r : List UInt8) : fieldsL (g ++ r) [] = fieldsL r [] := by
  induction g with
  | nil => rfl
  | cons b g ih =>
    have := hg b (by simp)
    show fieldsL (b :: (g ++ r)) [] = _
    rw [fieldsL, if_pos this, if_pos rfl, ih (fun x hx => hg x (by simp [hx]))]
theorem fieldsL_word {w : List UInt8} (hw : ∀ b ∈ w, isBlank b.toNat = false) : ∀ (cur r : List UInt8), fieldsL (w ++ r) cur = fieldsL r (cur ++ w) := by
  induction w with
  | nil => intro cur r; simp
  | cons b w ih =>
    intro cur r
    have := hw b (by simp)
    show fieldsL (b :: (w ++ r)) cur = _
    rw [fieldsL, if_neg (by rw [this]; simp), ih (fun x hx => hw x (by simp [hx]))]
    simp
theorem fieldsL_end {g : List UInt8} (hg : IsGap g) (r w : List UInt8) (hw : w ≠ []) : fieldsL (g ++ r) w = w :: fieldsL r [] := by
  obtain ⟨h1, h2⟩ := hg
  cases g with
  | nil => exact absurd rfl h1
  | cons b g =>
    have := h2 b (by simp)
    show fieldsL (b :: (g ++ r)) w = _
    rw [fieldsL, if_pos this, if_neg hw, fieldsL_gap (fun x hx => h2 x (by simp [hx]))]
theorem fieldsL_words {g : List UInt8} (hg : IsGap g) (ws : List ByteArray) (h : ∀ w ∈ ws, WfWord w) : (fieldsL (wordsText g ws) []).map bs = ws := by
  induction ws with
  | nil => rfl
  | cons w ws ih =>
    obtain ⟨h1, h2⟩ := h w (by simp)
    have e : wordsText g (w :: ws) = w.data.toList ++ (g ++ wordsText g ws) := by simp [wordsText]
    rw [e, fieldsL_word (fun b hb => (h2 b hb).2), List.nil_append, fieldsL_end hg _ _ h1, List.map_cons, bs_of, ih (fun x hx => h x (by simp [hx]))]
theorem good_words {g : List UInt8} (hg : IsGap g) (ws : List ByteArray) (h : ∀ w ∈ ws, WfWord w) : Good (wordsText g ws) := by
  intro b hb
  obtain ⟨w, hw, hb⟩ := List.mem_flatMap.1 hb
  rcases List.mem_append.1 hb with hb | hb
  · exact ((h w hw).2 b hb).1
  · exact blank_not_bad (hg.2 b hb)
theorem good_front {g : List UInt8} (hg : IsGap g) (l : Ln) (h : WfLn l) : Good ((if l.head then [] else g) ++ wordsText g l.words) := by
  intro b hb
  rcases List.mem_append.1 hb with hb | hb
  · split at hb
    · simp at hb
    · exact blank_not_bad (hg.2 b hb)
  · exact good_words hg _ h.2.1 b hb
theorem noCR_back (x : List UInt8) : noCR (bs (x ++ [13])) = bs x := by
  unfold noCR
  rw [bs_toList]
  have : Lib.trimSuffix (x ++ [13]) [13] = x := by
    unfold Lib.trimSuffix Lib.hasSuffix
    simp
  rw [this]; rfl
theorem no_nl {x : List UInt8} (h : Good x) : 10 ∉ x ++ [13] := by
  intro hm
  rcases List.mem_append.1 hm with hm | hm
  · exact absurd (h _ hm) (by decide)
  · simp at hm

theorem pass1 : hasBad (noCR (bs [42, 32, 112, 97, 115, 115, 101, 100, 32, 111, 118, 101, 114])) = false := by kernel_rfl
theorem pass2 : counts (noCR (bs [42, 32, 112, 97, 115, 115, 101, 100, 32, 111, 118, 101, 114])) = false := by kernel_rfl
theorem pass3 : hasBad (noCR (bs [])) = false := by kernel_rfl
theorem pass4 : counts (noCR (bs [])) = false := by kernel_rfl
theorem one_line {g : List UInt8} (hg : IsGap g) (l : Ln) (h : WfLn l) (rest : List UInt8) (all : Nat) (out : List Ln) :
    linesR (bs (lineText g l ++ rest)) all out = linesR (bs rest) (all + 3) (out ++ [⟨all + 1, l.head, l.words⟩]) := by
  have hgd := good_front hg l h
  have hws := fieldsL_words hg l.words h.2.1
  have hX : (fieldsL ((if l.head then [] else g) ++ wordsText g l.words) []).map bs = l.words := by
    split
    · exact hws
    · rw [fieldsL_gap hg.2]; exact hws
  have hfirst : first (bs ((if l.head then [] else g) ++ wordsText g l.words)) ≠ 42 ∧ (!isBlank (first (bs ((if l.head then [] else g) ++ wordsText g l.words)))) = l.head := by
    obtain ⟨h1, h2, h3⟩ := h
    cases hh : l.head with
    | true =>
      cases hw : l.words with
      | nil => exact absurd hw h1
      | cons w ws =>
        have h4 := h3 hh w ws hw
        obtain ⟨h5, h6⟩ := h2 w (by rw [hw]; simp)
        have e : first (bs ((if true = true then [] else g) ++ wordsText g (w :: ws))) = first w := by
          unfold first
          rw [bs_toList, if_pos rfl]
          cases hwl : w.data.toList with
          | nil => exact absurd hwl h5
          | cons a b => simp [wordsText, hwl]
        rw [e]
        refine ⟨h4, ?_⟩
        unfold first
        cases hwl : w.data.toList with
        | nil => exact absurd hwl h5
        | cons a b =>
          have := (h6 a (by rw [hwl]; simp)).2
          simp [this]
    | false =>
      obtain ⟨g1, g2⟩ := hg
      cases g with
      | nil => exact absurd rfl g1
      | cons a b =>
        have hb := g2 a (by simp)
        have e : first (bs ((if false = true then [] else a :: b) ++ wordsText (a :: b) l.words)) = a.toNat := by
          unfold first
          rw [bs_toList, if_neg (by simp)]; rfl
        rw [e, hb]
        refine ⟨?_, rfl⟩
        intro e42; rw [e42] at hb; simp [isBlank] at hb
  generalize hXd : (if l.head then [] else g) ++ wordsText g l.words = X at *
  have e1 : lineText g l ++ rest = (X ++ [13]) ++ 10 :: ([42, 32, 112, 97, 115, 115, 101, 100, 32, 111, 118, 101, 114] ++ 10 :: ([] ++ 10 :: rest)) := by
    unfold lineText tailB
    rw [hXd]
    simp
  have f1 := lineOf_front (X ++ [13]) ([42, 32, 112, 97, 115, 115, 101, 100, 32, 111, 118, 101, 114] ++ 10 :: ([] ++ 10 :: rest)) (no_nl hgd)
  have f2 := lineOf_front [42, 32, 112, 97, 115, 115, 101, 100, 32, 111, 118, 101, 114] ([] ++ 10 :: rest) (by decide)
  have f3 := lineOf_front [] rest (by simp)
  rw [e1, linesR_step _ all out (bs_ne (by simp)), f1.1, f1.2, noCR_back, if_neg (by rw [(hasBad_iff X).2 hgd]; simp)]
  have hwX : wordsOf (bs X) = l.words := by rw [words_eq X hgd, hX]
  have hcX : counts (bs X) = true := by
    unfold counts
    rw [hwX]
    simp only [Bool.and_eq_true, Bool.not_eq_true', decide_eq_true_eq]
    exact ⟨by cases hw : l.words with
      | nil => exact absurd hw h.1
      | cons _ _ => rfl, hfirst.1⟩
  rw [if_pos hcX, hwX, hfirst.2]
  rw [linesR_step _ (all + 1) _ (bs_ne (by simp)), f2.1, f2.2]
  rw [if_neg (by rw [pass1]; simp), if_neg (by rw [pass2]; simp)]
  rw [linesR_step _ (all + 1 + 1) _ (bs_ne (by simp)), f3.1, f3.2]
  rw [if_neg (by rw [pass3]; simp), if_neg (by rw [pass4]; simp)]

def renum (all : Nat) : List Ln → List Ln
  | [] => []
  | l :: ls => ⟨all + 1, l.head, l.words⟩ :: renum (all + 3) ls
theorem renum_length (ls : List Ln) : ∀ all, (renum all ls).length = ls.length := by
  induction ls with
  | nil => intro all; rfl
  | cons l ls ih => intro all; simp [renum, ih]
theorem renum_get (ls : List Ln) : ∀ (all i : Nat) (h : i < ls.length) (h' : i < (renum all ls).length), (renum all ls)[i].head = ls[i].head ∧ (renum all ls)[i].words = ls[i].words := by
  induction ls with
  | nil => intro all i h; simp at h
  | cons l ls ih =>
    intro all i h h'
    cases i with
    | zero => exact ⟨rfl, rfl⟩
    | succ i => exact ih (all + 3) i (by simpa using h) (by simpa [renum] using h')
theorem all_lines {g : List UInt8} (hg : IsGap g) : ∀ (ls : List Ln) (all : Nat) (out : List Ln), (∀ l ∈ ls, WfLn l) → linesR (bs (allText g ls)) all out = (out ++ renum all ls, 0, all + 3 * ls.length) := by
  intro ls
  induction ls with
  | nil => intro all out _; rw [show allText g [] = [] from rfl, linesR_end _ _ _ rfl]; simp [renum]
  | cons l ls ih =>
    intro all out h
    rw [show allText g (l :: ls) = lineText g l ++ allText g ls from rfl, one_line hg l (h l (by simp)), ih _ _ (fun x hx => h x (by simp [hx]))]
    simp [renum]; omega
theorem blanks_lines {g : List UInt8} (hg : IsGap g) (ls : List Ln) (h : ∀ l ∈ ls, WfLn l) : linesOf (bs (allText g ls)) = if 65536 < (allText g ls).length then ([], 1, 0) else (renum 0 ls, 0, 3 * ls.length) := by
  have e := all_lines hg ls 0 [] h
  unfold linesOf
  rw [bs_size]
  split
  · rfl
  · have e' : linesF (bs (allText g ls)).size (bs (allText g ls)) 0 [] = _ := e
    rw [bs_size] at e'
    rw [e']; simp
theorem wsum_count (ws : List ByteArray) (h : ∀ w ∈ ws, WfWord w) : ws.length ≤ wsum ws := by
  induction ws with
  | nil => simp [wsum]
  | cons w ws ih =>
    have := ih (fun x hx => h x (by simp [hx]))
    have hw := (h w (by simp)).1
    have : 0 < w.data.toList.length := List.length_pos_iff.2 hw
    rw [size_toList] at this
    simp only [wsum, List.length_cons]; omega
theorem wordsText_length (g : List UInt8) (hg : g.length ≤ 3) (ws : List ByteArray) : (wordsText g ws).length ≤ wsum ws + 3 * ws.length := by
  induction ws with
  | nil => simp [wordsText, wsum]
  | cons w ws ih =>
    have e : wordsText g (w :: ws) = (w.data.toList ++ g) ++ wordsText g ws := by simp [wordsText]
    rw [e, List.length_append, List.length_append, size_toList]
    simp only [wsum, List.length_cons]; omega
theorem lineText_length (g : List UInt8) (hg : g.length ≤ 3) (l : Ln) (h : WfLn l) : (lineText g l).length ≤ 24 * wsum l.words := by
  have h1 := wordsText_length g hg l.words
  have h2 := wsum_count l.words h.2.1
  have h3 : 0 < l.words.length := List.length_pos_iff.2 h.1
  unfold lineText tailB
  simp only [List.length_append, List.length_cons, List.length_nil]
  have : (if l.head = true then [] else g).length ≤ 3 := by
    split
    · simp
    · exact hg
  omega
theorem allText_length (g : List UInt8) (hg : g.length ≤ 3) (ls : List Ln) (h : ∀ l ∈ ls, WfLn l) : (allText g ls).length ≤ 24 * lsum ls := by
  induction ls with
  | nil => simp [allText, lsum]
  | cons l ls ih =>
    have := ih (fun x hx => h x (by simp [hx]))
    have := lineText_length g hg l (h l (by simp))
    rw [show allText g (l :: ls) = lineText g l ++ allText g ls from rfl, List.length_append]
    simp only [lsum]; omega
end Go.Proofs.Ytlkhiiadoggneaa
