/-
  FieldsBlanks: it answers true, whatever the text and the blank are.
-/
import Derived.Test.YtlkhiiadoggneaaB2
import Derived.Lib.AppendStr
import Derived.Deep.DeepCutAuto
namespace Go.Proofs.Ytlkhiiadoggneaa
open Go Go.RowKit Go.Lib Go.Proofs

theorem err_none (t : ByteArray) : (linesOf t).2.1 = 0 ∨ (linesOf t).1 = [] := by
  unfold linesOf
  split
  · exact .inr rfl
  · exact linesR_err _ t 0 [] (Nat.le_refl _)

def byteCells (l : List UInt8) : List Value := l.map fun b => Value.int .u8 b.toNat
theorem byteCells_app (a : List UInt8) (s : ByteArray) : byteCells a ++ strCells s = byteCells (a ++ s.data.toList) := by simp [byteCells, strCells]
theorem gap_at (k : Nat) (hk : k < 4) (h : k < [Value.string ⟨#[32]⟩, Value.string ⟨#[9]⟩, Value.string ⟨#[32, 32]⟩, Value.string ⟨#[32, 9, 32]⟩].length) :
    ∃ g, [Value.string ⟨#[32]⟩, Value.string ⟨#[9]⟩, Value.string ⟨#[32, 32]⟩, Value.string ⟨#[32, 9, 32]⟩][k] = Value.string (bs g) ∧ IsGap g ∧ g.length ≤ 3 := by
  match k, hk with
  | 0, _ => exact ⟨[32], rfl, ⟨by simp, by decide⟩, by decide⟩
  | 1, _ => exact ⟨[9], rfl, ⟨by simp, by decide⟩, by decide⟩
  | 2, _ => exact ⟨[32, 32], rfl, ⟨by simp, by decide⟩, by decide⟩
  | 3, _ => exact ⟨[32, 9, 32], rfl, ⟨by simp, by decide⟩, by decide⟩
theorem byte_info : (Try.prog.info? 5).map (fun i => (i.zero, i.size, i.bytes)) = some (some (.int .u8 0), 1, 1) := by kernel_rfl
theorem KeepT.cell {t : TypeId} {w w' : World} (h : KeepT t w w') {X : Nat} {cs : Array Value} {m : Nat × Nat} (hx : w.heap[X]? = some (.cells cs t m)) : w'.heap[X]? = some (.cells cs t m) := (h X cs m hx).trans hx
/-- What is written behind i words. -/
def joinTo (g : List UInt8) (ws : List ByteArray) : Nat → List UInt8
  | 0 => []
  | i + 1 => joinTo g ws i ++ (if 0 < i then g else []) ++ (ws.getD i ByteArray.empty).data.toList
theorem wordsText_app (g : List UInt8) (a b : List ByteArray) : wordsText g (a ++ b) = wordsText g a ++ wordsText g b := List.flatMap_append
theorem wordsText_one (g : List UInt8) (w : ByteArray) : wordsText g [w] = w.data.toList ++ g := by simp [wordsText]
theorem allText_app (g : List UInt8) (a b : List Ln) : allText g (a ++ b) = allText g a ++ allText g b := List.flatMap_append
theorem allText_one (g : List UInt8) (l : Ln) : allText g [l] = lineText g l := by simp [allText]
theorem joinTo_words (g : List UInt8) (ws : List ByteArray) : ∀ i, 0 < i → i ≤ ws.length → joinTo g ws i ++ g = wordsText g (ws.take i) := by
  intro i
  induction i with
  | zero => intro h; omega
  | succ i ih =>
    intro _ hi
    have e : ws.getD i ByteArray.empty = ws[i] := by rw [List.getD_eq_getElem?_getD, List.getElem?_eq_getElem (by omega)]; rfl
    rw [joinTo, e, List.take_succ_eq_append_getElem (by omega), wordsText_app, wordsText_one]
    by_cases h0 : 0 < i
    · rw [if_pos h0, ih h0 (by omega), List.append_assoc]
    · obtain rfl : i = 0 := by omega
      rw [if_neg h0]
      rfl
theorem joinTo_le (g : List UInt8) (ws : List ByteArray) (i : Nat) (hi : i ≤ ws.length) : (joinTo g ws i).length ≤ (wordsText g ws).length := by
  rcases Nat.eq_zero_or_pos i with rfl | h0
  · simp [joinTo]
  · have := joinTo_words g ws i h0 hi
    have h1 : (joinTo g ws i).length ≤ (wordsText g (ws.take i)).length := by rw [← this]; simp
    have h2 : wordsText g ws = wordsText g (ws.take i) ++ wordsText g (ws.drop i) := by
      rw [← wordsText_app, List.take_append_drop]
    rw [h2, List.length_append]; omega
theorem allText_take (g : List UInt8) (ls : List Ln) {j : Nat} (hj : j < ls.length) : allText g (ls.take (j + 1)) = allText g (ls.take j) ++ lineText g ls[j] := by
  rw [List.take_succ_eq_append_getElem hj, allText_app, allText_one]
theorem allText_take_le (g : List UInt8) (ls : List Ln) (j : Nat) : (allText g (ls.take j)).length ≤ (allText g ls).length := by
  have h2 : allText g ls = allText g (ls.take j) ++ allText g (ls.drop j) := by
    rw [← allText_app, List.take_append_drop]
  rw [h2, List.length_append]; omega

theorem lsum_count (ls : List Ln) (h : ∀ l ∈ ls, WfLn l) : ls.length ≤ lsum ls := by
  induction ls with
  | nil => simp [lsum]
  | cons l ls ih =>
    have := ih (fun x hx => h x (by simp [hx]))
    have h1 := wsum_count l.words (h l (by simp)).2.1
    have h2 : 0 < l.words.length := List.length_pos_iff.2 (h l (by simp)).1
    simp only [lsum, List.length_cons]; omega
def mixTo (k : Nat) (l r : List Ln) : List Ln := l.take k ++ r.drop k
theorem mixTo_length {k : Nat} {l r : List Ln} (h : r.length = l.length) (hk : k ≤ l.length) : (mixTo k l r).length = l.length := by simp [mixTo]; omega
theorem mixTo_get {k : Nat} {l r : List Ln} (h : r.length = l.length) (hk : k < l.length) (h' : k < (mixTo k l r).length) : (mixTo k l r)[k] = r[k]'(by omega) := by
  have hl : (l.take k).length = k := by simp; omega
  have e : (mixTo k l r)[k]? = some (r[k]'(by omega)) := by
    unfold mixTo
    rw [List.getElem?_append_right (by omega), hl, Nat.sub_self, List.drop_eq_getElem_cons (by omega)]; rfl
  rw [List.getElem?_eq_getElem h'] at e
  injection e
theorem mixTo_step {k : Nat} {l r : List Ln} (h : r.length = l.length) (hk : k < l.length) : (mixTo k l r).set k l[k] = mixTo (k + 1) l r := by
  have hl : (l.take k).length = k := by simp; omega
  unfold mixTo
  rw [List.set_append_right _ _ (by omega), hl, Nat.sub_self, List.drop_eq_getElem_cons (by omega)]
  show l.take k ++ (l[k] :: r.drop (k + 1)) = _
  rw [List.take_succ_eq_append_getElem hk, List.append_assoc]
  rfl
theorem own_text {w : World} {B : Nat} {b : Value} {X Y : List UInt8} {s : ByteArray} (h : w.ownsRow B 5 1 b (X.length + s.size) (byteCells X ++ strCells s)) (e : X ++ s.data.toList = Y) : w.ownsRow B 5 1 b Y.length (byteCells Y) := by
  rw [byteCells_app, e] at h
  rw [← e, List.length_append, size_toList, e]
  exact h
set_option maxHeartbeats 2000000 in
theorem blanks_any (a : ByteArray) (c : Int) (k : Nat) (m : Int) (w : World) (ha : a.size ≤ maxLen) (hm : w.cell? ⟨0, 0, none⟩ = some (.int .i64 m)) (hk : k < 4) (hck : bits .and .u8 c 3 = (k : Int)) :
    Calls Try.prog 3 #[.string a, .int .u8 c] w fun e w' => e = .returned (.bool true) ∧ Below w.heap.size w w' := by
  obtain ⟨l, e, n, h1⟩ : ∃ l e n, linesOf a = (l, e, n) := ⟨_, _, _, rfl⟩
  have j1 := fun w hm => lines_at h1 m w (by omega) hm
  have J1 := Lib.hid j1; clear j1
  have herr := err_none a
  rw [h1] at herr
  simp only at herr
  by_cases he : e = 0
  · subst he
    by_cases hlong : 6000 < a.size
    · unfold maxLen at *
      clear h1 herr
      go_enter Try.func3, Try.ntmps3
      go_wp2_with (go_at_call 5; refine (speaks_any m _ hm).mono ?_; rintro e w1 ⟨rfl, hb1⟩)
      have hm1 := Below.cell0 hm hb1
      refine (J1.out _ hm1).mono ?_; rintro e w2 ⟨A1, c1, rfl, l1, hb2⟩
      have hbb : Below w.heap.size w w2 := hb1.trans (hb2.mono hb1.size)
      clear l1 hb1 hb2 hm1
      go_wp2_with fail
      go_ret
      exact ⟨rfl, hbb⟩
    · unfold maxLen at *
      have hwf := linesOf_wf a
      have hsum := linesOf_sum a
      rw [h1] at hwf hsum
      simp only at hwf hsum
      clear h1 herr
      have HW : Hid (∀ l_1 ∈ l, WfLn l_1) := hwf
      clear hwf
      go_enter Try.func3, Try.ntmps3
      go_wp2_with (go_at_call 5; refine (speaks_any m _ hm).mono ?_; rintro e w1 ⟨rfl, hb1⟩)
      have hm1 := Below.cell0 hm hb1
      refine (J1.out _ hm1).mono ?_; rintro e w2 ⟨A1, c1, rfl, l1, hb2⟩
      have hm2 := Below.cell0 hm1 hb2
      have hbb : Below w.heap.size w w2 := hb1.trans (hb2.mono hb1.size)
      clear hb2
      go_wp2_with fail
      obtain ⟨g, hg9, hgap, hg3⟩ := gap_at k hk (by simpa using hk)
      rw [hg9]
      clear hg9
      have HG : Hid (IsGap g) := hgap
      clear hgap
      have hlen := allText_length g hg3 l HW.out
      have Hat := Lib.hid (fun i (hi : i < l.length) => l1.at_ hi)
      have hown0 : ((w2.alloc (Obj.cells #[Value.string ⟨#[32]⟩, Value.string ⟨#[9]⟩, Value.string ⟨#[32, 32]⟩, Value.string ⟨#[32, 9, 32]⟩] 27)).alloc (Obj.cells #[] 5)).ownsRow w2.heap.size 5 1 (.slice (some ⟨w2.heap.size + 1, 0, none⟩) 0 0) 0 [] := by
        have := World.ownsRow_made (base := w2.heap.size) (e := 5) (size := 1) (w2.alloc (Obj.cells #[Value.string ⟨#[32]⟩, Value.string ⟨#[9]⟩, Value.string ⟨#[32, 32]⟩, Value.string ⟨#[32, 9, 32]⟩] 27)) #[] 0 (by simp) (by decide) rfl
        simpa using this
      have hb0 : Below w2.heap.size w2 ((w2.alloc (Obj.cells #[Value.string ⟨#[32]⟩, Value.string ⟨#[9]⟩, Value.string ⟨#[32, 32]⟩, Value.string ⟨#[32, 9, 32]⟩] 27)).alloc (Obj.cells #[] 5)) :=
        ((Below.refl _ _).alloc (Nat.le_refl _) _).alloc (by simp) _
      obtain ⟨ib, hib, hzb0, hzb1, hzb2⟩ := info_parts byte_info
      go_loopw [10, 44] (fun b i wr => ∃ j : Nat, i = .int .i64 j ∧ j ≤ l.length ∧ wr.ownsRow w2.heap.size 5 1 b (allText g (l.take j)).length (byteCells (allText g (l.take j))) ∧ Below w2.heap.size w2 wr) (fun _ i _ => l.length - (intOf i).toNat)
      case atStart => exact ⟨0, rfl, by omega, hown0, hb0⟩
      case round =>
        obtain ⟨wo, rfl⟩ : ∃ wo : World, wo = wr := ⟨_, rfl⟩
        obtain ⟨j, rfl, hj, hown, hbw⟩ := hrel
        by_cases hjl : j < l.length
        · obtain ⟨gl, cl, Aw, hv, _, hcl1, hcl2, x1, x2, x3, x4, x5⟩ := Hat.out j hjl
          injection hv with hv _ hcc
          subst hv; subst hcc
          have y1 := (hbw.cell (p := ⟨gl, j * 3, none⟩) (cell_lt x1)).trans x1
          have y2 := (hbw.cell (p := ⟨gl, j * 3 + 1, none⟩) (cell_lt x2)).trans x2
          have y3 := (hbw.cell (p := ⟨gl, j * 3 + 2, none⟩) (cell_lt x3)).trans x3
          clear x1 x2 x3 hown0 hb0
          unfold maxLen at x5 hcl2
          go_upto_if 50 with (fail)
          have hw0 : WfLn l[j] := HW.out _ (List.getElem_mem hjl)
          have hlt := lineText_length g hg3 l[j] hw0
          have HWj := Lib.hid hw0
          clear hw0
          have hT := allText_take g l hjl
          have hTle := allText_take_le g l (j + 1)
          rw [hT, List.length_append] at hTle
          have hTl := Lib.hid hT
          clear hT
          have hlsum : (lineText g l[j]).length = (if l[j].head then [] else g).length + (wordsText g l[j].words).length + 17 := by unfold lineText; simp [tailB]; omega
          have hHS := Lib.hid hlsum
          clear hlsum
          go_cut [10] (fun b1 wx => wx.ownsRow w2.heap.size 5 1 b1 (allText g (l.take j) ++ (if l[j].head then [] else g)).length (byteCells (allText g (l.take j) ++ (if l[j].head then [] else g))) ∧ Below w2.heap.size w2 wx ∧
            wx.heap[wo.heap.size]? = some (.cells #[.int .i64 l[j].no, .bool l[j].head, .slice (some ⟨Aw, 0, none⟩) l[j].words.length l[j].words.length] 31 (0, 0)))
          case first =>
            have hbl := hbw.size
            have hnew : ∀ o, (wo.alloc o).heap[wo.heap.size]? = some o := heap_alloc_new wo
            have hg4 : (bs g).size = g.length := bs_size g
            cases hh : l[j].head with
            | true =>
              go_wp2_with fail
              go_meet
              rw [hh, if_pos rfl, List.append_nil]
              exact ⟨hown.alloc _, hbw.alloc hbl _, heap_alloc_new _ _⟩
            | false =>
              go_wp2_with (at_builtin; refine wpList_append_own_string _ rfl (.tmp 51) (.tmp 52) 28 9 rfl w2.heap.size 5 ib Try.underlying28 Try.underlying9 hib hzb0 hzb1 hzb2 _ _ _ rfl (hown.alloc _) _ rfl (by unfold maxLen; omega) (by omega) (by simp; omega) ?_; intro b1 w5 hown5 hg5 _)
              go_meet
              rw [hh, if_neg (by simp)]
              refine ⟨?_, (hbw.alloc hbl _).grown hg5 (by simp; omega) (own_ge hown), ?_⟩
              · rw [byteCells_app, bs_toList] at hown5
                rw [List.length_append]
                rw [hg4] at hown5
                exact hown5
              · have := (own_keepT_of (hown.alloc _) hg5 (by decide : 5 ≠ 31)).cell (hnew _)
                exact this
          case rest =>
            rename_i wc
            obtain ⟨hownF, hbF, hXF⟩ := hcut
            clear hown hbw y1 y2 y3
            have z1 : wc.cell? ⟨wo.heap.size, 2, none⟩ = some (.slice (some ⟨Aw, 0, none⟩) l[j].words.length l[j].words.length) := by
              rw [cell_of_row wc _ _ _ _ _ hXF]; rfl
            clear hXF
            have hF : (allText g (l.take j) ++ (if l[j].head then [] else g)).length + (wordsText g l[j].words).length + 17 ≤ 24 * lsum l := by
              have := hHS.out
              rw [List.length_append]; omega
            obtain ⟨T', hT'⟩ : ∃ T', T' = allText g (l.take j) ++ (if l[j].head then [] else g) := ⟨_, rfl⟩
            rw [← hT'] at hF hownF
            have hHT := Lib.hid hT'
            clear hT'
            have hwpos : 0 < l[j].words.length := List.length_pos_iff.2 HWj.out.1
            go_wp2_with fail
            clear z1
            go_loopw [10, 57] (fun b i wr => ∃ q : Nat, i = .int .i64 q ∧ q ≤ l[j].words.length ∧ wr.ownsRow w2.heap.size 5 1 b (T' ++ joinTo g l[j].words q).length (byteCells (T' ++ joinTo g l[j].words q)) ∧ Below w2.heap.size w2 wr) (fun _ i _ => l[j].words.length - (intOf i).toNat)
            case atStart => exact ⟨0, rfl, by omega, by simpa [joinTo] using hownF, hbF⟩
            case round =>
              obtain ⟨q, rfl, hq, hownI, hbI⟩ := hrel
              by_cases hql : q < l[j].words.length
              · have x4q := x4 q hql
                have xq := (hbI.cell (p := ⟨Aw, q, none⟩) (cell_lt x4q)).trans x4q
                obtain ⟨s, hs⟩ : ∃ s, s = l[j].words.getD q ByteArray.empty := ⟨_, rfl⟩
                rw [← hs] at xq
                have hjs : joinTo g l[j].words (q + 1) = joinTo g l[j].words q ++ (if 0 < q then g else []) ++ s.data.toList := by rw [joinTo, hs]
                have hjl2 := joinTo_le g l[j].words (q + 1) (by omega)
                have hjl3 : (joinTo g l[j].words (q + 1)).length = (joinTo g l[j].words q).length + (if 0 < q then g else []).length + s.size := by rw [hjs, List.length_append, List.length_append, size_toList]
                have hHjs := Lib.hid hjs
                have hHj3 := Lib.hid hjl3
                clear hjs hjl3 x4q x4 hs
                have hlenT : (T' ++ joinTo g l[j].words q).length = T'.length + (joinTo g l[j].words q).length := List.length_append
                have hHlT := Lib.hid hlenT
                clear hlenT
                have hbI2 := hbI.size
                have hg4 := Lib.hid (bs_size g)
                by_cases h0 : 0 < q
                · have hsz : (T' ++ joinTo g l[j].words q).length + g.length + s.size ≤ 144000 + 17 := by
                    have a1 := hHj3.out
                    have a2 := hHlT.out
                    rw [if_pos h0] at a1
                    omega
                  have hgs : (bs g).size = g.length := bs_size g
                  have hgs' : (bs g).size ≤ 3 := by omega
                  have hsz1 : (T' ++ joinTo g l[j].words q).length + (bs g).size ≤ 144017 := by omega
                  have hsz2 : (T' ++ joinTo g l[j].words q ++ g).length + s.size ≤ 144017 := by rw [List.length_append]; omega
                  clear hgs
                  go_upto_if 63 with (fail)
                  go_wp2_with (first
                    | (at_builtin; refine wpList_append_own_string _ rfl (.tmp 64) (.tmp 65) 28 9 rfl w2.heap.size 5 ib Try.underlying28 Try.underlying9 hib hzb0 hzb1 hzb2 _ _ _ rfl hownI _ rfl (by unfold maxLen; omega) (by omega) (by omega) ?_; intro b0 w4 hown4 hg4' _; have hown4' := own_text hown4 (Y := T' ++ joinTo g l[j].words q ++ g) (by rw [bs_toList]); have hbw4 := hg4'.size)
                    | (at_builtin; refine wpList_append_own_string _ rfl (.tmp 67) (.tmp 68) 28 9 rfl w2.heap.size 5 ib Try.underlying28 Try.underlying9 hib hzb0 hzb1 hzb2 _ _ _ rfl hown4' _ rfl (by unfold maxLen; omega) (by omega) (by omega) ?_; intro b1 w5 hown5 hg5 _))
                  go_roundw
                  case rel =>
                    refine ⟨q + 1, by go_num, by omega, own_text hown5 ?_, (hbI.grown hg4' (by omega) (own_ge hownI)).grown hg5 (by omega) (own_ge hown4')⟩
                    rw [hHjs.out, if_pos h0]; simp
                  case measure => simp [intOf]; omega
                · obtain rfl : q = 0 := by omega
                  have hsz : (T' ++ joinTo g l[j].words 0).length + s.size ≤ 144000 + 17 := by
                    have a1 := hHj3.out
                    have a2 := hHlT.out
                    simp only [Nat.lt_irrefl, if_false, List.length_nil] at a1
                    omega
                  go_wp2_with (at_builtin; refine wpList_append_own_string _ rfl (.tmp 67) (.tmp 68) 28 9 rfl w2.heap.size 5 ib Try.underlying28 Try.underlying9 hib hzb0 hzb1 hzb2 _ _ _ rfl hownI _ rfl (by unfold maxLen; omega) (by omega) (by omega) ?_; intro b1 w5 hown5 hg5 _)
                  go_roundw
                  case rel =>
                    refine ⟨1, by go_num, by omega, own_text hown5 ?_, hbI.grown hg5 (by omega) (own_ge hownI)⟩
                    rw [hHjs.out]; simp
                  case measure => simp [intOf]; omega
              · obtain rfl : q = l[j].words.length := by omega
                have hJ := joinTo_words g l[j].words l[j].words.length hwpos (Nat.le_refl _)
                rw [List.take_length] at hJ
                have hgs : (bs g).size = g.length := bs_size g
                have hlenT : (T' ++ joinTo g l[j].words l[j].words.length).length + g.length = T'.length + (wordsText g l[j].words).length := by rw [← hJ]; simp; omega
                have hsz1 : (T' ++ joinTo g l[j].words l[j].words.length).length + (bs g).size ≤ 144017 := by omega
                have hsz2 : (T' ++ joinTo g l[j].words l[j].words.length ++ g).length + (bs tailB).size ≤ 144100 := by rw [List.length_append, bs_size]; simp only [tailB, List.length_cons, List.length_nil]; omega
                have hHJ := Lib.hid hJ
                have hbI2 := hbI.size
                clear hgs hlenT hJ x4
                have htb : Hid (bs tailB = ⟨#[13, 10, 42, 32, 112, 97, 115, 115, 101, 100, 32, 111, 118, 101, 114, 10, 10]⟩) := by show bs tailB = _; rfl
                go_wp2_with (first
                    | (at_builtin; refine wpList_append_own_string _ rfl (.tmp 71) (.tmp 72) 28 9 rfl w2.heap.size 5 ib Try.underlying28 Try.underlying9 hib hzb0 hzb1 hzb2 _ _ _ rfl hownI _ rfl (by unfold maxLen; omega) (by omega) (by omega) ?_; intro b0 w4 hown4 hg4' _; have hown4' := own_text hown4 (Y := T' ++ joinTo g l[j].words l[j].words.length ++ g) (by rw [bs_toList]); have hbw4 := hg4'.size)
                    | (at_builtin; refine wpList_append_own_string _ rfl (.tmp 74) (.const _) 28 9 rfl w2.heap.size 5 ib Try.underlying28 Try.underlying9 hib hzb0 hzb1 hzb2 _ _ _ rfl hown4' (bs tailB) rfl (by unfold maxLen; omega) (by omega) (by omega) ?_; intro b1 w5 hown5 hg5 _))
                go_roundw
                case rel =>
                  refine ⟨j + 1, by go_num, by omega, own_text hown5 ?_, (hbI.grown hg4' (by omega) (own_ge hownI)).grown hg5 (by omega) (own_ge hown4')⟩
                  rw [bs_toList, hTl.out, hHT.out]
                  rw [hHT.out] at *
                  unfold lineText
                  rw [← hHJ.out]; simp
                case measure => simp [intOf]; omega
        · obtain rfl : j = l.length := by omega
          rw [List.take_length] at hown
          have hcv : (convert 28 9 u10).run Try.prog wo = .ok (.string (bs (allText g l))) wo := by
            rcases hown.2 with ⟨hv, h0⟩ | ⟨gB, cap, cur, hv, _⟩
            · rw [hv, List.eq_nil_of_length_eq_zero h0]
              exact run_convert_bytes_nil _ _ 5 Try.underlying28 Try.underlying5 0 0 _ Try.underlying9
            · rw [hv] at hown ⊢
              refine run_convert_bytes_back wo _ _ 5 ⟨gB, 0, none⟩ cap (allText g l) Try.underlying28 Try.underlying5 Try.underlying9 (fun i hi => ?_)
              refine cells_at hown i _ ?_
              unfold byteCells
              rw [List.getElem?_map, List.getElem?_eq_getElem hi]; rfl
          have hmo := Below.cell0 hm2 hbw
          have hbl := blanks_lines HG.out l HW.out
          have hbz := hbw.size
          have hbo : Below w.heap.size w wo := hbb.trans (hbw.mono hbb.size)
          have hTs : (bs (allText g l)).size ≤ 144000 := by rw [bs_size]; omega
          by_cases hbig : 65536 < (bs (allText g l)).size
          · rw [if_pos (by rw [← bs_size]; exact hbig)] at hbl
            have hF := fun hm => lines_at hbl m wo (by unfold maxLen; omega) hm
            have HF := Lib.hid (hF hmo)
            clear hF hbl hmo hown Hat
            go_wp2_with fail
            refine HF.out.mono ?_; rintro e w6 ⟨A6, c6, rfl, l6, hb6⟩
            have hbf : Below w.heap.size w w6 := hbo.trans (hb6.mono hbo.size)
            clear l6 hb6
            go_wp2_with fail
            go_ret
            exact ⟨rfl, hbf⟩
          · rw [if_neg (by rw [← bs_size]; exact hbig)] at hbl
            have hF := fun hm => lines_at hbl m wo (by unfold maxLen; omega) hm
            have HF := Lib.hid (hF hmo)
            have hrl := renum_length l 0
            have hcnt : l.length ≤ 6000 := by have := lsum_count l HW.out; omega
            have hrl1 : ((renum 0 l).length : Int) = (l.length : Int) := by omega
            have Hrl := Lib.hid hrl
            clear hF hbl hmo hown hrl
            go_wp2_with fail
            refine HF.out.mono ?_; rintro e w6 ⟨A6, c6, rfl, l6, hb6⟩
            rw [Hrl.out] at l6 ⊢
            clear hrl1
            have hbl6 : Below w2.heap.size w2 w6 := hbw.trans (hb6.mono hbz)
            clear hb6 hbw
            go_wp2_with fail
            go_loopw [112] (fun i wr => ∃ k : Nat, i = .int .i64 k ∧ k ≤ l.length ∧ Lns wr wo.heap.size (.slice A6 l.length c6) (mixTo k l (renum 0 l)) ∧ Below w2.heap.size w2 wr) (fun i _ => l.length - (intOf i).toNat)
            case atStart => exact ⟨0, rfl, by omega, l6, hbl6⟩
            case round =>
              obtain ⟨k, rfl, hk, k6, hbw⟩ := hrel
              by_cases hkl : k < l.length
              · have hml := mixTo_length Hrl.out hk
                obtain ⟨g6, rfl, hg1, hg2, hg3, hcell, hfr⟩ := k6.spot hml.symm (i := k) (by rw [hml]; exact hkl)
                obtain ⟨gl, rfl, hl1, hl2, hl3, hcl, _⟩ := l1.spot rfl (i := k) hkl
                have hcl' := (hbw.cell (p := ⟨gl, k * 3, none⟩) hl2).trans hcl
                have hcap : c6 ≤ 9223372036854775807 := by
                  obtain ⟨_, u1, _⟩ := k6
                  obtain ⟨_, _, hv, _, _, hm, _⟩ := own_cells u1 (by rw [hml]; omega)
                  injection hv with _ _ hv
                  unfold maxLen at hm
                  omega
                have hcap1 : c1 ≤ 9223372036854775807 := by
                  obtain ⟨_, u1, _⟩ := l1
                  obtain ⟨_, _, hv, _, _, hm, _⟩ := own_cells u1 (by omega)
                  injection hv with _ _ hv
                  unfold maxLen at hm
                  omega
                have hset := k6.set_ hml.symm (i := k) (by rw [hml]; exact hkl) l[k].no
                have e : (mixTo k l (renum 0 l)).set k ⟨l[k].no, (mixTo k l (renum 0 l))[k].head, (mixTo k l (renum 0 l))[k].words⟩ = mixTo (k + 1) l (renum 0 l) := by
                  rw [mixTo_get Hrl.out hkl]
                  obtain ⟨a1, a2⟩ := renum_get l 0 k hkl (by rw [Hrl.out]; exact hkl)
                  rw [a1, a2]
                  exact mixTo_step Hrl.out hkl
                rw [e] at hset
                have hbw' := hbw.setCell (p := ⟨g6, k * 3, none⟩) (Nat.le_trans hbz hg1) (.int .i64 (l[k].no : Nat))
                have HH := Lib.hid (And.intro hset hbw')
                have hcell2 : ∃ u : Int, wr.cell? ⟨g6, k * 3, none⟩ = some (.int .i64 u) := ⟨_, hcell⟩
                clear hcell
                obtain ⟨u6, hc6⟩ := hcell2
                clear hset hbw' e k6 hbw l1 l6 hcl hml
                go_wp2_with fail
                go_roundw
                case rel => exact ⟨k + 1, by go_num, by omega, HH.out⟩
                case measure => simp [intOf]; omega
              · obtain rfl : k = l.length := by omega
                have hmix : mixTo l.length l (renum 0 l) = l := by
                  unfold mixTo
                  rw [List.take_length, List.drop_eq_nil_of_le (by rw [Hrl.out]; exact Nat.le_refl _), List.append_nil]
                rw [hmix] at k6
                have hs := same_any _ _ _ _ l wr k6 (l1.keep (KeepT.below hbw) (KeepT.below hbw))
                have HS := Lib.hid hs
                have hbf : Below w.heap.size w wr := hbb.trans (hbw.mono hbb.size)
                clear hs k6 l1 l6 hmix
                go_wp2_with (go_at_call 7; refine HS.out.mono ?_; rintro e w' ⟨rfl, q1, rfl⟩)
                go_ret
                exact ⟨rfl, below_drewN' hbf _⟩
  · have hl : l = [] := by rcases herr with h | h; exact absurd h he; exact h
    subst hl
    have he' : ((e : Int) != 0) = true := by simp; omega
    unfold maxLen at *
    clear h1 herr he
    go_enter Try.func3, Try.ntmps3
    go_wp2_with (go_at_call 5; refine (speaks_any m _ hm).mono ?_; rintro e w1 ⟨rfl, hb1⟩)
    have hm1 := Below.cell0 hm hb1
    refine (J1.out _ hm1).mono ?_; rintro e w2 ⟨A1, c1, rfl, l1, hb2⟩
    have hbb : Below w.heap.size w w2 := hb1.trans (hb2.mono hb1.size)
    clear l1 hb1 hb2 hm1
    go_wp2_with fail
    go_ret
    exact ⟨rfl, hbb⟩
end Go.Proofs.Ytlkhiiadoggneaa
