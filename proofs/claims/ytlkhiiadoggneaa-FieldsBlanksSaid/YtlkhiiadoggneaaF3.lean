/-
  fields.Lines: it answers what the plain function 'linesOf' says.
-/
import Derived.Test.YtlkhiiadoggneaaF2
import Derived.Outline
import Derived.WalkSpells
import Derived.Deep.DeepMust
namespace Go.Proofs.Ytlkhiiadoggneaa
open Go Go.RowKit Go.Lib Go.Proofs

theorem cut_any (s : ByteArray) (m : Int) (w : World) (hs : s.size < 4294967281) (hm : w.cell? ⟨0, 0, none⟩ = some (.int .i64 m)) :
    Calls Try.prog 8 #[.string s, .string ⟨#[10]⟩] w fun e w' => e = .returned (.tuple #[.string (lineOf s), .string (restOf s), .bool (cutHit s)]) ∧ ∃ n, w' = w.drewN n :=
  Try.strings_Cut s ⟨#[10]⟩ m w hs hm
theorem suffix_any (s : ByteArray) (w : World) (hs : s.size ≤ 9223372036854775807) :
    Calls Try.prog 9 #[.string s, .string ⟨#[13]⟩] w fun e w' => e = .returned (.string (noCR s)) ∧ w' = w :=
  Try.strings_TrimSuffix s ⟨#[13]⟩ w hs
theorem contains_any (s : ByteArray) (w : World) :
    Calls Try.prog 10 #[.string s, .func (.func 11) #[] #[]] w fun e w' => e = .returned (.bool (hasBad s)) ∧ Below w.heap.size w w' :=
  Try.strings_ContainsFunc _ #[] bad_enters isBad s w (bad_pred w)
theorem blank_byte (b : UInt8) (w : World) :
    Calls Try.prog 13 #[.int .i32 (wrap32 (b.toNat : Int))] w fun e w' => e = .returned (.bool (isBlank b.toNat)) ∧ w = w' := by
  rw [wrap32_byte]; exact (blank_any _ _).mono fun _ _ ⟨he, hw⟩ => ⟨he, hw.symm⟩
theorem line_info : (Try.prog.info? 31).map (fun i => (i.zero, i.size, i.bytes)) = some (some (.agg #[.int .i64 0, .bool false, .slice none 0 0]), 3, 40) := by kernel_rfl
theorem fields_any (s : ByteArray) (w : World) (hs : s.size ≤ 4294967296) :
    Calls Try.prog 12 #[.string s, .func (.func 13) #[] #[]] w fun e w' => ∃ A, e = .returned (.slice (some ⟨A, 0, none⟩) (wordsOf s).length (wordsOf s).length) ∧ w.heap.size ≤ A ∧
      w'.ownsRow w.heap.size 9 1 (.slice (some ⟨A, 0, none⟩) (wordsOf s).length (wordsOf s).length) (wordsOf s).length ((wordsOf s).map Value.string) ∧ Below w.heap.size w w' :=
  Try.strings_FieldsFunc _ #[] blank_enters isBlank s w hs (blank_pred w)

def strLen : Value → Nat | .string s => s.size | _ => 0

theorem linesF_fuel : ∀ (f g : Nat) (r : ByteArray) (all : Nat) (out : List Ln), r.size ≤ f → r.size ≤ g → linesF f r all out = linesF g r all out := by
  intro f
  induction f with
  | zero =>
    intro g r all out hf _
    have h0 : r.size = 0 := by omega
    cases g with
    | zero => rfl
    | succ g => rw [linesF, linesF, if_pos h0]
  | succ f ih =>
    intro g r all out hf hg
    by_cases h0 : r.size = 0
    · cases g with
      | zero => rw [linesF, linesF, if_pos h0]
      | succ g => rw [linesF, linesF, if_pos h0, if_pos h0]
    · cases g with
      | zero => omega
      | succ g =>
        have := restOf_size r h0
        rw [linesF, linesF, if_neg h0, if_neg h0]
        rw [ih g (restOf r) (all + 1) _ (by omega) (by omega), ih g (restOf r) (all + 1) out (by omega) (by omega)]
def linesR (r : ByteArray) (all : Nat) (out : List Ln) : List Ln × Nat × Nat := linesF r.size r all out
theorem linesR_end (r : ByteArray) (all : Nat) (out : List Ln) (h : r.size = 0) : linesR r all out = (out, 0, all) := by
  rw [linesR, h]; rfl
theorem linesR_step (r : ByteArray) (all : Nat) (out : List Ln) (h : r.size ≠ 0) : linesR r all out =
    if hasBad (noCR (lineOf r)) then ([], 80, all + 1)
    else if counts (noCR (lineOf r)) then linesR (restOf r) (all + 1) (out ++ [⟨all + 1, !isBlank (first (noCR (lineOf r))), wordsOf (noCR (lineOf r))⟩])
    else linesR (restOf r) (all + 1) out := by
  have hr := restOf_size r h
  obtain ⟨k, hk⟩ : ∃ k, r.size = k + 1 := ⟨r.size - 1, by omega⟩
  rw [linesR, hk, linesF, if_neg h]
  rw [linesF_fuel k (restOf r).size (restOf r) _ _ (by omega) (Nat.le_refl _), linesF_fuel k (restOf r).size (restOf r) _ _ (by omega) (Nat.le_refl _)]
  rfl

def LinesPost (t : ByteArray) (w : World) (e : Ending) (w' : World) : Prop :=
  ∃ v, e = .returned (.tuple #[v, .int .i64 (linesOf t).2.1, .int .i64 (linesOf t).2.2]) ∧ Lns w' w.heap.size v (linesOf t).1 ∧ Below w.heap.size w w'
theorem LinesPost.of {t : ByteArray} {w w' : World} {v : Value} {ls : List Ln} {k n : Nat} (h : linesOf t = (ls, k, n)) (hl : Lns w' w.heap.size v ls) (hb : Below w.heap.size w w') {i j : Int} (hi : i = k) (hj : j = n) :
    LinesPost t w (.returned (.tuple #[v, .int .i64 i, .int .i64 j])) w' :=
  ⟨v, by rw [h, hi, hj], by rw [h]; exact hl, hb⟩

set_option maxHeartbeats 400000 in
theorem lines_any (t : ByteArray) (m : Int) (w : World) (ht : t.size ≤ maxLen) (hm : w.cell? ⟨0, 0, none⟩ = some (.int .i64 m)) :
    Calls Try.prog 6 #[.string t] w (LinesPost t w) := by
  unfold maxLen at ht
  by_cases hlong : 65536 < t.size
  · have e1 : linesOf t = ([], 1, 0) := by rw [linesOf, if_pos hlong]
    have e1 := Lib.hid e1
    go_enter Try.func6, Try.ntmps6
    go_wp2
    go_ret3
    exact .of e1.out (Lns.nil _ _) (Below.refl _ _) rfl rfl
  · have e1 : Hid (linesOf t = linesR t 0 []) := by
      show linesOf t = _
      rw [linesOf, if_neg hlong]; rfl
    have hB : 0 < w.heap.size := cell_lt hm
    obtain ⟨i0, hi0, hz0, hz1, hz2⟩ := info_parts line_info
    go_enter Try.func6, Try.ntmps6
    go_wp2
    go_loopw [2, 4, 5] (fun o a r wr => ∃ (out : List Ln) (all : Nat) (rest : ByteArray), a = .int .i64 all ∧ r = .string rest ∧ Lns wr w.heap.size o out ∧ Below w.heap.size w wr ∧ all + rest.size ≤ t.size ∧ out.length ≤ all ∧ Hid (linesR t 0 [] = linesR rest all out)) (fun _ _ r _ => strLen r)
    case atStart => exact ⟨[], 0, t, rfl, rfl, Lns.nil _ _, Below.refl _ _, by omega, by simp, rfl⟩
    case round =>
      obtain ⟨out, all, rest, rfl, rfl, hl, hb, hsz, hlen, hgo⟩ := hrel
      have hsm := hb.size
      have hm' : wr.cell? ⟨0, 0, none⟩ = some (.int .i64 m) := (hb.cell (p := ⟨0, 0, none⟩) hB).trans hm
      have hs : rest.size < 4294967281 := by omega
      have hs2 : (noCR (lineOf rest)).size ≤ 65536 := by have := lineOf_size rest; have := noCR_size (lineOf rest); omega
      have hs3 : (lineOf rest).size ≤ 65536 := by have := lineOf_size rest; omega
      by_cases h0 : rest.size = 0
      · have h0' : rest.toList.isEmpty = true := isEmpty_true h0
        have hfin : Hid (linesOf t = (out, 0, all)) := by
          show linesOf t = _
          rw [e1.out, hgo.out, linesR_end _ _ _ h0]
        clear hgo e1 h0
        go_wp2
        go_ret3
        exact .of hfin.out hl hb rfl rfl
      · have h0' : rest.toList.isEmpty = false := isEmpty_false h0
        have hst := Lib.hid (linesR_step rest all out h0)
        clear h0
        by_cases hbad : hasBad (noCR (lineOf rest)) = true
        · have hfin : Hid (linesOf t = ([], 80, all + 1)) := by
            show linesOf t = _
            rw [e1.out, hgo.out, hst.out, if_pos hbad]
          clear hgo e1 hst
          go_wp2_with (first
            | (go_at_call 8; refine (cut_any rest m _ hs hm').mono ?_; rintro e w' ⟨rfl, q, rfl⟩)
            | (go_at_call 9; refine (suffix_any _ _ (by omega)).mono ?_; rintro e w' ⟨rfl, rfl⟩)
            | (go_at_call 10; refine (contains_any _ _).mono ?_; rintro e w' ⟨rfl, hb1⟩))
          go_ret3
          exact .of hfin.out (Lns.nil _ _) ((below_drewN' hb q).trans (hb1.mono hb.size)) rfl (by omega)
        · have hbad' : hasBad (noCR (lineOf rest)) = false := by simpa using hbad
          clear hbad
          have hrs := restOf_size rest (by intro e; exact absurd (isEmpty_true e) (by rw [h0']; simp))
          by_cases hw : wordsOf (noCR (lineOf rest)) = []
          · have hw0 : (wordsOf (noCR (lineOf rest))).length = 0 := by rw [hw]; rfl
            have hfin : Hid (linesR t 0 [] = linesR (restOf rest) (all + 1) out) := by
              show linesR t 0 [] = _
              rw [hgo.out, hst.out, if_neg (by rw [hbad']; simp), if_neg (by simp [counts, hw])]
            clear hgo hst hw
            go_wp2_with (first
              | (go_at_call 8; refine (cut_any rest m _ hs hm').mono ?_; rintro e w' ⟨rfl, q, rfl⟩)
              | (go_at_call 9; refine (suffix_any _ _ (by omega)).mono ?_; rintro e w' ⟨rfl, rfl⟩)
              | (go_at_call 10; refine (contains_any _ _).mono ?_; rintro e w' ⟨rfl, hb1⟩)
              | (go_at_call 12; refine (fields_any _ _ (by omega)).mono ?_; rintro e w' ⟨A, rfl, hA, how, hb2⟩))
            go_roundw
            case rel => exact ⟨out, all + 1, restOf rest, by go_num, rfl, hl.keep (((KeepT.drewN wr q).trans (KeepT.below hb1)).trans (KeepT.below hb2)) (((KeepT.drewN wr q).trans (KeepT.below hb1)).trans (KeepT.below hb2)), (below_drewN' hb q).trans ((hb1.mono hsm).trans (hb2.mono (Nat.le_trans hsm hb1.size))), by omega, by omega, hfin⟩
            case measure => simp [strLen]; omega
          · have hw0 : 0 < (wordsOf (noCR (lineOf rest))).length := List.length_pos_iff.2 hw
            have hl0 : 0 < (noCR (lineOf rest)).size := goFields_size hw
            have hf := first_eq _ hl0
            by_cases hc : first (noCR (lineOf rest)) = 42
            · have h42 : (((noCR (lineOf rest))[0].toNat : Int) != 42) = false := by rw [← hf, hc]; rfl
              have hfin : Hid (linesR t 0 [] = linesR (restOf rest) (all + 1) out) := by
                show linesR t 0 [] = _
                rw [hgo.out, hst.out, if_neg (by rw [hbad']; simp), if_neg (by simp [counts, hc])]
              clear hgo hst hw hf hc
              go_wp2_with (first
                | (go_at_call 8; refine (cut_any rest m _ hs hm').mono ?_; rintro e w' ⟨rfl, q, rfl⟩)
                | (go_at_call 9; refine (suffix_any _ _ (by omega)).mono ?_; rintro e w' ⟨rfl, rfl⟩)
                | (go_at_call 10; refine (contains_any _ _).mono ?_; rintro e w' ⟨rfl, hb1⟩)
                | (go_at_call 12; refine (fields_any _ _ (by omega)).mono ?_; rintro e w' ⟨A, rfl, hA, how, hb2⟩))
              go_roundw
              case rel => exact ⟨out, all + 1, restOf rest, by go_num, rfl, hl.keep (((KeepT.drewN wr q).trans (KeepT.below hb1)).trans (KeepT.below hb2)) (((KeepT.drewN wr q).trans (KeepT.below hb1)).trans (KeepT.below hb2)), (below_drewN' hb q).trans ((hb1.mono hsm).trans (hb2.mono (Nat.le_trans hsm hb1.size))), by omega, by omega, hfin⟩
              case measure => simp [strLen]; omega
            · have h42 : (((noCR (lineOf rest))[0].toNat : Int) != 42) = true := by rw [← hf]; simp; omega
              have hfin : Hid (linesR t 0 [] = linesR (restOf rest) (all + 1) (out ++ [⟨all + 1, !isBlank (noCR (lineOf rest))[0].toNat, wordsOf (noCR (lineOf rest))⟩])) := by
                show linesR t 0 [] = _
                rw [hgo.out, hst.out, if_neg (by rw [hbad']; simp), if_pos (by simp [counts, hw, hc]), hf]
              clear hgo hst hw hf hc
              obtain ⟨us, hus, hcs⟩ := hl
              go_wp2_with (first
                | (go_at_call 8; refine (cut_any rest m _ hs hm').mono ?_; rintro e w' ⟨rfl, q, rfl⟩)
                | (go_at_call 9; refine (suffix_any _ _ (by omega)).mono ?_; rintro e w' ⟨rfl, rfl⟩)
                | (go_at_call 10; refine (contains_any _ _).mono ?_; rintro e w' ⟨rfl, hb1⟩)
                | (go_at_call 12; refine (fields_any _ _ (by omega)).mono ?_; rintro e w' ⟨A, rfl, hA, how, hb2⟩)
                | (go_at_call 13; refine (blank_byte _ _).mono ?_; rintro e w' ⟨rfl, rfl⟩)
                | (at_builtin; refine wpList_append_own _ rfl (.tmp 40) (.tmp 49) 23 rfl w.heap.size 31 i0 _ 3 40 Try.underlying23 hi0 hz0 hz1 hz2 rfl (by decide) _ _ us rfl ((own_keepT hus (((KeepT.drewN wr q).trans (KeepT.below hb1)).trans (KeepT.below hb2))).alloc _) _ 1 1 [.int .i64 ((all : Int) + 1), .bool (!isBlank (noCR (lineOf rest))[0].toNat), .slice (some ⟨A, 0, none⟩) (wordsOf (noCR (lineOf rest))).length (wordsOf (noCR (lineOf rest))).length] rfl rfl ?c1 ?c2 ?c3 ?c4 ?c5 ?_))
              case c1 => exact cells_new _ _ _
              case c2 => intro u hu; simp at hu; rcases hu with rfl | rfl | rfl <;> rfl
              case c3 => unfold maxLen; omega
              case c4 => omega
              case c5 => have := hb2.size; have := hb1.size; simp; simp at this; omega
              · intro v1 W1 hown1 hg1 _
                have hadd : Lns W1 w.heap.size v1 (out ++ [⟨all + 1, !isBlank (noCR (lineOf rest))[0].toNat, wordsOf (noCR (lineOf rest))⟩]) :=
                  Lns.add hus hcs (((KeepT.drewN wr q).trans (KeepT.below hb1)).trans (KeepT.below hb2)) (((KeepT.drewN wr q).trans (KeepT.below hb1)).trans (KeepT.below hb2)) how (Nat.le_trans hsm hb1.size) hown1 hg1
                have hbW : Below w.heap.size w W1 :=
                  ((((below_drewN' hb q).trans ((hb1.mono hsm).trans (hb2.mono (Nat.le_trans hsm hb1.size)))).alloc (Nat.le_trans hsm (Nat.le_trans hb1.size hb2.size)) _).grown hg1 (by have := hb2.size; have := hb1.size; simp; simp at this; omega) (own_ge hus))
                clear hown1 hg1 hus hcs how hb1 hb2 hb
                go_wp2
                go_roundw
                case rel => exact ⟨_, all + 1, restOf rest, by go_num, rfl, hadd, hbW, by omega, by simp; omega, hfin⟩
                case measure => simp [strLen]; omega
end Go.Proofs.Ytlkhiiadoggneaa
