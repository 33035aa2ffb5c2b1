/-
  fields.blank and fields.bad: what they answer of a rune.
-/
import Derived.WalkKit
import Derived.Lib.Hide
import Derived.Test.YtlkhiiadoggneaaShelf
namespace Go.Proofs.Ytlkhiiadoggneaa
open Go Go.RowKit Go.Lib Go.Proofs

/-- A blank: a space or a tab. -/
def isBlank (r : Nat) : Bool := decide (r = 32) || decide (r = 9)
def isBad (r : Nat) : Bool := !isBlank r && (decide (r ≤ 32) || decide (126 < r))

set_option maxHeartbeats 400000 in
theorem blank_any (r : Nat) (w : World) :
    Calls Try.prog 13 #[.int .i32 r] w fun e w' => e = .returned (.bool (isBlank r)) ∧ w' = w := by
  by_cases h1 : r = 32
  · subst h1
    go_enter Try.func13, Try.ntmps13
    go_wp2
    go_ret
    exact ⟨rfl, rfl⟩
  · have e1 : ((r : Int) == 32) = false := by simp; omega
    by_cases h2 : r = 9
    · subst h2
      go_enter Try.func13, Try.ntmps13
      go_wp2
      go_ret
      exact ⟨rfl, rfl⟩
    · have e2 : ((r : Int) == 9) = false := by simp; omega
      have e3 : isBlank r = false := by simp [isBlank, h1, h2]
      rw [e3]
      clear h1 h2 e3
      go_enter Try.func13, Try.ntmps13
      go_wp2
      go_ret
      exact ⟨rfl, rfl⟩

set_option maxHeartbeats 400000 in
theorem bad_any (r : Nat) (w : World) :
    Calls Try.prog 11 #[.int .i32 r] w fun e w' => e = .returned (.bool (isBad r)) ∧ w' = w := by
  have hb := blank_any r w
  cases hbl : isBlank r with
  | true =>
    have e : isBad r = false := by simp [isBad, hbl]
    rw [e]; rw [hbl] at hb
    clear e hbl
    have H := Lib.hid hb; clear hb
    go_enter Try.func11, Try.ntmps11
    go_wp2_with (go_at_call 13; refine H.out.mono ?_; rintro e w' ⟨rfl, rfl⟩)
    go_ret
    exact ⟨rfl, rfl⟩
  | false =>
    rw [hbl] at hb
    have H := Lib.hid hb; clear hb
    by_cases h1 : r ≤ 32
    · have e : isBad r = true := by simp [isBad, hbl, h1]
      rw [e]
      clear e hbl
      have e1 : (r : Int) ≤ 32 := by omega
      go_enter Try.func11, Try.ntmps11
      go_wp2_with (go_at_call 13; refine H.out.mono ?_; rintro e w' ⟨rfl, rfl⟩)
      go_ret
      exact ⟨rfl, rfl⟩
    · have e1 : decide ((r : Int) ≤ 32) = false := by simp; omega
      have e : isBad r = decide (126 < (r : Int)) := by
        have : decide (126 < (r : Int)) = decide (126 < r) := by simp; omega
        simp [isBad, hbl, h1, this]
      rw [e]
      clear e hbl h1
      go_enter Try.func11, Try.ntmps11
      go_wp2_with (go_at_call 13; refine H.out.mono ?_; rintro e w' ⟨rfl, rfl⟩)
      go_ret
      exact ⟨rfl, rfl⟩

theorem blank_pred (w : World) : PredAt Try.prog 13 #[] encR isBlank w := fun W r _ => by
  unfold FnGives
  exact (blank_any r W).mono fun _ _ ⟨he, hw⟩ => ⟨he, 0, hw⟩
theorem bad_pred (w : World) : PredAt Try.prog 11 #[] encR isBad w := fun W r _ => by
  unfold FnGives
  exact (bad_any r W).mono fun _ _ ⟨he, hw⟩ => ⟨he, 0, hw⟩
theorem blank_enters : ∀ args w, (callFunc 13 args).run Try.prog w = .ok (.enter 13 args) w := enters_of Try.func13 (by kernel_rfl) rfl
theorem bad_enters : ∀ args w, (callFunc 11 args).run Try.prog w = .ok (.enter 11 args) w := enters_of Try.func11 (by kernel_rfl) rfl
end Go.Proofs.Ytlkhiiadoggneaa
