/-
  The document's numbers: Text.
-/
import Derived.Test.YtgbfpimdnmmfpaaGreatDoorI15
namespace Go.Proofs.YtgbfpimdnmmfpaaGreatDoor
open Go Go.RowKit Go.Proofs Pl
set_option linter.unusedVariables false
namespace I
/-- What the digits put so far are, and what is still to come. -/
theorem text_step {m j v n k R : Nat} (hv : v < 10 ^ j) (h : v + 10 ^ j * (n + 10 ^ (k + 1) * R) = m) (hn : n < 10 ^ (k + 1)) :
    ∃ v' : Nat, v' < 10 ^ (j + 1) ∧ v' + 10 ^ (j + 1) * (n / 10 + 10 ^ k * R) = m ∧ n / 10 < 10 ^ k ∧ padded (j + 1) v' = UInt8.ofNat (48 + n % 10) :: padded j v := by
  have h10 : n % 10 < 10 := Nat.mod_lt _ (by decide)
  refine ⟨v + 10 ^ j * (n % 10), ?_, ?_, by rw [Nat.pow_succ] at hn; omega, padded_front j v (n % 10) hv h10⟩
  · rw [Nat.pow_succ]
    have : 10 ^ j * (n % 10 + 1) ≤ 10 ^ j * 10 := Nat.mul_le_mul_left _ (by omega)
    rw [Nat.mul_add] at this
    omega
  · rw [← h]
    obtain ⟨Y, hY⟩ : ∃ Y, Y = n / 10 + 10 ^ k * R := ⟨_, rfl⟩
    have e1 : 10 * (10 ^ k * R) = 10 ^ (k + 1) * R := by rw [← Nat.mul_assoc, Nat.pow_succ, Nat.mul_comm 10]
    have e : n + 10 ^ (k + 1) * R = n % 10 + 10 * Y := by
      rw [hY, Nat.mul_add, e1]
      omega
    have e2 : 10 ^ j * (n % 10 + 10 * Y) = 10 ^ j * (n % 10) + 10 ^ (j + 1) * Y := by rw [Nat.mul_add, Nat.pow_succ, Nat.mul_assoc]
    rw [e, e2, ← hY, Nat.add_assoc]
theorem byte_nums (n : Nat) : ∃ z : Nat, z = (UInt8.ofNat (48 + n % 10)).toNat ∧ 48 ≤ z ∧ z ≤ 57 ∧ IntKind.u8.wrap (48 + ((n % 10 : Nat) : Int)) = (z : Int) := by
  have h10 : n % 10 < 10 := Nat.mod_lt _ (by decide)
  refine ⟨48 + n % 10, ?_, by omega, by omega, ?_⟩
  · rw [UInt8.toNat_ofNat']; omega
  · rw [IntKind.wrap_u8]; omega
/-- The digits with noughts ahead. -/
theorem padded_noughts (j m : Nat) (h : m < 10 ^ j) : ∃ r, padded j m = List.replicate r 48 ++ (if m = 0 then [] else Lib.decDigits m) := by
  cases j with
  | zero =>
    obtain rfl : m = 0 := by simpa using h
    exact ⟨0, rfl⟩
  | succ j =>
    by_cases h0 : m = 0
    · subst h0
      exact ⟨j + 1, by rw [padded_zero, if_pos rfl, List.append_nil]⟩
    · exact ⟨_, by rw [if_neg h0]; exact padded_eq (j + 1) m (by omega) h⟩
theorem dec_head : ∀ (n m : Nat), m < n → m ≠ 0 → ∃ a t, Lib.decDigits m = a :: t ∧ a ≠ 48 := by
  intro n
  induction n with
  | zero => intro m h _; exact absurd h (Nat.not_lt_zero _)
  | succ n ih =>
    intro m h h0
    rw [Lib.decDigits]
    split
    · rename_i hm
      refine ⟨_, [], rfl, ?_⟩
      intro e
      have e2 := congrArg UInt8.toNat e
      rw [UInt8.toNat_ofNat'] at e2
      have : (48 : UInt8).toNat = 48 := rfl
      rw [this] at e2
      omega
    · obtain ⟨a, t, e, ha⟩ := ih (m / 10) (by omega) (by omega)
      exact ⟨a, t ++ [UInt8.ofNat (48 + m % 10)], by rw [e]; rfl, ha⟩

def lenOf : Value → Nat
  | .slice _ n _ => n
  | _ => 0
def TextRel (m : Nat) (w wr : World) (g n j : Nat) (rest : Nat) : Prop :=
  ∃ v, v < 10 ^ j ∧ v + 10 ^ j * rest = m ∧ n = j ∧ R8 wr g 0 (padded j v) ∧ Below w.heap.size w wr

set_option maxRecDepth 100000 in
set_option maxHeartbeats 2000000 in
theorem text_dn {L m : Nat} {a : Value} (w : World) (ha : Dn w L a m) (hL : L ≤ 1000) :
    Calls Tryz.prog 60 #[a] w fun e w' => e = .returned (.string ⟨(Lib.decDigits m).toArray⟩) ∧ Below w.heap.size w w' := by
  have HA := Lib.hid ha
  clear ha
  go_enter Tryz.func60, Tryz.ntmps60
  go_wp2_with fail
  refine (trim_nm (HA.out.nm.keep (below_al w _)) (by omega)).mono ?_; rintro e w1 ⟨v1, rfl, h1⟩
  have hz : R8 w1 w.heap.size 0 [] := fun j hj => absurd hj (by simp)
  have hb1 : Below w.heap.size w w1 := below_trans (below_al w _) h1.2
  obtain ⟨A, c, rfl, -, -⟩ := h1.1.slice
  obtain ⟨lx, hlx⟩ : ∃ lx, lx = (dg TB m).length := ⟨_, rfl⟩
  have hl : lx ≤ 1000 := by rw [hlx]; exact Nat.le_trans (dg_length_le TB_one HA.out.2) hL
  have hrd := h1.1.rd
  rw [← hlx]
  have X := Lib.hid (And.intro hrd (And.intro hlx hb1))
  clear h1 hrd hlx hb1
  go_wp2_with fail
  go_loopw [3, 5] (fun b i wr => ∃ (k g n c2 : Nat), i = .int .i64 (k : Int) ∧ k ≤ lx ∧ b = .slice (some ⟨g, 0, none⟩) n c2 ∧ n ≤ c2 ∧ c2 ≤ maxLen ∧ n = 4 * k ∧ Hid (TextRel m w1 wr g n (4 * k) (val TB ((dg TB m).drop k)))) (fun _ i _ => lx - (intOf i).toNat)
  case atStart => exact ⟨0, _, 0, 0, rfl, by omega, rfl, by omega, by decide, rfl, 0, by simp, by simp [val_dg TB_one], rfl, hz, Below.refl _ _⟩
  case round =>
    obtain ⟨k, g, n, c2, rfl, hk, rfl, hn2, hc2, hn4, hR⟩ := hrel
    have hTB : TB = 10 ^ 4 := by rw [TB_eq]
    by_cases hkl : k = lx
    · subst hkl
      obtain ⟨v, hv, hvm, hnn, hr8, hbw⟩ := hR.out
      rw [X.out.2.1, List.drop_length, val_nil, Nat.mul_zero, Nat.add_zero] at hvm
      subst hvm
      obtain ⟨r, hr⟩ := padded_noughts _ v hv
      obtain ⟨T, hT⟩ : ∃ T : List UInt8, T = if v = 0 then [] else Lib.decDigits v := ⟨_, rfl⟩
      rw [← hT] at hr
      have hlen : n = (List.replicate r 48 ++ T).length := by rw [← hr, padded_length, hnn]
      rw [hr] at hr8
      have Z := Lib.hid (And.intro hT (below_trans X.out.2.2 hbw))
      have R0 := Lib.hid (And.intro hlen hr8)
      clear hv hnn hr8 hbw hR hr hT hlen hTB hn4
      go_wp2_with fail
      go_loop [3] (fun b => ∃ (r g o n c : Nat), b = .slice (some ⟨g, o, none⟩) n c ∧ n ≤ c ∧ c ≤ maxLen ∧ Hid (n = (List.replicate r 48 ++ T).length ∧ R8 wr g o (List.replicate r 48 ++ T))) (fun b => lenOf b)
      case atStart => exact ⟨r, g, 0, n, c2, rfl, hn2, hc2, R0.out⟩
      case round =>
        obtain ⟨r, g, o, n, c, rfl, hnc, hcm, hS⟩ := hrel
        have hnm : n ≤ 9223372036854775807 := by unfold maxLen at hcm; omega
        cases r with
        | zero =>
          have hl0 : n = T.length := hS.out.1
          have hr0 : R8 wr g o T := hS.out.2
          by_cases hv0 : v = 0
          · have hT0 : T = [] := by rw [Z.out.1, if_pos hv0]
            rw [hT0] at hl0
            have hn0 : n = 0 := hl0
            subst hn0
            have hfin : Lib.decDigits v = [48] := by rw [hv0, Lib.decDigits, dif_pos (by decide)]; rfl
            have F := Lib.hid hfin
            clear hS hl0 hr0 hfin hT0 hv0
            go_wp2_with fail
            go_ret
            exact ⟨by rw [F.out]; rfl, Z.out.2⟩
          · obtain ⟨a, t, e, ha⟩ := dec_head _ v (Nat.lt_succ_self v) hv0
            have hTe : T = Lib.decDigits v := by rw [Z.out.1, if_neg hv0]
            rw [hTe, e] at hl0 hr0
            have hm := hr0 0 (by simp)
            have hcv := run_convert_bytes_back (P := Tryz.prog) wr 126 9 5 ⟨g, o, none⟩ c (a :: t) Tryz.underlying126 Tryz.underlying5 Tryz.underlying9 (fun j hj => by
              have e2 : (⟨g, o, none⟩ : Addr).add j = ⟨g, o + j, none⟩ := by unfold Addr.add; split <;> simp_all
              rw [e2]; exact hr0 j hj)
            rw [← hl0, ← e] at hcv
            obtain ⟨x, hx⟩ : ∃ x, x = a.toNat := ⟨_, rfl⟩
            have hx48 : x ≠ 48 := fun h => ha (UInt8.toNat_inj.1 (by rw [← hx, h]; rfl))
            have hm2 : wr.cell? ⟨g, o, none⟩ = some (.int .u8 (x : Int)) := by rw [hx]; simpa using hm
            have hpos : (0 : Int) < (n : Int) := by rw [hl0]; simp
            have hxI : (x : Int) ≠ 48 := by omega
            have hxb : ((x : Int) != 48) = true := by simp; omega
            clear hS hl0 hr0 hTe e hm hx ha hv0
            go_wp2_with fail
            go_ret
            exact ⟨rfl, Z.out.2⟩
        | succ r =>
          have hl0 : n = (48 :: (List.replicate r 48 ++ T)).length := hS.out.1
          have hr0 : R8 wr g o (48 :: (List.replicate r 48 ++ T)) := hS.out.2
          have hm : wr.cell? ⟨g, o, none⟩ = some (.int .u8 48) := by have := hr0 0 (by simp); simpa using this
          obtain ⟨n', hn'⟩ : ∃ n', n' = (List.replicate r 48 ++ T).length := ⟨_, rfl⟩
          have hnn : n = n' + 1 := by rw [hl0, hn']; rfl
          subst hnn
          have hpos : (0 : Int) < ((n' + 1 : Nat) : Int) := by omega
          have N := Lib.hid (And.intro hn' hr0.drop)
          clear hS hl0 hr0 hn'
          by_cases hc1 : c = 1
          · subst hc1
            have hn0 : n' = 0 := by omega
            subst hn0
            go_wp2_with fail
            go_round
            case rel => exact ⟨r, g, o, 0, 0, by simp, by omega, by decide, N.out.1, fun j hj => absurd hj (by rw [← N.out.1]; omega)⟩
            case measure => simp [lenOf]
          · go_wp2_with fail
            go_round
            case rel => exact ⟨r, g, o + 1, n', c - 1, by simp, by omega, by omega, N.out⟩
            case measure => simp [lenOf]
    · obtain ⟨x, hx⟩ : ∃ x, x = atD (dg TB m) k := ⟨_, rfl⟩
      obtain ⟨R, hRR⟩ : ∃ R, R = val TB ((dg TB m).drop (k + 1)) := ⟨_, rfl⟩
      have hkx : k < (dg TB m).length := by rw [← X.out.2.1]; omega
      have hd := drop_val TB (dg TB m) k hkx
      have hx4 : x < 10 ^ 4 := by rw [hx, ← hTB]; exact atD_lt X.out.1.1 k
      have hRel : Hid (TextRel m w1 wr g n (4 * k + 0) (x + 10 ^ (4 - 0) * R) ∧ x < 10 ^ (4 - 0)) := by
        refine ⟨?_, hx4⟩
        have := hR.out
        rw [hd, ← hx, ← hRR, hTB] at this
        exact this
      obtain ⟨v0, -, -, -, -, hbw⟩ := hR.out
      obtain ⟨b0, o0, rfl, hcell⟩ := (X.out.1.keep hbw).at_ hkx
      have hm := hcell k _ (atD_some hkx)
      rw [← hx] at hm
      have hkl2 : (k : Int) < (lx : Int) := by omega
      have D := Lib.hid (And.intro hRR hkx)
      clear hR hd hbw hcell hx hRR hkx hTB hkl
      go_wp2_with fail
      go_loopw [3, 6, 7] (fun b xv qv wr => ∃ (q g n c2 x : Nat), qv = .int .i64 (q : Int) ∧ q ≤ 4 ∧ xv = .int .i64 (x : Int) ∧ x < 10000 ∧ b = .slice (some ⟨g, 0, none⟩) n c2 ∧ n ≤ c2 ∧ c2 ≤ maxLen ∧ n = 4 * k + q ∧ Hid (TextRel m w1 wr g n (4 * k + q) (x + 10 ^ (4 - q) * R) ∧ x < 10 ^ (4 - q))) (fun _ _ qv _ => 4 - (intOf qv).toNat)
      case atStart => exact ⟨0, g, n, c2, x, rfl, by omega, rfl, by simpa using hx4, rfl, hn2, hc2, by omega, hRel.out⟩
      case round =>
        obtain ⟨q, g, n, c2, x, rfl, hq, rfl, hx1, rfl, hn2, hc2, hn4, hS⟩ := hrel
        by_cases hq4 : q = 4
        · subst hq4
          have hfin : TextRel m w1 wr g n (4 * (k + 1)) (val TB ((dg TB m).drop (k + 1))) := by
            have h1 := hS.out.1
            have h2 : x = 0 := by have := hS.out.2; simpa using this
            rw [h2, ← D.out.1.symm] at h1
            simpa [Nat.mul_add] using h1
          have F := Lib.hid hfin
          clear hS hfin
          go_wp2_with fail
          go_roundw
          case rel => exact ⟨k + 1, g, n, c2, by go_num, by omega, rfl, hn2, hc2, by omega, F.out⟩
          case measure => simp [intOf]; omega
        · obtain ⟨p, hp⟩ : ∃ p, 4 - q = p + 1 := ⟨3 - q, by omega⟩
          have hp2 : 4 - (q + 1) = p := by omega
          obtain ⟨⟨v, hv, hvm, hnn, hr8, hbw⟩, hxs⟩ := hS.out
          rw [hp] at hvm hxs
          obtain ⟨v', g1, g2, g3, g4⟩ := text_step hv hvm hxs
          obtain ⟨z, z1, z2, z3, z4⟩ := byte_nums x
          have e1 : (x : Int) % 10 = ((x % 10 : Nat) : Int) := rfl
          have e2 : (x : Int) / 10 = ((x / 10 : Nat) : Int) := rfl
          obtain ⟨y, hy⟩ : ∃ y, y = x % 10 := ⟨_, rfl⟩
          obtain ⟨x', hx'⟩ : ∃ x', x' = x / 10 := ⟨_, rfl⟩
          have hy9 : y ≤ 9 := by omega
          have hx2 : x' < 10000 := by omega
          rw [← hy] at e1 z4
          rw [← hx'] at e2
          rw [← hx'] at g2 g3
          have hq3 : (q : Int) < 4 := by omega
          have hln : n = (padded (4 * k + q) v).length := by rw [padded_length]; exact hnn
          have hlb : (padded (4 * k + q) v).length ≤ 100000 := by rw [padded_length]; omega
          have G := Lib.hid (And.intro (And.intro hr8 (And.intro hbw (And.intro hln (And.intro hlb z1)))) (And.intro g1 (And.intro g2 (And.intro g3 g4))))
          clear hS hv hvm hnn hr8 hbw hxs g1 g2 g3 g4 z1 hy hx' hln hlb
          go_wp2_with (at_builtin; refine app_byte rfl _ _ rfl rfl rfl G.out.1.2.2.1 G.out.1.2.2.2.2 G.out.1.1 G.out.1.2.1 G.out.1.2.1.size G.out.1.2.2.2.1 ?_; intro g5 c5 w5 k1 k2 k3 k4)
          have K := Lib.hid (And.intro k1 k2)
          clear k1 k2
          go_wp2_with fail
          go_roundw
          case rel =>
            refine ⟨q + 1, g5, n + 1, c5, x', by go_num, by omega, rfl, hx2, by rw [hn4], k3, k4, by omega, ⟨v', ?_, ?_, by omega, ?_, K.out.2⟩, ?_⟩
            · exact G.out.2.1
            · rw [hp2]; exact G.out.2.2.1
            · have h1 := K.out.1
              rw [← G.out.2.2.2.2] at h1
              exact h1
            · rw [hp2]; exact G.out.2.2.2.1
          case measure => simp [intOf]; omega
end I
end Go.Proofs.YtgbfpimdnmmfpaaGreatDoor
