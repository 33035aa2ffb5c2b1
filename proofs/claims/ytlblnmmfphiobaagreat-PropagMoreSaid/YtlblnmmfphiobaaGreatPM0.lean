import Derived.Test.YtlblnmmfphiobaaGreatProg
import Derived.Lib.Hide
import Derived.WalkKit
import Derived.Deep.RegionHeld
namespace Go.RowKit
theorem Hid.p0 {A0 A1 : Prop} (h : Hid (A0 ∧ A1)) : A0 := h.1
theorem Hid.p1 {A0 A1 A2 : Prop} (h : Hid (A0 ∧ A1 ∧ A2)) : A1 := h.2.1
theorem Hid.q1 {A0 A1 : Prop} (h : Hid (A0 ∧ A1)) : A1 := h.2
theorem Hid.p2 {A0 A1 A2 A3 : Prop} (h : Hid (A0 ∧ A1 ∧ A2 ∧ A3)) : A2 := h.2.2.1
theorem Hid.q2 {A0 A1 A2 : Prop} (h : Hid (A0 ∧ A1 ∧ A2)) : A2 := h.2.2
theorem Hid.p3 {A0 A1 A2 A3 A4 : Prop} (h : Hid (A0 ∧ A1 ∧ A2 ∧ A3 ∧ A4)) : A3 := h.2.2.2.1
theorem Hid.q3 {A0 A1 A2 A3 : Prop} (h : Hid (A0 ∧ A1 ∧ A2 ∧ A3)) : A3 := h.2.2.2
theorem Hid.p4 {A0 A1 A2 A3 A4 A5 : Prop} (h : Hid (A0 ∧ A1 ∧ A2 ∧ A3 ∧ A4 ∧ A5)) : A4 := h.2.2.2.2.1
theorem Hid.q4 {A0 A1 A2 A3 A4 : Prop} (h : Hid (A0 ∧ A1 ∧ A2 ∧ A3 ∧ A4)) : A4 := h.2.2.2.2
theorem Hid.p5 {A0 A1 A2 A3 A4 A5 A6 : Prop} (h : Hid (A0 ∧ A1 ∧ A2 ∧ A3 ∧ A4 ∧ A5 ∧ A6)) : A5 := h.2.2.2.2.2.1
theorem Hid.q5 {A0 A1 A2 A3 A4 A5 : Prop} (h : Hid (A0 ∧ A1 ∧ A2 ∧ A3 ∧ A4 ∧ A5)) : A5 := h.2.2.2.2.2
theorem Hid.p6 {A0 A1 A2 A3 A4 A5 A6 A7 : Prop} (h : Hid (A0 ∧ A1 ∧ A2 ∧ A3 ∧ A4 ∧ A5 ∧ A6 ∧ A7)) : A6 := h.2.2.2.2.2.2.1
theorem Hid.q6 {A0 A1 A2 A3 A4 A5 A6 : Prop} (h : Hid (A0 ∧ A1 ∧ A2 ∧ A3 ∧ A4 ∧ A5 ∧ A6)) : A6 := h.2.2.2.2.2.2
theorem Hid.p7 {A0 A1 A2 A3 A4 A5 A6 A7 A8 : Prop} (h : Hid (A0 ∧ A1 ∧ A2 ∧ A3 ∧ A4 ∧ A5 ∧ A6 ∧ A7 ∧ A8)) : A7 := h.2.2.2.2.2.2.2.1
theorem Hid.q7 {A0 A1 A2 A3 A4 A5 A6 A7 : Prop} (h : Hid (A0 ∧ A1 ∧ A2 ∧ A3 ∧ A4 ∧ A5 ∧ A6 ∧ A7)) : A7 := h.2.2.2.2.2.2.2
theorem Hid.p8 {A0 A1 A2 A3 A4 A5 A6 A7 A8 A9 : Prop} (h : Hid (A0 ∧ A1 ∧ A2 ∧ A3 ∧ A4 ∧ A5 ∧ A6 ∧ A7 ∧ A8 ∧ A9)) : A8 := h.2.2.2.2.2.2.2.2.1
theorem Hid.q8 {A0 A1 A2 A3 A4 A5 A6 A7 A8 : Prop} (h : Hid (A0 ∧ A1 ∧ A2 ∧ A3 ∧ A4 ∧ A5 ∧ A6 ∧ A7 ∧ A8)) : A8 := h.2.2.2.2.2.2.2.2
theorem Hid.p9 {A0 A1 A2 A3 A4 A5 A6 A7 A8 A9 A10 : Prop} (h : Hid (A0 ∧ A1 ∧ A2 ∧ A3 ∧ A4 ∧ A5 ∧ A6 ∧ A7 ∧ A8 ∧ A9 ∧ A10)) : A9 := h.2.2.2.2.2.2.2.2.2.1
theorem Hid.q9 {A0 A1 A2 A3 A4 A5 A6 A7 A8 A9 : Prop} (h : Hid (A0 ∧ A1 ∧ A2 ∧ A3 ∧ A4 ∧ A5 ∧ A6 ∧ A7 ∧ A8 ∧ A9)) : A9 := h.2.2.2.2.2.2.2.2.2
theorem Hid.p10 {A0 A1 A2 A3 A4 A5 A6 A7 A8 A9 A10 A11 : Prop} (h : Hid (A0 ∧ A1 ∧ A2 ∧ A3 ∧ A4 ∧ A5 ∧ A6 ∧ A7 ∧ A8 ∧ A9 ∧ A10 ∧ A11)) : A10 := h.2.2.2.2.2.2.2.2.2.2.1
theorem Hid.q10 {A0 A1 A2 A3 A4 A5 A6 A7 A8 A9 A10 : Prop} (h : Hid (A0 ∧ A1 ∧ A2 ∧ A3 ∧ A4 ∧ A5 ∧ A6 ∧ A7 ∧ A8 ∧ A9 ∧ A10)) : A10 := h.2.2.2.2.2.2.2.2.2.2
theorem Hid.p11 {A0 A1 A2 A3 A4 A5 A6 A7 A8 A9 A10 A11 A12 : Prop} (h : Hid (A0 ∧ A1 ∧ A2 ∧ A3 ∧ A4 ∧ A5 ∧ A6 ∧ A7 ∧ A8 ∧ A9 ∧ A10 ∧ A11 ∧ A12)) : A11 := h.2.2.2.2.2.2.2.2.2.2.2.1
theorem Hid.q11 {A0 A1 A2 A3 A4 A5 A6 A7 A8 A9 A10 A11 : Prop} (h : Hid (A0 ∧ A1 ∧ A2 ∧ A3 ∧ A4 ∧ A5 ∧ A6 ∧ A7 ∧ A8 ∧ A9 ∧ A10 ∧ A11)) : A11 := h.2.2.2.2.2.2.2.2.2.2.2
theorem Hid.p12 {A0 A1 A2 A3 A4 A5 A6 A7 A8 A9 A10 A11 A12 A13 : Prop} (h : Hid (A0 ∧ A1 ∧ A2 ∧ A3 ∧ A4 ∧ A5 ∧ A6 ∧ A7 ∧ A8 ∧ A9 ∧ A10 ∧ A11 ∧ A12 ∧ A13)) : A12 := h.2.2.2.2.2.2.2.2.2.2.2.2.1
theorem Hid.q12 {A0 A1 A2 A3 A4 A5 A6 A7 A8 A9 A10 A11 A12 : Prop} (h : Hid (A0 ∧ A1 ∧ A2 ∧ A3 ∧ A4 ∧ A5 ∧ A6 ∧ A7 ∧ A8 ∧ A9 ∧ A10 ∧ A11 ∧ A12)) : A12 := h.2.2.2.2.2.2.2.2.2.2.2.2
theorem Hid.p13 {A0 A1 A2 A3 A4 A5 A6 A7 A8 A9 A10 A11 A12 A13 A14 : Prop} (h : Hid (A0 ∧ A1 ∧ A2 ∧ A3 ∧ A4 ∧ A5 ∧ A6 ∧ A7 ∧ A8 ∧ A9 ∧ A10 ∧ A11 ∧ A12 ∧ A13 ∧ A14)) : A13 := h.2.2.2.2.2.2.2.2.2.2.2.2.2.1
theorem Hid.q13 {A0 A1 A2 A3 A4 A5 A6 A7 A8 A9 A10 A11 A12 A13 : Prop} (h : Hid (A0 ∧ A1 ∧ A2 ∧ A3 ∧ A4 ∧ A5 ∧ A6 ∧ A7 ∧ A8 ∧ A9 ∧ A10 ∧ A11 ∧ A12 ∧ A13)) : A13 := h.2.2.2.2.2.2.2.2.2.2.2.2.2
theorem Hid.p14 {A0 A1 A2 A3 A4 A5 A6 A7 A8 A9 A10 A11 A12 A13 A14 A15 : Prop} (h : Hid (A0 ∧ A1 ∧ A2 ∧ A3 ∧ A4 ∧ A5 ∧ A6 ∧ A7 ∧ A8 ∧ A9 ∧ A10 ∧ A11 ∧ A12 ∧ A13 ∧ A14 ∧ A15)) : A14 := h.2.2.2.2.2.2.2.2.2.2.2.2.2.2.1
theorem Hid.q14 {A0 A1 A2 A3 A4 A5 A6 A7 A8 A9 A10 A11 A12 A13 A14 : Prop} (h : Hid (A0 ∧ A1 ∧ A2 ∧ A3 ∧ A4 ∧ A5 ∧ A6 ∧ A7 ∧ A8 ∧ A9 ∧ A10 ∧ A11 ∧ A12 ∧ A13 ∧ A14)) : A14 := h.2.2.2.2.2.2.2.2.2.2.2.2.2.2
theorem Hid.p15 {A0 A1 A2 A3 A4 A5 A6 A7 A8 A9 A10 A11 A12 A13 A14 A15 A16 : Prop} (h : Hid (A0 ∧ A1 ∧ A2 ∧ A3 ∧ A4 ∧ A5 ∧ A6 ∧ A7 ∧ A8 ∧ A9 ∧ A10 ∧ A11 ∧ A12 ∧ A13 ∧ A14 ∧ A15 ∧ A16)) : A15 := h.2.2.2.2.2.2.2.2.2.2.2.2.2.2.2.1
theorem Hid.q15 {A0 A1 A2 A3 A4 A5 A6 A7 A8 A9 A10 A11 A12 A13 A14 A15 : Prop} (h : Hid (A0 ∧ A1 ∧ A2 ∧ A3 ∧ A4 ∧ A5 ∧ A6 ∧ A7 ∧ A8 ∧ A9 ∧ A10 ∧ A11 ∧ A12 ∧ A13 ∧ A14 ∧ A15)) : A15 := h.2.2.2.2.2.2.2.2.2.2.2.2.2.2.2
end Go.RowKit
namespace Go.Proofs.YtlblnmmfphiobaaGreat
open Go Go.RowKit
theorem Yh2 {A0 A1 : Prop} (h0 : A0) (h1 : A1) : Hid (A0 ∧ A1) := ⟨h0, h1⟩
theorem Yh3 {A0 A1 A2 : Prop} (h0 : A0) (h1 : A1) (h2 : A2) : Hid (A0 ∧ A1 ∧ A2) := ⟨h0, h1, h2⟩
theorem Yh4 {A0 A1 A2 A3 : Prop} (h0 : A0) (h1 : A1) (h2 : A2) (h3 : A3) : Hid (A0 ∧ A1 ∧ A2 ∧ A3) := ⟨h0, h1, h2, h3⟩
theorem Yh5 {A0 A1 A2 A3 A4 : Prop} (h0 : A0) (h1 : A1) (h2 : A2) (h3 : A3) (h4 : A4) : Hid (A0 ∧ A1 ∧ A2 ∧ A3 ∧ A4) := ⟨h0, h1, h2, h3, h4⟩
theorem Yh6 {A0 A1 A2 A3 A4 A5 : Prop} (h0 : A0) (h1 : A1) (h2 : A2) (h3 : A3) (h4 : A4) (h5 : A5) : Hid (A0 ∧ A1 ∧ A2 ∧ A3 ∧ A4 ∧ A5) := ⟨h0, h1, h2, h3, h4, h5⟩
theorem Yh7 {A0 A1 A2 A3 A4 A5 A6 : Prop} (h0 : A0) (h1 : A1) (h2 : A2) (h3 : A3) (h4 : A4) (h5 : A5) (h6 : A6) : Hid (A0 ∧ A1 ∧ A2 ∧ A3 ∧ A4 ∧ A5 ∧ A6) := ⟨h0, h1, h2, h3, h4, h5, h6⟩
theorem Yh8 {A0 A1 A2 A3 A4 A5 A6 A7 : Prop} (h0 : A0) (h1 : A1) (h2 : A2) (h3 : A3) (h4 : A4) (h5 : A5) (h6 : A6) (h7 : A7) : Hid (A0 ∧ A1 ∧ A2 ∧ A3 ∧ A4 ∧ A5 ∧ A6 ∧ A7) := ⟨h0, h1, h2, h3, h4, h5, h6, h7⟩
theorem Yh9 {A0 A1 A2 A3 A4 A5 A6 A7 A8 : Prop} (h0 : A0) (h1 : A1) (h2 : A2) (h3 : A3) (h4 : A4) (h5 : A5) (h6 : A6) (h7 : A7) (h8 : A8) : Hid (A0 ∧ A1 ∧ A2 ∧ A3 ∧ A4 ∧ A5 ∧ A6 ∧ A7 ∧ A8) := ⟨h0, h1, h2, h3, h4, h5, h6, h7, h8⟩
theorem F9 {A0 A1 A2 A3 A4 A5 A6 A7 A8 A9 : Prop} (h0 : A0) (h1 : A1) (h2 : A2) (h3 : A3) (h4 : A4) (h5 : A5) (h6 : A6) (h7 : A7) (h8 : A8) (h9 : A9) : Hid (A0 ∧ A1 ∧ A2 ∧ A3 ∧ A4 ∧ A5 ∧ A6 ∧ A7 ∧ A8 ∧ A9) := ⟨h0, h1, h2, h3, h4, h5, h6, h7, h8, h9⟩
theorem JY {A0 A1 A2 A3 A4 A5 A6 A7 A8 A9 A10 : Prop} (h0 : A0) (h1 : A1) (h2 : A2) (h3 : A3) (h4 : A4) (h5 : A5) (h6 : A6) (h7 : A7) (h8 : A8) (h9 : A9) (h10 : A10) : Hid (A0 ∧ A1 ∧ A2 ∧ A3 ∧ A4 ∧ A5 ∧ A6 ∧ A7 ∧ A8 ∧ A9 ∧ A10) := ⟨h0, h1, h2, h3, h4, h5, h6, h7, h8, h9, h10⟩
theorem Kd {A0 A1 A2 A3 A4 A5 A6 A7 A8 A9 A10 A11 : Prop} (h0 : A0) (h1 : A1) (h2 : A2) (h3 : A3) (h4 : A4) (h5 : A5) (h6 : A6) (h7 : A7) (h8 : A8) (h9 : A9) (h10 : A10) (h11 : A11) : Hid (A0 ∧ A1 ∧ A2 ∧ A3 ∧ A4 ∧ A5 ∧ A6 ∧ A7 ∧ A8 ∧ A9 ∧ A10 ∧ A11) := ⟨h0, h1, h2, h3, h4, h5, h6, h7, h8, h9, h10, h11⟩
theorem P6 {A0 A1 A2 A3 A4 A5 A6 A7 A8 A9 A10 A11 A12 : Prop} (h0 : A0) (h1 : A1) (h2 : A2) (h3 : A3) (h4 : A4) (h5 : A5) (h6 : A6) (h7 : A7) (h8 : A8) (h9 : A9) (h10 : A10) (h11 : A11) (h12 : A12) : Hid (A0 ∧ A1 ∧ A2 ∧ A3 ∧ A4 ∧ A5 ∧ A6 ∧ A7 ∧ A8 ∧ A9 ∧ A10 ∧ A11 ∧ A12) := ⟨h0, h1, h2, h3, h4, h5, h6, h7, h8, h9, h10, h11, h12⟩
theorem RJ {A0 A1 A2 A3 A4 A5 A6 A7 A8 A9 A10 A11 A12 A13 : Prop} (h0 : A0) (h1 : A1) (h2 : A2) (h3 : A3) (h4 : A4) (h5 : A5) (h6 : A6) (h7 : A7) (h8 : A8) (h9 : A9) (h10 : A10) (h11 : A11) (h12 : A12) (h13 : A13) : Hid (A0 ∧ A1 ∧ A2 ∧ A3 ∧ A4 ∧ A5 ∧ A6 ∧ A7 ∧ A8 ∧ A9 ∧ A10 ∧ A11 ∧ A12 ∧ A13) := ⟨h0, h1, h2, h3, h4, h5, h6, h7, h8, h9, h10, h11, h12, h13⟩
theorem Yh15 {A0 A1 A2 A3 A4 A5 A6 A7 A8 A9 A10 A11 A12 A13 A14 : Prop} (h0 : A0) (h1 : A1) (h2 : A2) (h3 : A3) (h4 : A4) (h5 : A5) (h6 : A6) (h7 : A7) (h8 : A8) (h9 : A9) (h10 : A10) (h11 : A11) (h12 : A12) (h13 : A13) (h14 : A14) : Hid (A0 ∧ A1 ∧ A2 ∧ A3 ∧ A4 ∧ A5 ∧ A6 ∧ A7 ∧ A8 ∧ A9 ∧ A10 ∧ A11 ∧ A12 ∧ A13 ∧ A14) := ⟨h0, h1, h2, h3, h4, h5, h6, h7, h8, h9, h10, h11, h12, h13, h14⟩
theorem Yh16 {A0 A1 A2 A3 A4 A5 A6 A7 A8 A9 A10 A11 A12 A13 A14 A15 : Prop} (h0 : A0) (h1 : A1) (h2 : A2) (h3 : A3) (h4 : A4) (h5 : A5) (h6 : A6) (h7 : A7) (h8 : A8) (h9 : A9) (h10 : A10) (h11 : A11) (h12 : A12) (h13 : A13) (h14 : A14) (h15 : A15) : Hid (A0 ∧ A1 ∧ A2 ∧ A3 ∧ A4 ∧ A5 ∧ A6 ∧ A7 ∧ A8 ∧ A9 ∧ A10 ∧ A11 ∧ A12 ∧ A13 ∧ A14 ∧ A15) := ⟨h0, h1, h2, h3, h4, h5, h6, h7, h8, h9, h10, h11, h12, h13, h14, h15⟩
theorem Yh17 {A0 A1 A2 A3 A4 A5 A6 A7 A8 A9 A10 A11 A12 A13 A14 A15 A16 : Prop} (h0 : A0) (h1 : A1) (h2 : A2) (h3 : A3) (h4 : A4) (h5 : A5) (h6 : A6) (h7 : A7) (h8 : A8) (h9 : A9) (h10 : A10) (h11 : A11) (h12 : A12) (h13 : A13) (h14 : A14) (h15 : A15) (h16 : A16) : Hid (A0 ∧ A1 ∧ A2 ∧ A3 ∧ A4 ∧ A5 ∧ A6 ∧ A7 ∧ A8 ∧ A9 ∧ A10 ∧ A11 ∧ A12 ∧ A13 ∧ A14 ∧ A15 ∧ A16) := ⟨h0, h1, h2, h3, h4, h5, h6, h7, h8, h9, h10, h11, h12, h13, h14, h15, h16⟩
abbrev Yc3 (W : World) (g : Nat) (x0 x1 x2 : Value) (R : Prop) : Prop := W.cell? ⟨g, 0, none⟩ = some x0 ∧ W.cell? ⟨g, 1, none⟩ = some x1 ∧ W.cell? ⟨g, 2, none⟩ = some x2 ∧ R
abbrev Ye3 (W : World) (g : Nat) (x0 x1 x2 : Value) : Prop := W.cell? ⟨g, 0, none⟩ = some x0 ∧ W.cell? ⟨g, 1, none⟩ = some x1 ∧ W.cell? ⟨g, 2, none⟩ = some x2
abbrev Ye4 (W : World) (g : Nat) (x0 x1 x2 x3 : Value) : Prop := W.cell? ⟨g, 0, none⟩ = some x0 ∧ W.cell? ⟨g, 1, none⟩ = some x1 ∧ W.cell? ⟨g, 2, none⟩ = some x2 ∧ W.cell? ⟨g, 3, none⟩ = some x3
abbrev Yc7 (W : World) (g : Nat) (x0 x1 x2 x3 x4 x5 x6 : Value) (R : Prop) : Prop := W.cell? ⟨g, 0, none⟩ = some x0 ∧ W.cell? ⟨g, 1, none⟩ = some x1 ∧ W.cell? ⟨g, 2, none⟩ = some x2 ∧ W.cell? ⟨g, 3, none⟩ = some x3 ∧ W.cell? ⟨g, 4, none⟩ = some x4 ∧ W.cell? ⟨g, 5, none⟩ = some x5 ∧ W.cell? ⟨g, 6, none⟩ = some x6 ∧ R
abbrev Ye7 (W : World) (g : Nat) (x0 x1 x2 x3 x4 x5 x6 : Value) : Prop := W.cell? ⟨g, 0, none⟩ = some x0 ∧ W.cell? ⟨g, 1, none⟩ = some x1 ∧ W.cell? ⟨g, 2, none⟩ = some x2 ∧ W.cell? ⟨g, 3, none⟩ = some x3 ∧ W.cell? ⟨g, 4, none⟩ = some x4 ∧ W.cell? ⟨g, 5, none⟩ = some x5 ∧ W.cell? ⟨g, 6, none⟩ = some x6
theorem Yo {p : Prop} (h : p := by omega) : p := h
theorem Yd {p : Prop} (h : p := by decide) : p := h
def Yl (n m : Nat) : List Bool := (List.range n).map m.testBit
abbrev Yg (w w1 : World) : Prop := Below w.heap.size w w1
theorem Ys {α : Type} {l : List α} {a b : α} : (a :: l).set 0 b = b :: l := rfl
theorem Yt {α : Type} {l : List α} {a b : α} {n : Nat} : (a :: l).set (n + 1) b = a :: l.set n b := rfl
theorem Yw {P : Program} {md : Region.Mode} {ops : Array Oper} {Q : Exit → Act → World → Prop} {S : World → Prop} {fuel : Nat} {listed : Array Bool} {a : Act} {w : World} (h : Q .normal a w) (hr : Region.ready md ops listed = [] := by kernel_rfl) : wpAnyH P md ops Q S fuel listed a w := wpAnyH_done hr h _
theorem Yp : (∀ (a : Act) (d : Nat) (v : Value), a.put (some d) v = ⟨a.tmps.setIfInBounds d v, a.defers⟩) ∧ (∀ (a : Act) (v : Value), a.put none v = a) ∧ (∀ (l : List Value) (i : Nat) (v : Value), l.toArray.setIfInBounds i v = (l.set i v).toArray) ∧ (∀ (l : List Bool) (i : Nat) (v : Bool), l.toArray.setIfInBounds i v = (l.set i v).toArray) ∧ (∀ (l : List Value) (x y : Value), (x :: l).set 0 y = y :: l) ∧ (∀ (l : List Bool) (x y : Bool), (x :: l).set 0 y = y :: l) ∧ (∀ (l : List Value) (x y : Value) (n : Nat), (x :: l).set (n + 1) y = x :: l.set n y) ∧ ∀ (l : List Bool) (x y : Bool) (n : Nat), (x :: l).set (n + 1) y = x :: l.set n y :=
  ⟨fun _ _ _ => rfl, fun _ _ => rfl, fun _ _ _ => by simp, fun _ _ _ => by simp, fun _ _ _ => rfl, fun _ _ _ => rfl, fun _ _ _ _ => rfl, fun _ _ _ _ => rfl⟩
abbrev TL:=@Nat.le_refl
abbrev TM:=@List.length_append
abbrev TN:=@List.eq_nil_of_length_eq_zero
abbrev TO:=@List.mem_of_getElem?
abbrev TP:=@Nat.le_trans
abbrev TQ:=@Nat.eq_zero_or_pos
abbrev TR:=@List.append_assoc
abbrev TS:=@List.getD_eq_getElem?_getD
abbrev TU:=@List.length_take
abbrev TV:=@Nat.lt_of_lt_of_le
abbrev TW:=@Nat.mul_le_mul_right
abbrev TX:=@Nat.mul_comm
abbrev TY:=@Nat.mul_le_mul_left
abbrev TZ:=@Bool.and_eq_true
abbrev T9:=@Nat.mul_add
abbrev Ua:=@Nat.pow_le_pow_right
abbrev Uc:=@List.take_succ_eq_append_getElem
abbrev Ud:=@List.take_of_length_le
abbrev Ue:=@List.mem_cons
abbrev Uf:=@Nat.mul_assoc
abbrev Ug:=@Nat.lt_of_le_of_lt
abbrev Uh:=@List.length_set
abbrev Ui:=@List.length_singleton
abbrev Uj:=@List.mem_singleton
abbrev Uk:=@List.length_replicate
abbrev Ul:=@Nat.lt_or_ge
abbrev Un:=@Nat.zero_le
abbrev Uo:=@List.nil_append
abbrev Uq:=@Nat.add_mul
abbrev Us:=@List.take_append_drop
abbrev Ut:=@List.set_cons_zero
abbrev Uu:=@Nat.div_add_mod
abbrev Uw:=@List.mem_append
abbrev Uz:=@List.length_map
abbrev UA:=@List.append_nil
abbrev UB:=@Nat.mod_lt
abbrev UC:=@List.set_cons_succ
abbrev UD:=@Nat.pow_succ
abbrev UE:=@Nat.add_zero
abbrev UF:=@Nat.pow_add
abbrev UG:=@Nat.mul_lt_mul''
abbrev UH:=@List.foldl_cons
abbrev UI:=@List.drop_eq_nil_of_le
abbrev UJ:=@List.length_drop
abbrev UK:=@Nat.div_lt_of_lt_mul
abbrev UL:=@Int.natAbs_mul
abbrev UM:=@List.set_append_right
abbrev UN:=@Nat.mul_le_mul
abbrev UO:=@List.all_eq_true
abbrev UP:=@List.mem_map
abbrev UQ:=@Nat.mul_zero
abbrev UR:=@List.mem_cons_of_mem
abbrev US:=@List.setIfInBounds_toArray
abbrev UT:=@List.foldl_nil
abbrev UU:=@List.drop_eq_getElem_cons
abbrev UV:=@List.pairwise_iff_getElem
abbrev UW:=@List.pairwise_append
abbrev UX:=@Nat.mul_ne_zero
abbrev UY:=@List.mem_range
abbrev UZ:=@List.rel_of_pairwise_cons
abbrev U7:=@List.length_cons
abbrev U8:=@Nat.min_eq_left
abbrev U9:=@Nat.pos_of_ne_zero
abbrev Va:=@Array.getD_eq_getD_getElem?
abbrev Vb:=@List.getElem_of_mem
abbrev Vc:=@Nat.add_assoc
abbrev Ve:=@Nat.pow_pos
abbrev Vf:=@List.contains_cons
abbrev Vg:=@Nat.lt_trans
abbrev Vh:=@Nat.div_le_self
abbrev Vi:=@Nat.div_eq_of_lt
abbrev Vj:=@List.not_mem_nil
abbrev Vk:=@Nat.mul_one
abbrev Vl:=@List.cons_append
abbrev Vn:=@Rat.zero_add
abbrev Vo:=@Array.getElem_modify_self
abbrev Vp:=@Bool.not_eq_true'
abbrev Vq:=@List.contains_iff_mem
abbrev Vs:=@List.map_append
abbrev Vu:=@List.mem_cons_self
abbrev Vw:=@Nat.zero_add
abbrev Vy:=@Int.toNat_natCast
abbrev Vz:=@Nat.succ_mul
abbrev VA:=@List.getElem_cons_drop
abbrev VB:=@List.getElem_drop
abbrev VC:=@Array.all_eq_true_iff_forall_mem
abbrev VD:=@Int.fdiv_eq_ediv_of_nonneg
abbrev VE:=@List.any_eq_true
abbrev VF:=@Nat.le_add_right
abbrev VG:=@List.drop_drop
abbrev VH:=@Bool.and_eq_true_iff
abbrev VI:=@List.drop_zero
abbrev VJ:=@List.getElem_take
abbrev VK:=@Nat.mul_left_comm
abbrev VL:=@Nat.add_comm
abbrev VM:=@Nat.sub_self
abbrev VN:=@Rat.add_zero
abbrev VO:=@Int.le_of_lt
abbrev VP:=@Nat.mod_eq_of_lt
abbrev VQ:=@Nat.add_sub_cancel
abbrev VR:=@Nat.mul_mod_mul_right
abbrev VS:=@List.mem_filter
abbrev VT:=@Array.size_modify
abbrev VU:=@List.mem_append_left
abbrev VV:=@List.take_length
abbrev VW:=@List.drop_length
abbrev VX:=@List.pairwise_singleton
abbrev VY:=@Nat.add_sub_cancel_left
abbrev VZ:=@Nat.le_of_lt
abbrev V9:=@Int.natAbs_natCast
abbrev Wa:=@Nat.mod_add_div
abbrev Wb:=@Bool.or_eq_true
abbrev Wc:=@Nat.mul_add_div
abbrev We:=@Int.natCast_add
abbrev Wf:=@List.mem_append_right
abbrev Wh:=@Nat.le_div_iff_mul_le
abbrev Wi:=@Rat.mkRat_self
abbrev Wj:=@Int.natAbs_neg
abbrev Wk:=@Nat.zero_mul
abbrev Wl:=@Option.getD_some
end Go.Proofs.YtlblnmmfphiobaaGreat
