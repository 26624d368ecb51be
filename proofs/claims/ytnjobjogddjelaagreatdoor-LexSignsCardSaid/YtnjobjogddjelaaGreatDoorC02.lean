/- A part of the proof of LexSigns: what the functions that the law reaches come to. -/
import Derived.Test.YtnjobjogddjelaaGreatDoorC01
import Derived.Lib.IndexMore
import Derived.Lib.ItoaNum
import Derived.Shelf.Strings.BuilderK
set_option linter.unusedVariables false
set_option linter.unusedSimpArgs false
section
namespace Go.Proofs.YtnjobjogddjelaaGreatDoor.PureN
open Go.RowKit Go.Proofs.YtnjobjogddjelaaGreatDoor.Print Go.Proofs.YtnjobjogddjelaaGreatDoor.Pure Go.Proofs.YtnjobjogddjelaaGreatDoorW.PrintWords Go.Proofs.YtnjobjogddjelaaGreatDoorW.PrintLast Go.Proofs.YtnjobjogddjelaaGreatDoorW.PrintMore

/-! What the number functions come to, in whole numbers. -/
def R (n : Int) : Prop := -9223372036854775808 ≤ n ∧ n ≤ 9223372036854775807
def over (a : Bool) (n : Int) : Bool := isOver ⟨a, n⟩
/-- A quotient cut off, with a sign; overflow, if it is too great. -/
def sgn (neg : Bool) (q : Int) : Bool × Int := if 9223372036854775807 < q then (true, 0) else (false, if neg then -q else q)
theorem scaled_eq (k : Nat) (neg : Bool) (a b c : Int) (hk : 20 < k) (a0 : 0 ≤ a) (a1 : a < 18446744073709551616) (b0 : 0 ≤ b) (b1 : b < 18446744073709551616) (c0 : 0 < c) (c1 : c < 18446744073709551616) :
  fix_scaled.f k neg a b c = some (sgn neg (a * b / c)) := by
 have m0 : 0 ≤ a * b := Int.mul_nonneg a0 b0
 unfold fix_scaled.f bits_Mul64.f
 rw [if_pos ⟨a0, a1, b0, b1⟩, Option.bind_some]
 generalize a * b = p at *
 simp only
 by_cases h : p / 18446744073709551616 ≥ c
 ·rw [if_pos h]
  have : 18446744073709551616 ≤ p / c := by
   rw [Int.le_ediv_iff_mul_le c0]
   omega
  unfold sgn
  rw [if_pos (by omega)]
  rfl
 ·rw [if_neg h]
  obtain ⟨rem, e⟩ := div64 k (p / 18446744073709551616) (p % 18446744073709551616) c hk (by omega) (by omega) c1 (by omega) (by omega)
  rw [e, Option.bind_some, show p / 18446744073709551616 * 18446744073709551616 + p % 18446744073709551616 = p by omega]
  have q0 : 0 ≤ p / c := Int.ediv_nonneg m0 (by omega)
  generalize p / c = q at *
  unfold sgn
  simp only
  by_cases g : q > 9223372036854775807
  ·rw [if_pos g, if_pos (by omega)]
   rfl
  ·have w1 : wrap64 q = q := wrap_id (by omega) (by omega)
   have w2 : wrap64 (-q) = -q := wrap_id (by omega) (by omega)
   have g2 : ¬ 9223372036854775807 < q := by omega
   rw [if_neg g, if_neg g2, w1, w2]
   cases neg <;> rfl
end Go.Proofs.YtnjobjogddjelaaGreatDoor.PureN
end

section
namespace Go.Proofs.YtnjobjogddjelaaGreatDoor.Print
open Go.RowKit Go.Proofs.YtnjobjogddjelaaGreatDoorX Go.Proofs.YtnjobjogddjelaaGreatDoorW.PrintWords Go.Proofs.YtnjobjogddjelaaGreatDoorW.PrintLast Go.Proofs.YtnjobjogddjelaaGreatDoorW.PrintMore
attribute [local go_sem] max2_int min2_int max_two min_two max_three min_three max_four min_four

/-! ### fix_digits: function 61 -/
def fix_digits.l0 : Nat → ByteArray → Int → Int → Int → Int → Option (Bool)
 | 0, _, _, _, _, _ => none
 | k + 1, x0, x1, x2, x9, x10 => if x10 < x9 then (if 0 ≤ x10 then (if x10 < (x0.size : Int) then (if (bt x0 x10) < 48 then (some false) else (if (bt x0 x10) > 57 then (some false) else (fix_digits.l0 k x0 x1 x2 x9 (wrap64 (x10 + 1))))) else (none)) else (none)) else (if (x0.size : Int) ≥ x1 then (some (decide ((x0.size : Int) ≤ x2))) else (some false))
def fix_digits.f (k : Nat) (a0 : ByteArray) (a1 : Int) (a2 : Int) : Option (Bool) := fix_digits.l0 k a0 a1 a2 (a0.size : Int) 0
theorem fix_digits.mono_l : ∀ k, (∀ y0 y1 y2 y3 y4, LeO (fix_digits.l0 k y0 y1 y2 y3 y4) (fix_digits.l0 (k + 1) y0 y1 y2 y3 y4))
 | 0 => fun _ _ _ _ _ r h => by simp [fix_digits.l0] at h
 | k + 1 => by
  have ih0 := fix_digits.mono_l k
  ·intro y0 y1 y2 y3 y4
   unfold fix_digits.l0
   repeat' first
   | (with_reducible exact ih0 _ _ _ _ _)
   | (with_reducible exact LeO.refl _)
   | (with_reducible exact LeO.none _)
   | (with_reducible refine LeO.ite ?_ ?_)
   | (with_reducible refine LeO.bind ?_ (fun _ => ?_))
   | exact ih0 _ _ _ _ _
   | exact LeO.none _
   | refine LeO.ite ?_ ?_
   | refine LeO.bind ?_ (fun _ => ?_)
theorem fix_digits.mono : ∀ a0 a1 a2 k, LeO (fix_digits.f k a0 a1 a2) (fix_digits.f (k + 1) a0 a1 a2) := by
 intro a0 a1 a2 k
 have ih0 := fix_digits.mono_l k
 unfold fix_digits.f
 repeat' first
   | (with_reducible exact ih0 _ _ _ _ _)
   | (with_reducible exact LeO.refl _)
   | (with_reducible exact LeO.none _)
   | (with_reducible refine LeO.ite ?_ ?_)
   | (with_reducible refine LeO.bind ?_ (fun _ => ?_))
   | exact ih0 _ _ _ _ _
   | exact LeO.none _
   | refine LeO.ite ?_ ?_
   | refine LeO.bind ?_ (fun _ => ?_)
set_option maxHeartbeats 8000000 in
set_option maxRecDepth 100000 in
theorem fix_digits.calls (k : Nat) (a0 : ByteArray) (a1 : Int) (a2 : Int) (r : Bool) (w : World) (h : fix_digits.f k a0 a1 a2 = some r) :
  Calls Tryz.prog 61 #[.string a0, .int .i64 a1, .int .i64 a2] w fun e w' => e = .returned (.bool r) ∧ Drawn0 w w' := by
 have H : (fix_digits.l0 k a0 a1 a2 (a0.size : Int) 0) = some r := h
 clear h
 have H' := Aside0.mk H
 clear H
 go_enter Tryz.func61, Tryz.ntmps61
 go_wp2
 go_loopg [10] k (fun kq v10 w' => ∃ (x10_1 : Int), v10 = .int .i64 x10_1 ∧ Aside0 (fix_digits.l0 kq a0 a1 a2 (a0.size : Int) x10_1 = some r) ∧ Aside0 (kq ≤ k) ∧ Drawn0 w w')
 case atStart => exact ⟨(0), (by first | rfl | (simp; done) | (simp [*]; done)), H', ⟨Nat.le_refl _⟩, by repeat (first | exact Drawn0.refl _ | apply Drawn0.step)⟩
 case round =>
  clear H'
  try clear p2
  obtain ⟨x10_1, rfl, HA, HK1, ⟨m1, rfl⟩⟩ := hrel
  cases gk with
  | zero => exact absurd HA.out (by simp [fix_digits.l0])
  | succ k1 =>
   have H := HA.out
   clear HA
   simp only [fix_digits.l0] at H
   by_cases c4 : x10_1 < (a0.size : Int)
   ·rw [if_pos c4] at H
    have c4b0 : decide (x10_1 < (a0.size : Int)) = true := decide_eq_true c4
    clear c4
    by_cases c5 : 0 ≤ x10_1
    ·rw [if_pos c5] at H
     have c5b0 : decide (0 ≤ x10_1) = true := decide_eq_true c5
     clear c5
     by_cases c6 : x10_1 < (a0.size : Int)
     ·rw [if_pos c6] at H
      have c6b0 : decide (x10_1 < (a0.size : Int)) = true := decide_eq_true c6
      clear c6
      by_cases c8 : (bt a0 x10_1) < 48
      ·rw [if_pos c8] at H
       have c8b0 : decide ((bt a0 x10_1) < 48) = true := decide_eq_true c8
       clear c8
       obtain rfl := Option.some.inj H
       have p7 : 0 ≤ (x10_1 : Int) := of_decide_eq_true (by first | (with_reducible assumption) | assumption)
       have q7 : x10_1 < (a0.size : Int) := of_decide_eq_true (by first | (with_reducible assumption) | assumption)
       have hx7 := bt_at a0 x10_1
       replace p7 := eq_true p7
       replace q7 := eq_true q7
       go_wp2
       go_ret
       exact ⟨by first | rfl | (simp; done) | (simp [*]; done), by repeat (first | exact Drawn0.refl _ | apply Drawn0.step)⟩
      ·rw [if_neg c8] at H
       have c8b0 : decide ((bt a0 x10_1) < 48) = false := decide_eq_false c8
       clear c8
       by_cases c10 : (bt a0 x10_1) > 57
       ·rw [if_pos c10] at H
        have c10b0 : decide (57 < (bt a0 x10_1)) = true := decide_eq_true c10
        clear c10
        obtain rfl := Option.some.inj H
        have p7 : 0 ≤ (x10_1 : Int) := of_decide_eq_true (by first | (with_reducible assumption) | assumption)
        have q7 : x10_1 < (a0.size : Int) := of_decide_eq_true (by first | (with_reducible assumption) | assumption)
        have hx7 := bt_at a0 x10_1
        replace p7 := eq_true p7
        replace q7 := eq_true q7
        have p9 : 0 ≤ (x10_1 : Int) := of_decide_eq_true (by first | (with_reducible assumption) | assumption)
        have q9 : x10_1 < (a0.size : Int) := of_decide_eq_true (by first | (with_reducible assumption) | assumption)
        have hx9 := bt_at a0 x10_1
        replace p9 := eq_true p9
        replace q9 := eq_true q9
        go_wp2
        go_ret
        exact ⟨by first | rfl | (simp; done) | (simp [*]; done), by repeat (first | exact Drawn0.refl _ | apply Drawn0.step)⟩
       ·rw [if_neg c10] at H
        have c10b0 : decide (57 < (bt a0 x10_1)) = false := decide_eq_false c10
        clear c10
        have H' := Aside0.mk H
        clear H
        have p7 : 0 ≤ (x10_1 : Int) := of_decide_eq_true (by first | (with_reducible assumption) | assumption)
        have q7 : x10_1 < (a0.size : Int) := of_decide_eq_true (by first | (with_reducible assumption) | assumption)
        have hx7 := bt_at a0 x10_1
        replace p7 := eq_true p7
        replace q7 := eq_true q7
        have p9 : 0 ≤ (x10_1 : Int) := of_decide_eq_true (by first | (with_reducible assumption) | assumption)
        have q9 : x10_1 < (a0.size : Int) := of_decide_eq_true (by first | (with_reducible assumption) | assumption)
        have hx9 := bt_at a0 x10_1
        replace p9 := eq_true p9
        replace q9 := eq_true q9
        go_wp2
        go_roundg k1
        case measure => have := HK1.out; omega
        case rel => exact ⟨(wrap64 (x10_1 + 1)), (by first | rfl | (simp; done) | (simp [*]; done)), H', ⟨by have := HK1.out; omega⟩, by repeat (first | exact Drawn0.refl _ | apply Drawn0.step)⟩
     ·rw [if_neg c6] at H
      exact absurd H (by simp)
    ·rw [if_neg c5] at H
     exact absurd H (by simp)
   ·rw [if_neg c4] at H
    have c4b0 : decide (x10_1 < (a0.size : Int)) = false := decide_eq_false c4
    clear c4
    by_cases c11 : (a0.size : Int) ≥ a1
    ·rw [if_pos c11] at H
     have c11b0 : decide (a1 ≤ (a0.size : Int)) = true := decide_eq_true c11
     clear c11
     obtain rfl := Option.some.inj H
     go_wp2
     go_ret
     exact ⟨by first | rfl | (simp; done) | (simp [*]; done), by repeat (first | exact Drawn0.refl _ | apply Drawn0.step)⟩
    ·rw [if_neg c11] at H
     have c11b0 : decide (a1 ≤ (a0.size : Int)) = false := decide_eq_false c11
     clear c11
     obtain rfl := Option.some.inj H
     go_wp2
     go_ret
     exact ⟨by first | rfl | (simp; done) | (simp [*]; done), by repeat (first | exact Drawn0.refl _ | apply Drawn0.step)⟩

end Go.Proofs.YtnjobjogddjelaaGreatDoor.Print
end

section
namespace Go.Proofs.YtnjobjogddjelaaGreatDoor.Print
open Go.RowKit Go.Proofs.YtnjobjogddjelaaGreatDoorX Go.Proofs.YtnjobjogddjelaaGreatDoorW.PrintWords Go.Proofs.YtnjobjogddjelaaGreatDoorW.PrintLast Go.Proofs.YtnjobjogddjelaaGreatDoorW.PrintMore
attribute [local go_sem] max2_int min2_int max_two min_two max_three min_three max_four min_four

/-! ### fix_Parse: function 44 -/
mutual
def fix_Parse.j0 : Nat → Bool → ByteArray → ByteArray → Int → Option (Bool × Int × Int)
 | 0, _, _, _, _ => none
 | k + 1, x5, x6, x7, x9 => (fix_digits.f k x6 1 13).bind fun t122 => (if t122 = true then (if (x6.size : Int) > 1 then (if 0 < (x6.size : Int) then (if (bt x6 0) = 48 then (fix_Parse.j1 k x5 x6 x7 true) else ((fix_digits.f k x7 x9 6).bind fun t123 => (fix_Parse.j1 k x5 x6 x7 (!t123)))) else (none)) else ((fix_digits.f k x7 x9 6).bind fun t124 => (fix_Parse.j1 k x5 x6 x7 (!t124)))) else (fix_Parse.j1 k x5 x6 x7 true))
def fix_Parse.j1 : Nat → Bool → ByteArray → ByteArray → Bool → Option (Bool × Int × Int)
 | 0, _, _, _, _ => none
 | k + 1, x5, x6, x7, x45 => if x45 = true then (some (false, 0, 20)) else (if x6.size + x7.size ≤ 9223372036854775807 then ((strings_Repeat.f (⟨#[48]⟩ : ByteArray) (wrap64 (6 - (x7.size : Int)))).bind fun t125 => (if (x6 ++ x7).size + t125.size ≤ 9223372036854775807 then ((strconv_ParseUint.f ((x6 ++ x7) ++ t125) 10 64).bind fun bt126 => (if bt126.2.isNone = true then (fix_Parse.j2 k x5 bt126.1 (decide (bt126.1 > 9223372036854775807))) else (fix_Parse.j2 k x5 bt126.1 true))) else (none))) else (none))
def fix_Parse.j2 : Nat → Bool → Int → Bool → Option (Bool × Int × Int)
 | 0, _, _, _ => none
 | k + 1, x5, x10, x64 => if x64 = true then ((fix_ovf.f).bind fun bt129 => (some (bt129.1, bt129.2, 0))) else ((fix_scaled.f k x5 x10 1 1).bind fun bt131 => (some (bt131.1, bt131.2, 0)))
end
def fix_Parse.f (k : Nat) (a0 : ByteArray) : Option (Bool × Int × Int) := if a0.toList = ([111, 118, 102] : List UInt8) then ((fix_ovf.f).bind fun bt115 => (some (bt115.1, bt115.2, 0))) else ((strings_CutPrefix.f a0 (⟨#[45]⟩ : ByteArray)).bind fun bt117 => ((strings_Cut.f bt117.1 (⟨#[46]⟩ : ByteArray)).bind fun bt119 => (if bt119.2.2 = true then (fix_Parse.j0 k bt117.2 bt119.1 bt119.2.1 1) else (fix_Parse.j0 k bt117.2 bt119.1 bt119.2.1 0))))
theorem fix_Parse.mono_l : ∀ k, (∀ y0 y1 y2 y3, LeO (fix_Parse.j0 k y0 y1 y2 y3) (fix_Parse.j0 (k + 1) y0 y1 y2 y3)) ∧ (∀ y0 y1 y2 y3, LeO (fix_Parse.j1 k y0 y1 y2 y3) (fix_Parse.j1 (k + 1) y0 y1 y2 y3)) ∧ (∀ y0 y1 y2, LeO (fix_Parse.j2 k y0 y1 y2) (fix_Parse.j2 (k + 1) y0 y1 y2))
 | 0 => ⟨fun _ _ _ _ r h => by simp [fix_Parse.j0] at h, fun _ _ _ _ r h => by simp [fix_Parse.j1] at h, fun _ _ _ r h => by simp [fix_Parse.j2] at h⟩
 | k + 1 => by
  obtain ⟨ih0, ih1, ih2⟩ := fix_Parse.mono_l k
  refine ⟨?_, ?_, ?_⟩
  ·intro y0 y1 y2 y3
   unfold fix_Parse.j0
   repeat' first
   | (with_reducible exact ih0 _ _ _ _)
   | (with_reducible exact ih1 _ _ _ _)
   | (with_reducible exact ih2 _ _ _)
   | (with_reducible exact fix_digits.mono _ _ _ _)
   | (with_reducible exact fix_scaled.mono _ _ _ _ _)
   | (with_reducible exact LeO.refl _)
   | (with_reducible exact LeO.none _)
   | (with_reducible refine LeO.ite ?_ ?_)
   | (with_reducible refine LeO.bind ?_ (fun _ => ?_))
   | exact ih0 _ _ _ _
   | exact ih1 _ _ _ _
   | exact ih2 _ _ _
   | exact fix_digits.mono _ _ _ _
   | exact fix_scaled.mono _ _ _ _ _
   | exact LeO.none _
   | refine LeO.ite ?_ ?_
   | refine LeO.bind ?_ (fun _ => ?_)
  ·intro y0 y1 y2 y3
   unfold fix_Parse.j1
   repeat' first
   | (with_reducible exact ih0 _ _ _ _)
   | (with_reducible exact ih1 _ _ _ _)
   | (with_reducible exact ih2 _ _ _)
   | (with_reducible exact fix_digits.mono _ _ _ _)
   | (with_reducible exact fix_scaled.mono _ _ _ _ _)
   | (with_reducible exact LeO.refl _)
   | (with_reducible exact LeO.none _)
   | (with_reducible refine LeO.ite ?_ ?_)
   | (with_reducible refine LeO.bind ?_ (fun _ => ?_))
   | exact ih0 _ _ _ _
   | exact ih1 _ _ _ _
   | exact ih2 _ _ _
   | exact fix_digits.mono _ _ _ _
   | exact fix_scaled.mono _ _ _ _ _
   | exact LeO.none _
   | refine LeO.ite ?_ ?_
   | refine LeO.bind ?_ (fun _ => ?_)
  ·intro y0 y1 y2
   unfold fix_Parse.j2
   repeat' first
   | (with_reducible exact ih0 _ _ _ _)
   | (with_reducible exact ih1 _ _ _ _)
   | (with_reducible exact ih2 _ _ _)
   | (with_reducible exact fix_digits.mono _ _ _ _)
   | (with_reducible exact fix_scaled.mono _ _ _ _ _)
   | (with_reducible exact LeO.refl _)
   | (with_reducible exact LeO.none _)
   | (with_reducible refine LeO.ite ?_ ?_)
   | (with_reducible refine LeO.bind ?_ (fun _ => ?_))
   | exact ih0 _ _ _ _
   | exact ih1 _ _ _ _
   | exact ih2 _ _ _
   | exact fix_digits.mono _ _ _ _
   | exact fix_scaled.mono _ _ _ _ _
   | exact LeO.none _
   | refine LeO.ite ?_ ?_
   | refine LeO.bind ?_ (fun _ => ?_)
theorem fix_Parse.mono : ∀ a0 k, LeO (fix_Parse.f k a0) (fix_Parse.f (k + 1) a0) := by
 intro a0 k
 obtain ⟨ih0, ih1, ih2⟩ := fix_Parse.mono_l k
 unfold fix_Parse.f
 repeat' first
   | (with_reducible exact ih0 _ _ _ _)
   | (with_reducible exact ih1 _ _ _ _)
   | (with_reducible exact ih2 _ _ _)
   | (with_reducible exact fix_digits.mono _ _ _ _)
   | (with_reducible exact fix_scaled.mono _ _ _ _ _)
   | (with_reducible exact LeO.refl _)
   | (with_reducible exact LeO.none _)
   | (with_reducible refine LeO.ite ?_ ?_)
   | (with_reducible refine LeO.bind ?_ (fun _ => ?_))
   | exact ih0 _ _ _ _
   | exact ih1 _ _ _ _
   | exact ih2 _ _ _
   | exact fix_digits.mono _ _ _ _
   | exact fix_scaled.mono _ _ _ _ _
   | exact LeO.none _
   | refine LeO.ite ?_ ?_
   | refine LeO.bind ?_ (fun _ => ?_)
set_option maxHeartbeats 8000000 in
set_option maxRecDepth 100000 in
theorem fix_Parse.calls (k : Nat) (a0 : ByteArray) (r1 : Bool) (r2 : Int) (r3 : Int) (w : World) (hg_ : LaidW w) (h : fix_Parse.f k a0 = some (r1, r2, r3)) :
  Calls Tryz.prog 44 #[.string a0] w fun e w' => e = .returned (.tuple #[.agg #[.bool r1, .int .i64 r2], .int .i64 r3]) ∧ Below w.heap.size w w' := by
 have HLW := Aside0.mk hg_
 clear hg_
 have hu34 := Tryz.underlying34
 have hu63 := Tryz.underlying63
 have HB := Aside0.mk (Below.refl w.heap.size w)
 have H : (if a0.toList = ([111, 118, 102] : List UInt8) then ((fix_ovf.f).bind fun bt115 => (some (bt115.1, bt115.2, 0))) else ((strings_CutPrefix.f a0 (⟨#[45]⟩ : ByteArray)).bind fun bt117 => ((strings_Cut.f bt117.1 (⟨#[46]⟩ : ByteArray)).bind fun bt119 => (if bt119.2.2 = true then (fix_Parse.j0 k bt117.2 bt119.1 bt119.2.1 1) else (fix_Parse.j0 k bt117.2 bt119.1 bt119.2.1 0))))) = some (r1, r2, r3) := h
 clear h
 by_cases c2 : a0.toList = ([111, 118, 102] : List UInt8)
 ·rw [if_pos c2] at H
  have c2b0 : (a0.toList == ([111, 118, 102] : List UInt8)) = true := beq_iff_eq.mpr c2
  have c2b1 : (a0.toList != ([111, 118, 102] : List UInt8)) = false := bne_eq_false_iff_eq.mpr c2
  clear c2
  replace H := Option.bind_eq_some_iff.mp H
  obtain ⟨⟨t115, t116⟩, A30, H⟩ := H
  replace H : (some (t115, t116, 0)) = some (r1, r2, r3) := H
  have A3 := Aside0.mk A30
  clear A30
  simp only [Option.some.injEq, Prod.mk.injEq] at H
  obtain ⟨rfl, rfl, rfl⟩ := H
  go_enter Tryz.func44, Tryz.ntmps44
  go_wp2_with (first | ((with_reducible refine gate_dst (N := 2) rfl ?_); (try (refine gate_guard (by rfl) ?_; dsimp only)); refine box_event ?hg (N := 2) ?hd (cs := #[.bool false, .int .i64 0]) (t := 34) ?hr ?_; (case hd => rfl); (case hg => rfl); (case hr => first | (go_simp; done) | (go_simp; rfl)); intro gb114 hg w4 hbox hb; have n0_ := Aside0.mk (below_step (by repeat (first | (with_reducible first | exact HB.out | apply below_alloc | apply pw_below_drewN | apply below_drew1) | exact HB.out)) hb); have n1_ := Aside0.mk (hbox); have n2_ := Aside0.mk ((by rw [hg]; exact (below_size (by repeat (first | (with_reducible first | exact HB.out | apply below_alloc | apply pw_below_drewN | apply below_drew1) | exact HB.out))) : w.heap.size ≤ gb114)); have n3_ := Aside0.mk ((by rw [hg]; exact (below_size (by repeat (first | (with_reducible first | exact HB.out | apply below_alloc | apply pw_below_drewN | apply below_drew1) | exact HB.out))) : w.heap.size ≤ gb114)); clear HB; have HB := n0_; have BK114 := n1_; have GW114 := n2_; have GE114 := n3_; clear n0_ n1_ n2_ n3_; clear hb hbox hg) | ((with_reducible refine gate_callee (f := 58) rfl ?_); refine goesL_ (some 14) rfl rfl Tryz.func58 (by kernel_rfl) rfl #[] rfl (by (try simp only [List.map_toArray, List.map_cons, List.map_nil]); first | done | rfl | (simp only [List.length_drop, List.length_take]; rfl)) ?_; (with_reducible refine (fix_ovf.calls  t115 t116 _ A3.out).mono ?_); rintro e w5 ⟨rfl, hb⟩; refine ⟨_, rfl, ?_⟩; have n0_ := Aside0.mk (blk_below (g := gb114) (o := .cells #[.bool false, .int .i64 0] 34 (0, 0)) (by (with_reducible repeat (first | refine blk_drewN ?_ _ | refine blk_drew ?_ | refine blk_alloc ?_ _)); exact BK114.out) hb); have n1_ := Aside0.mk (below_step (by repeat (first | (with_reducible first | exact HB.out | apply below_alloc | apply pw_below_drewN | apply below_drew1 | refine below_set ?_ GE114.out) | exact HB.out)) hb); clear BK114; clear HB; have BK114 := n0_; have HB := n1_; clear n0_ n1_; (try clear hb); (try clear hb2); (try clear hk); (try clear hi); have hcz6_0 : w5.cell? ⟨gb114, 0, none⟩ = some (.bool false) := (blk_cell BK114.out 0).trans rfl; have hcz6_1 : w5.cell? ⟨gb114, 1, none⟩ = some (.int .i64 0) := (blk_cell BK114.out 1).trans rfl; have hfz6_0 := blk_frozen BK114.out 0; have hfz6_1 := blk_frozen BK114.out 1))
  refine bodyPost_ret (results_ct rfl _ _ gb114 34 #[.bool t115, .int .i64 t116] (0, 0) _ rfl (by (with_reducible repeat (first | refine blk_drewN ?_ _ | refine blk_drew ?_ | refine blk_alloc ?_ _)); refine blk_put (cs := #[.bool t115, .int .i64 0]) ?_ 1 _ rfl; (with_reducible repeat (first | refine blk_drewN ?_ _ | refine blk_drew ?_ | refine blk_alloc ?_ _)); refine blk_put (cs := #[.bool false, .int .i64 0]) ?_ 0 _ rfl; (with_reducible repeat (first | refine blk_drewN ?_ _ | refine blk_drew ?_ | refine blk_alloc ?_ _)); exact BK114.out) Tryz.underlying34 rfl (by kernel_rfl)) rfl ?_
  exact ⟨by first | rfl | (simp [errW_none, errW_some] <;> rfl) | (simp [*, errW_none, errW_some] <;> rfl), by repeat (first | (with_reducible first | exact HB.out | apply below_alloc | apply pw_below_drewN | apply below_drew1 | refine below_set ?_ GE114.out) | exact HB.out)⟩
 ·rw [if_neg c2] at H
  have c2b0 : (a0.toList == ([111, 118, 102] : List UInt8)) = false := beq_eq_false_iff_ne.mpr c2
  have c2b1 : (a0.toList != ([111, 118, 102] : List UInt8)) = true := bne_iff_ne.mpr c2
  replace H := Option.bind_eq_some_iff.mp H
  obtain ⟨⟨t117, t118⟩, A70, H⟩ := H
  replace H : ((strings_Cut.f t117 (⟨#[46]⟩ : ByteArray)).bind fun bt119 => (if bt119.2.2 = true then (fix_Parse.j0 k t118 bt119.1 bt119.2.1 1) else (fix_Parse.j0 k t118 bt119.1 bt119.2.1 0))) = some (r1, r2, r3) := H
  have A7 := Aside0.mk A70
  clear A70
  replace H := Option.bind_eq_some_iff.mp H
  obtain ⟨⟨t119, t120, t121⟩, A80, H⟩ := H
  replace H : (if t121 = true then (fix_Parse.j0 k t118 t119 t120 1) else (fix_Parse.j0 k t118 t119 t120 0)) = some (r1, r2, r3) := H
  have A8 := Aside0.mk A80
  clear A80
  have HC9 := Aside0.mk H
  clear H
  go_enter Tryz.func44, Tryz.ntmps44
  go_upto_if 26 with (first | ((with_reducible refine gate_dst (N := 2) rfl ?_); (try (refine gate_guard (by rfl) ?_; dsimp only)); refine box_event ?hg (N := 2) ?hd (cs := #[.bool false, .int .i64 0]) (t := 34) ?hr ?_; (case hd => rfl); (case hg => rfl); (case hr => first | (go_simp; done) | (go_simp; rfl)); intro gb114 hg w10 hbox hb; have n0_ := Aside0.mk (below_step (by repeat (first | (with_reducible first | exact HB.out | apply below_alloc | apply pw_below_drewN | apply below_drew1) | exact HB.out)) hb); have n1_ := Aside0.mk (hbox); have n2_ := Aside0.mk ((by rw [hg]; exact (below_size (by repeat (first | (with_reducible first | exact HB.out | apply below_alloc | apply pw_below_drewN | apply below_drew1) | exact HB.out))) : w.heap.size ≤ gb114)); have n3_ := Aside0.mk ((by rw [hg]; exact (below_size (by repeat (first | (with_reducible first | exact HB.out | apply below_alloc | apply pw_below_drewN | apply below_drew1) | exact HB.out))) : w.heap.size ≤ gb114)); clear HB; have HB := n0_; have BK114 := n1_; have GW114 := n2_; have GE114 := n3_; clear n0_ n1_ n2_ n3_; clear hb hbox hg) | ((with_reducible refine gate_callee (f := 59) rfl ?_); refine goesL_ (some 17) rfl rfl Tryz.func59 (by kernel_rfl) rfl #[.string a0, .string (⟨#[45]⟩ : ByteArray)] rfl (by (try simp only [List.map_toArray, List.map_cons, List.map_nil]); first | done | rfl | (simp only [List.length_drop, List.length_take]; rfl)) ?_; (with_reducible refine (strings_CutPrefix.calls a0 (⟨#[45]⟩ : ByteArray) t117 t118 _ A7.out).mono ?_); rintro e w' ⟨rfl, ⟨nd, rfl⟩⟩; refine ⟨_, rfl, ?_⟩) | ((with_reducible refine gate_callee (f := 60) rfl ?_); refine goesL_ (some 22) rfl rfl Tryz.func60 (by kernel_rfl) rfl #[.string t117, .string (⟨#[46]⟩ : ByteArray)] rfl (by (try simp only [List.map_toArray, List.map_cons, List.map_nil]); first | done | rfl | (simp only [List.length_drop, List.length_take]; rfl)) ?_; (with_reducible refine (strings_Cut.calls t117 (⟨#[46]⟩ : ByteArray) t119 t120 t121 _ ?side1 A8.out).mono ?_); (case side1 => exact LaidW.below HLW.out (by repeat (first | (with_reducible first | exact HB.out | apply below_alloc | apply pw_below_drewN | apply below_drew1) | exact HB.out | (refine below_set ?_ (Aside0.out ?hge); (case hge => assumption))))); rintro e w11 ⟨rfl, hb⟩; refine ⟨_, rfl, ?_⟩; have n0_ := Aside0.mk (blk_below (g := gb114) (o := .cells #[.bool false, .int .i64 0] 34 (0, 0)) (by (with_reducible repeat (first | refine blk_drewN ?_ _ | refine blk_drew ?_ | refine blk_alloc ?_ _)); exact BK114.out) hb); have n1_ := Aside0.mk (below_step (by repeat (first | (with_reducible first | exact HB.out | apply below_alloc | apply pw_below_drewN | apply below_drew1 | refine below_set ?_ GE114.out) | exact HB.out)) hb); clear BK114; clear HB; have BK114 := n0_; have HB := n1_; clear n0_ n1_; (try clear hb); (try clear hb2); (try clear hk); (try clear hi)))
  (try simp only [Act.put, List.setIfInBounds_toArray, List.set_cons_zero, List.set_cons_succ])
  go_cut [9] (fun v9 wc => ∃ (kq : Nat) (x9_8 : Int), v9 = .int .i64 x9_8 ∧ Aside0 (fix_Parse.j0 kq t118 t119 t120 x9_8 = some (r1, r2, r3)) ∧ Aside0 (kq ≤ k) ∧ Aside0 (wc.heap[gb114]? = some (.cells #[.bool false, .int .i64 0] 34 (0, 0))) ∧ Aside0 (Below w.heap.size w wc))
  case first =>
   have H := HC9.out
   clear HC9
   by_cases c12 : t121 = true
   ·subst c12
    have H1 : (fix_Parse.j0 k t118 t119 t120 1) = some (r1, r2, r3) := by rw [if_pos rfl] at H; exact H
    clear H
    have H := H1
    clear H1
    have H' := Aside0.mk H
    clear H
    go_wp2
    go_meet
    case rel => exact ⟨_, (1), (by first | rfl | (simp; done) | (simp [*]; done)), H', ⟨by first | omega | exact Nat.le_refl _⟩, ⟨by (with_reducible repeat (first | refine blk_drewN ?_ _ | refine blk_drew ?_ | refine blk_alloc ?_ _)); exact BK114.out⟩, ⟨by repeat (first | (with_reducible first | exact HB.out | apply below_alloc | apply pw_below_drewN | apply below_drew1 | refine below_set ?_ GE114.out) | exact HB.out)⟩⟩
   ·replace c12 := Bool.eq_false_iff.mpr c12
    subst c12
    have H1 : (fix_Parse.j0 k t118 t119 t120 0) = some (r1, r2, r3) := by rw [if_neg (show ¬ (false = true) by decide)] at H; exact H
    clear H
    have H := H1
    clear H1
    have H' := Aside0.mk H
    clear H
    go_wp2
    go_meet
    case rel => exact ⟨_, (0), (by first | rfl | (simp; done) | (simp [*]; done)), H', ⟨by first | omega | exact Nat.le_refl _⟩, ⟨by (with_reducible repeat (first | refine blk_drewN ?_ _ | refine blk_drew ?_ | refine blk_alloc ?_ _)); exact BK114.out⟩, ⟨by repeat (first | (with_reducible first | exact HB.out | apply below_alloc | apply pw_below_drewN | apply below_drew1 | refine below_set ?_ GE114.out) | exact HB.out)⟩⟩
  case rest =>
   clear HC9
   try clear c1
   try clear c2
   try clear c2b0
   try clear c2b1
   try clear p2
   try clear c4
   try clear c5
   try clear c6
   try clear c12
   try clear hcz6_0
   try clear hcz6_1
   try clear hfz6_0
   try clear hfz6_1
   obtain ⟨kq, x9_8, rfl, HA, HJ8, BK114, HB⟩ := hcut
   cases kq with
   | zero => exact absurd HA.out (by simp [fix_Parse.j0])
   | succ kj8 =>
    have H := HA.out
    clear HA
    simp only [fix_Parse.j0] at H
    have HC13 := Aside0.mk H
    clear H
    go_upto_region 8 with (fail)
    go_cut [45] (fun v45 wc => ∃ (kq : Nat) (x45_12 : Bool), v45 = .bool x45_12 ∧ Aside0 (fix_Parse.j1 kq t118 t119 t120 x45_12 = some (r1, r2, r3)) ∧ Aside0 (kq ≤ kj8) ∧ Aside0 (wc.heap[gb114]? = some (.cells #[.bool false, .int .i64 0] 34 (0, 0))) ∧ Aside0 (Below w.heap.size w wc))
    case first =>
     have H := HC13.out
     clear HC13
     replace H := Option.bind_eq_some_iff.mp H
     obtain ⟨t122, A140, H⟩ := H
     replace H : (if t122 = true then (if (t119.size : Int) > 1 then (if 0 < (t119.size : Int) then (if (bt t119 0) = 48 then (fix_Parse.j1 kj8 t118 t119 t120 true) else ((fix_digits.f kj8 t120 x9_8 6).bind fun t123 => (fix_Parse.j1 kj8 t118 t119 t120 (!t123)))) else (none)) else ((fix_digits.f kj8 t120 x9_8 6).bind fun t124 => (fix_Parse.j1 kj8 t118 t119 t120 (!t124)))) else (fix_Parse.j1 kj8 t118 t119 t120 true)) = some (r1, r2, r3) := H
     have A14 := Aside0.mk A140
     clear A140
     by_cases c15 : t122 = true
     ·subst c15
      have H1 : (if (t119.size : Int) > 1 then (if 0 < (t119.size : Int) then (if (bt t119 0) = 48 then (fix_Parse.j1 kj8 t118 t119 t120 true) else ((fix_digits.f kj8 t120 x9_8 6).bind fun t123 => (fix_Parse.j1 kj8 t118 t119 t120 (!t123)))) else (none)) else ((fix_digits.f kj8 t120 x9_8 6).bind fun t124 => (fix_Parse.j1 kj8 t118 t119 t120 (!t124)))) = some (r1, r2, r3) := by rw [if_pos rfl] at H; exact H
      clear H
      have H := H1
      clear H1
      by_cases c16 : (t119.size : Int) > 1
      ·rw [if_pos c16] at H
       have c16b0 : decide (1 < (t119.size : Int)) = true := decide_eq_true c16
       have c16b1 : decide (1 < t119.size) = true := decide_eq_true (by omega)
       clear c16
       (first | rw [c16b0] | (simp only [i64_w, i32_w]; rw [c16b0]) | skip)
       by_cases c17 : 0 < (t119.size : Int)
       ·rw [if_pos c17] at H
        have c17b0 : decide (0 < (t119.size : Int)) = true := decide_eq_true c17
        have c17b1 : decide (0 < t119.size) = true := decide_eq_true (by omega)
        clear c17
        by_cases c19 : (bt t119 0) = 48
        ·rw [if_pos c19] at H
         have c19b0 : ((bt t119 0) == 48) = true := beq_iff_eq.mpr c19
         have c19b1 : ((bt t119 0) != 48) = false := bne_eq_false_iff_eq.mpr c19
         clear c19
         have H' := Aside0.mk H
         clear H
         go_wp2_with (first | ((with_reducible refine gate_callee (f := 61) rfl ?_); refine goesL_ (some 28) rfl rfl Tryz.func61 (by kernel_rfl) rfl #[.string t119, .int .i64 1, .int .i64 13] rfl (by (try simp only [List.map_toArray, List.map_cons, List.map_nil]); first | done | rfl | (simp only [List.length_drop, List.length_take]; rfl)) ?_; (with_reducible refine (fix_digits.calls kj8 t119 1 13 true _ A14.out).mono ?_); rintro e w' ⟨rfl, ⟨nd, rfl⟩⟩; refine ⟨_, rfl, ?_⟩; have p18 : 0 ≤ (0 : Int) := (by omega); have q18 : 0 < t119.size := (by have : (0 : Int) < (t119.size : Int) := of_decide_eq_true (by first | (with_reducible assumption) | assumption); omega); have hx18 : ∀ h : 0 < t119.size, ((t119[0]'h).toNat : Int) = bt t119 0 := bt_at t119 0; clear p18; have qi18 : (0 < (t119.size : Int)) = True := eq_true (of_decide_eq_true (by first | (with_reducible assumption) | assumption)); replace q18 := eq_true q18))
         go_meet
         case rel => exact ⟨_, (true), (by first | rfl | (simp; done) | (simp [*]; done)), H', ⟨by have := HJ8.out; first | omega | exact Nat.le_refl _⟩, ⟨by (with_reducible repeat (first | refine blk_drewN ?_ _ | refine blk_drew ?_ | refine blk_alloc ?_ _)); exact BK114.out⟩, ⟨by repeat (first | (with_reducible first | exact HB.out | apply below_alloc | apply pw_below_drewN | apply below_drew1 | refine below_set ?_ GE114.out) | exact HB.out)⟩⟩
        ·rw [if_neg c19] at H
         have c19b0 : ((bt t119 0) == 48) = false := beq_eq_false_iff_ne.mpr c19
         have c19b1 : ((bt t119 0) != 48) = true := bne_iff_ne.mpr c19
         replace H := Option.bind_eq_some_iff.mp H
         obtain ⟨t123, A200, H⟩ := H
         replace H : (fix_Parse.j1 kj8 t118 t119 t120 (!t123)) = some (r1, r2, r3) := H
         have A20 := Aside0.mk A200
         clear A200
         have H' := Aside0.mk H
         clear H
         go_wp2_with (first | ((with_reducible refine gate_callee (f := 61) rfl ?_); refine goesL_ (some 28) rfl rfl Tryz.func61 (by kernel_rfl) rfl #[.string t119, .int .i64 1, .int .i64 13] rfl (by (try simp only [List.map_toArray, List.map_cons, List.map_nil]); first | done | rfl | (simp only [List.length_drop, List.length_take]; rfl)) ?_; (with_reducible refine (fix_digits.calls kj8 t119 1 13 true _ A14.out).mono ?_); rintro e w' ⟨rfl, ⟨nd, rfl⟩⟩; refine ⟨_, rfl, ?_⟩; have p18 : 0 ≤ (0 : Int) := (by omega); have q18 : 0 < t119.size := (by have : (0 : Int) < (t119.size : Int) := of_decide_eq_true (by first | (with_reducible assumption) | assumption); omega); have hx18 : ∀ h : 0 < t119.size, ((t119[0]'h).toNat : Int) = bt t119 0 := bt_at t119 0; clear p18; have qi18 : (0 < (t119.size : Int)) = True := eq_true (of_decide_eq_true (by first | (with_reducible assumption) | assumption)); replace q18 := eq_true q18) | (go_at_call 61; (with_reducible refine (fix_digits.calls kj8 t120 x9_8 6 t123 _ A20.out).mono ?_); rintro e w' ⟨rfl, ⟨nd, rfl⟩⟩))
         go_meet
         case rel => exact ⟨_, (!t123), (by first | rfl | (simp; done) | (simp [*]; done)), H', ⟨by have := HJ8.out; first | omega | exact Nat.le_refl _⟩, ⟨by (with_reducible repeat (first | refine blk_drewN ?_ _ | refine blk_drew ?_ | refine blk_alloc ?_ _)); exact BK114.out⟩, ⟨by repeat (first | (with_reducible first | exact HB.out | apply below_alloc | apply pw_below_drewN | apply below_drew1 | refine below_set ?_ GE114.out) | exact HB.out)⟩⟩
       ·rw [if_neg c17] at H
        exact absurd H (by simp)
      ·rw [if_neg c16] at H
       have c16b0 : decide (1 < (t119.size : Int)) = false := decide_eq_false c16
       have c16b1 : decide (1 < t119.size) = false := decide_eq_false (by omega)
       clear c16
       (first | rw [c16b0] | (simp only [i64_w, i32_w]; rw [c16b0]) | skip)
       replace H := Option.bind_eq_some_iff.mp H
       obtain ⟨t124, A210, H⟩ := H
       replace H : (fix_Parse.j1 kj8 t118 t119 t120 (!t124)) = some (r1, r2, r3) := H
       have A21 := Aside0.mk A210
       clear A210
       have H' := Aside0.mk H
       clear H
       go_wp2_with (first | ((with_reducible refine gate_callee (f := 61) rfl ?_); refine goesL_ (some 28) rfl rfl Tryz.func61 (by kernel_rfl) rfl #[.string t119, .int .i64 1, .int .i64 13] rfl (by (try simp only [List.map_toArray, List.map_cons, List.map_nil]); first | done | rfl | (simp only [List.length_drop, List.length_take]; rfl)) ?_; (with_reducible refine (fix_digits.calls kj8 t119 1 13 true _ A14.out).mono ?_); rintro e w' ⟨rfl, ⟨nd, rfl⟩⟩; refine ⟨_, rfl, ?_⟩) | (go_at_call 61; (with_reducible refine (fix_digits.calls kj8 t120 x9_8 6 t124 _ A21.out).mono ?_); rintro e w' ⟨rfl, ⟨nd, rfl⟩⟩))
       go_meet
       case rel => exact ⟨_, (!t124), (by first | rfl | (simp; done) | (simp [*]; done)), H', ⟨by have := HJ8.out; first | omega | exact Nat.le_refl _⟩, ⟨by (with_reducible repeat (first | refine blk_drewN ?_ _ | refine blk_drew ?_ | refine blk_alloc ?_ _)); exact BK114.out⟩, ⟨by repeat (first | (with_reducible first | exact HB.out | apply below_alloc | apply pw_below_drewN | apply below_drew1 | refine below_set ?_ GE114.out) | exact HB.out)⟩⟩
     ·replace c15 := Bool.eq_false_iff.mpr c15
      subst c15
      have H1 : (fix_Parse.j1 kj8 t118 t119 t120 true) = some (r1, r2, r3) := by rw [if_neg (show ¬ (false = true) by decide)] at H; exact H
      clear H
      have H := H1
      clear H1
      have H' := Aside0.mk H
      clear H
      go_wp2_with (first | ((with_reducible refine gate_callee (f := 61) rfl ?_); refine goesL_ (some 28) rfl rfl Tryz.func61 (by kernel_rfl) rfl #[.string t119, .int .i64 1, .int .i64 13] rfl (by (try simp only [List.map_toArray, List.map_cons, List.map_nil]); first | done | rfl | (simp only [List.length_drop, List.length_take]; rfl)) ?_; (with_reducible refine (fix_digits.calls kj8 t119 1 13 false _ A14.out).mono ?_); rintro e w' ⟨rfl, ⟨nd, rfl⟩⟩; refine ⟨_, rfl, ?_⟩))
      go_meet
      case rel => exact ⟨_, (true), (by first | rfl | (simp; done) | (simp [*]; done)), H', ⟨by have := HJ8.out; first | omega | exact Nat.le_refl _⟩, ⟨by (with_reducible repeat (first | refine blk_drewN ?_ _ | refine blk_drew ?_ | refine blk_alloc ?_ _)); exact BK114.out⟩, ⟨by repeat (first | (with_reducible first | exact HB.out | apply below_alloc | apply pw_below_drewN | apply below_drew1 | refine below_set ?_ GE114.out) | exact HB.out)⟩⟩
    case rest =>
     clear HC13
     try clear c1
     try clear p1
     try clear q1
     try clear hx1
     try clear qi1
     try clear c2
     try clear c2b0
     try clear c2b1
     try clear p2
     try clear c4
     try clear c5
     try clear c6
     try clear c12
     try clear c15
     try clear c16
     try clear c16b0
     try clear c16b1
     try clear c17
     try clear c17b0
     try clear c17b1
     try clear p18
     try clear q18
     try clear hx18
     try clear qi18
     try clear c19
     try clear c19b0
     try clear c19b1
     try clear hcz6_0
     try clear hcz6_1
     try clear hfz6_0
     try clear hfz6_1
     try clear p18
     try clear p2
     try clear q18
     obtain ⟨kq, x45_12, rfl, HA, HJ12, BK114, HB⟩ := hcut
     cases kq with
     | zero => exact absurd HA.out (by simp [fix_Parse.j1])
     | succ kj12 =>
      have H := HA.out
      clear HA
      simp only [fix_Parse.j1] at H
      by_cases c22 : x45_12 = true
      ·subst c22
       have H1 : (some (false, 0, 20)) = some (r1, r2, r3) := by rw [if_pos rfl] at H; exact H
       clear H
       have H := H1
       clear H1
       simp only [Option.some.injEq, Prod.mk.injEq] at H
       obtain ⟨rfl, rfl, rfl⟩ := H
       have hcz23_0 : wc.cell? ⟨gb114, 0, none⟩ = some (.bool false) := (blk_cell BK114.out 0).trans rfl
       have hcz23_1 : wc.cell? ⟨gb114, 1, none⟩ = some (.int .i64 0) := (blk_cell BK114.out 1).trans rfl
       have hfz23_0 := blk_frozen BK114.out 0
       have hfz23_1 := blk_frozen BK114.out 1
       go_wp2
       refine bodyPost_ret (results_ct rfl _ _ gb114 34 #[.bool false, .int .i64 0] (0, 0) _ rfl (by (with_reducible repeat (first | refine blk_drewN ?_ _ | refine blk_drew ?_ | refine blk_alloc ?_ _)); refine blk_put (cs := #[.bool false, .int .i64 0]) ?_ 1 _ rfl; (with_reducible repeat (first | refine blk_drewN ?_ _ | refine blk_drew ?_ | refine blk_alloc ?_ _)); refine blk_put (cs := #[.bool false, .int .i64 0]) ?_ 0 _ rfl; (with_reducible repeat (first | refine blk_drewN ?_ _ | refine blk_drew ?_ | refine blk_alloc ?_ _)); exact BK114.out) Tryz.underlying34 rfl (by kernel_rfl)) rfl ?_
       exact ⟨by first | rfl | (simp [errW_none, errW_some] <;> rfl) | (simp [*, errW_none, errW_some] <;> rfl), by repeat (first | (with_reducible first | exact HB.out | apply below_alloc | apply pw_below_drewN | apply below_drew1 | refine below_set ?_ GE114.out) | exact HB.out)⟩
      ·replace c22 := Bool.eq_false_iff.mpr c22
       subst c22
       have H1 : (if t119.size + t120.size ≤ 9223372036854775807 then ((strings_Repeat.f (⟨#[48]⟩ : ByteArray) (wrap64 (6 - (t120.size : Int)))).bind fun t125 => (if (t119 ++ t120).size + t125.size ≤ 9223372036854775807 then ((strconv_ParseUint.f ((t119 ++ t120) ++ t125) 10 64).bind fun bt126 => (if bt126.2.isNone = true then (fix_Parse.j2 kj12 t118 bt126.1 (decide (bt126.1 > 9223372036854775807))) else (fix_Parse.j2 kj12 t118 bt126.1 true))) else (none))) else (none)) = some (r1, r2, r3) := by rw [if_neg (show ¬ (false = true) by decide)] at H; exact H
       clear H
       have H := H1
       clear H1
       by_cases c24 : t119.size + t120.size ≤ 9223372036854775807
       ·rw [if_pos c24] at H
        have c24b0 := eq_true c24
        have c24b1 : decide (t119.size + t120.size ≤ 9223372036854775807) = true := decide_eq_true c24
        try have c24b2 : (9223372036854775807 < t119.size + t120.size) = False := eq_false (Nat.not_lt.2 c24)
        replace H := Option.bind_eq_some_iff.mp H
        obtain ⟨t125, A250, H⟩ := H
        replace H : (if (t119 ++ t120).size + t125.size ≤ 9223372036854775807 then ((strconv_ParseUint.f ((t119 ++ t120) ++ t125) 10 64).bind fun bt126 => (if bt126.2.isNone = true then (fix_Parse.j2 kj12 t118 bt126.1 (decide (bt126.1 > 9223372036854775807))) else (fix_Parse.j2 kj12 t118 bt126.1 true))) else (none)) = some (r1, r2, r3) := H
        have A25 := Aside0.mk A250
        clear A250
        by_cases c26 : (t119 ++ t120).size + t125.size ≤ 9223372036854775807
        ·rw [if_pos c26] at H
         have c26b0 := eq_true c26
         have c26b1 : decide ((t119 ++ t120).size + t125.size ≤ 9223372036854775807) = true := decide_eq_true c26
         try have c26b2 : (9223372036854775807 < (t119 ++ t120).size + t125.size) = False := eq_false (Nat.not_lt.2 c26)
         try (have c26b3 := c26; simp only [ByteArray.size_append, sz_one] at c26b3; have c26b4 := eq_false (Nat.not_lt.2 c26b3); clear c26b3)
         replace H := Option.bind_eq_some_iff.mp H
         obtain ⟨⟨t126, t127⟩, A270, H⟩ := H
         replace H : (if t127.isNone = true then (fix_Parse.j2 kj12 t118 t126 (decide (t126 > 9223372036854775807))) else (fix_Parse.j2 kj12 t118 t126 true)) = some (r1, r2, r3) := H
         have A27 := Aside0.mk A270
         clear A270
         have HC28 := Aside0.mk H
         clear H
         have ew_ : wrap64 (6 - (t120.size : Int)) = 6 - (t120.size : Int) := by (have h_ := c26; rw [ByteArray.size_append] at h_; unfold wrap64; omega)
         go_upto_region 11 with (first | ((with_reducible refine gate_callee (f := 63) rfl ?_); refine goesL_ (some 54) rfl rfl Tryz.func63 (by kernel_rfl) rfl #[.string (⟨#[48]⟩ : ByteArray), .int .i64 (wrap64 (6 - (t120.size : Int)))] rfl (by (try simp only [List.map_toArray, List.map_cons, List.map_nil]); first | done | rfl | (rw [ew_]; rfl) | (simp only [List.length_drop, List.length_take]; rfl)) ?_; (with_reducible refine (strings_Repeat.calls (⟨#[48]⟩ : ByteArray) (wrap64 (6 - (t120.size : Int))) t125 _ A25.out).mono ?_); rintro e w29 ⟨rfl, hb⟩; refine ⟨_, rfl, ?_⟩; have n0_ := Aside0.mk (blk_below (g := gb114) (o := .cells #[.bool false, .int .i64 0] 34 (0, 0)) (by (with_reducible repeat (first | refine blk_drewN ?_ _ | refine blk_drew ?_ | refine blk_alloc ?_ _)); exact BK114.out) hb); have n1_ := Aside0.mk (below_step (by repeat (first | (with_reducible first | exact HB.out | apply below_alloc | apply pw_below_drewN | apply below_drew1 | refine below_set ?_ GE114.out) | exact HB.out)) hb); clear BK114; clear HB; have BK114 := n0_; have HB := n1_; clear n0_ n1_; (try clear hb); (try clear hb2); (try clear hk); (try clear hi)) | ((with_reducible refine gate_callee (f := 62) rfl ?_); refine goesL_ (some 56) rfl rfl Tryz.func62 (by kernel_rfl) rfl #[.string ((t119 ++ t120) ++ t125), .int .i64 10, .int .i64 64] rfl (by (try simp only [List.map_toArray, List.map_cons, List.map_nil]); first | done | rfl | (simp only [List.length_drop, List.length_take]; rfl)) ?_; (with_reducible refine (strconv_ParseUint.calls ((t119 ++ t120) ++ t125) 10 64 t126 t127 _ A27.out).mono ?_); rintro e w30 ⟨rfl, hb⟩; refine ⟨_, rfl, ?_⟩; have n0_ := Aside0.mk (blk_below (g := gb114) (o := .cells #[.bool false, .int .i64 0] 34 (0, 0)) (by (with_reducible repeat (first | refine blk_drewN ?_ _ | refine blk_drew ?_ | refine blk_alloc ?_ _)); exact BK114.out) hb); have n1_ := Aside0.mk (below_step (by repeat (first | (with_reducible first | exact HB.out | apply below_alloc | apply pw_below_drewN | apply below_drew1 | refine below_set ?_ GE114.out) | exact HB.out)) hb); clear BK114; clear HB; have BK114 := n0_; have HB := n1_; clear n0_ n1_; (try clear hb); (try clear hb2); (try clear hk); (try clear hi); (try simp only [errW_none, errW_some])))
         (try simp only [Act.put, List.setIfInBounds_toArray, List.set_cons_zero, List.set_cons_succ])
         go_cut [64] (fun v64 wc => ∃ (kq : Nat) (x64_27 : Bool), v64 = .bool x64_27 ∧ Aside0 (fix_Parse.j2 kq t118 t126 x64_27 = some (r1, r2, r3)) ∧ Aside0 (kq ≤ kj12) ∧ Aside0 (wc.heap[gb114]? = some (.cells #[.bool false, .int .i64 0] 34 (0, 0))) ∧ Aside0 (Below w.heap.size w wc))
         case first =>
          have H := HC28.out
          clear HC28
          rcases t127 with _ | q128
          ·have H1 : (fix_Parse.j2 kj12 t118 t126 (decide (t126 > 9223372036854775807))) = some (r1, r2, r3) := by rw [if_pos (show (none : Option Int).isNone = true by rfl)] at H; exact H
           clear H
           have H := H1
           clear H1
           try simp only [errW_none, errW_some]
           have H' := Aside0.mk H
           clear H
           go_wp2
           go_meet
           case rel => exact ⟨_, (decide (t126 > 9223372036854775807)), (by first | rfl | (simp; done) | (simp [*]; done)), H', ⟨by have := HJ8.out; have := HJ12.out; first | omega | exact Nat.le_refl _⟩, ⟨by (with_reducible repeat (first | refine blk_drewN ?_ _ | refine blk_drew ?_ | refine blk_alloc ?_ _)); exact BK114.out⟩, ⟨by repeat (first | (with_reducible first | exact HB.out | apply below_alloc | apply pw_below_drewN | apply below_drew1 | refine below_set ?_ GE114.out) | exact HB.out)⟩⟩
          ·have H1 : (fix_Parse.j2 kj12 t118 t126 true) = some (r1, r2, r3) := by rw [if_neg (show ¬ (some q128).isNone = true by simp)] at H; exact H
           clear H
           have H := H1
           clear H1
           try simp only [errW_none, errW_some]
           have H' := Aside0.mk H
           clear H
           go_wp2
           go_meet
           case rel => exact ⟨_, (true), (by first | rfl | (simp; done) | (simp [*]; done)), H', ⟨by have := HJ8.out; have := HJ12.out; first | omega | exact Nat.le_refl _⟩, ⟨by (with_reducible repeat (first | refine blk_drewN ?_ _ | refine blk_drew ?_ | refine blk_alloc ?_ _)); exact BK114.out⟩, ⟨by repeat (first | (with_reducible first | exact HB.out | apply below_alloc | apply pw_below_drewN | apply below_drew1 | refine below_set ?_ GE114.out) | exact HB.out)⟩⟩
         case rest =>
          clear HC28
          try clear c1
          try clear p1
          try clear q1
          try clear hx1
          try clear qi1
          try clear c2
          try clear c2b0
          try clear c2b1
          try clear p2
          try clear c4
          try clear c5
          try clear c6
          try clear p6
          try clear c12
          try clear q12
          try clear c15
          try clear c16
          try clear c16b0
          try clear c16b1
          try clear c17
          try clear c17b0
          try clear c17b1
          try clear p18
          try clear q18
          try clear hx18
          try clear qi18
          try clear c19
          try clear c19b0
          try clear c19b1
          try clear c22
          try clear c24
          try clear c24b0
          try clear c24b1
          try clear c24b2
          try clear c26
          try clear c26b0
          try clear c26b1
          try clear c26b2
          try clear hcz23_0
          try clear hcz23_1
          try clear hcz6_0
          try clear hcz6_1
          try clear hfz23_0
          try clear hfz23_1
          try clear hfz6_0
          try clear hfz6_1
          try clear p1
          try clear p18
          try clear p2
          try clear q1
          try clear q128
          try clear q18
          obtain ⟨kq, x64_27, rfl, HA, HJ27, BK114, HB⟩ := hcut
          cases kq with
          | zero => exact absurd HA.out (by simp [fix_Parse.j2])
          | succ kj27 =>
           have H := HA.out
           clear HA
           simp only [fix_Parse.j2] at H
           by_cases c31 : x64_27 = true
           ·subst c31
            have H1 : ((fix_ovf.f).bind fun bt129 => (some (bt129.1, bt129.2, 0))) = some (r1, r2, r3) := by rw [if_pos rfl] at H; exact H
            clear H
            have H := H1
            clear H1
            replace H := Option.bind_eq_some_iff.mp H
            obtain ⟨⟨t129, t130⟩, A320, H⟩ := H
            replace H : (some (t129, t130, 0)) = some (r1, r2, r3) := H
            have A32 := Aside0.mk A320
            clear A320
            simp only [Option.some.injEq, Prod.mk.injEq] at H
            obtain ⟨rfl, rfl, rfl⟩ := H
            go_wp2_with (first | ((with_reducible refine gate_callee (f := 58) rfl ?_); refine goesL_ (some 65) rfl rfl Tryz.func58 (by kernel_rfl) rfl #[] rfl (by (try simp only [List.map_toArray, List.map_cons, List.map_nil]); first | done | rfl | (simp only [List.length_drop, List.length_take]; rfl)) ?_; (with_reducible refine (fix_ovf.calls  t129 t130 _ A32.out).mono ?_); rintro e w33 ⟨rfl, hb⟩; refine ⟨_, rfl, ?_⟩; have n0_ := Aside0.mk (blk_below (g := gb114) (o := .cells #[.bool false, .int .i64 0] 34 (0, 0)) (by (with_reducible repeat (first | refine blk_drewN ?_ _ | refine blk_drew ?_ | refine blk_alloc ?_ _)); exact BK114.out) hb); have n1_ := Aside0.mk (below_step (by repeat (first | (with_reducible first | exact HB.out | apply below_alloc | apply pw_below_drewN | apply below_drew1 | refine below_set ?_ GE114.out) | exact HB.out)) hb); clear BK114; clear HB; have BK114 := n0_; have HB := n1_; clear n0_ n1_; (try clear hb); (try clear hb2); (try clear hk); (try clear hi); have hcz34_0 : w33.cell? ⟨gb114, 0, none⟩ = some (.bool false) := (blk_cell BK114.out 0).trans rfl; have hcz34_1 : w33.cell? ⟨gb114, 1, none⟩ = some (.int .i64 0) := (blk_cell BK114.out 1).trans rfl; have hfz34_0 := blk_frozen BK114.out 0; have hfz34_1 := blk_frozen BK114.out 1))
            refine bodyPost_ret (results_ct rfl _ _ gb114 34 #[.bool t129, .int .i64 t130] (0, 0) _ rfl (by (with_reducible repeat (first | refine blk_drewN ?_ _ | refine blk_drew ?_ | refine blk_alloc ?_ _)); refine blk_put (cs := #[.bool t129, .int .i64 0]) ?_ 1 _ rfl; (with_reducible repeat (first | refine blk_drewN ?_ _ | refine blk_drew ?_ | refine blk_alloc ?_ _)); refine blk_put (cs := #[.bool false, .int .i64 0]) ?_ 0 _ rfl; (with_reducible repeat (first | refine blk_drewN ?_ _ | refine blk_drew ?_ | refine blk_alloc ?_ _)); exact BK114.out) Tryz.underlying34 rfl (by kernel_rfl)) rfl ?_
            exact ⟨by first | rfl | (simp [errW_none, errW_some] <;> rfl) | (simp [*, errW_none, errW_some] <;> rfl), by repeat (first | (with_reducible first | exact HB.out | apply below_alloc | apply pw_below_drewN | apply below_drew1 | refine below_set ?_ GE114.out) | exact HB.out)⟩
           ·replace c31 := Bool.eq_false_iff.mpr c31
            subst c31
            have H1 : ((fix_scaled.f kj27 t118 t126 1 1).bind fun bt131 => (some (bt131.1, bt131.2, 0))) = some (r1, r2, r3) := by rw [if_neg (show ¬ (false = true) by decide)] at H; exact H
            clear H
            have H := H1
            clear H1
            replace H := Option.bind_eq_some_iff.mp H
            obtain ⟨⟨t131, t132⟩, A350, H⟩ := H
            replace H : (some (t131, t132, 0)) = some (r1, r2, r3) := H
            have A35 := Aside0.mk A350
            clear A350
            simp only [Option.some.injEq, Prod.mk.injEq] at H
            obtain ⟨rfl, rfl, rfl⟩ := H
            go_wp2_with (first | ((with_reducible refine gate_callee (f := 64) rfl ?_); refine goesL_ (some 68) rfl rfl Tryz.func64 (by kernel_rfl) rfl #[.bool t118, .int .u64 t126, .int .u64 1, .int .u64 1] rfl (by (try simp only [List.map_toArray, List.map_cons, List.map_nil]); first | done | rfl | (simp only [List.length_drop, List.length_take]; rfl)) ?_; (with_reducible refine (fix_scaled.calls kj27 t118 t126 1 1 t131 t132 _ A35.out).mono ?_); rintro e w36 ⟨rfl, hb⟩; refine ⟨_, rfl, ?_⟩; have n0_ := Aside0.mk (blk_below (g := gb114) (o := .cells #[.bool false, .int .i64 0] 34 (0, 0)) (by (with_reducible repeat (first | refine blk_drewN ?_ _ | refine blk_drew ?_ | refine blk_alloc ?_ _)); exact BK114.out) hb); have n1_ := Aside0.mk (below_step (by repeat (first | (with_reducible first | exact HB.out | apply below_alloc | apply pw_below_drewN | apply below_drew1 | refine below_set ?_ GE114.out) | exact HB.out)) hb); clear BK114; clear HB; have BK114 := n0_; have HB := n1_; clear n0_ n1_; (try clear hb); (try clear hb2); (try clear hk); (try clear hi); have hcz37_0 : w36.cell? ⟨gb114, 0, none⟩ = some (.bool false) := (blk_cell BK114.out 0).trans rfl; have hcz37_1 : w36.cell? ⟨gb114, 1, none⟩ = some (.int .i64 0) := (blk_cell BK114.out 1).trans rfl; have hfz37_0 := blk_frozen BK114.out 0; have hfz37_1 := blk_frozen BK114.out 1))
            refine bodyPost_ret (results_ct rfl _ _ gb114 34 #[.bool t131, .int .i64 t132] (0, 0) _ rfl (by (with_reducible repeat (first | refine blk_drewN ?_ _ | refine blk_drew ?_ | refine blk_alloc ?_ _)); refine blk_put (cs := #[.bool t131, .int .i64 0]) ?_ 1 _ rfl; (with_reducible repeat (first | refine blk_drewN ?_ _ | refine blk_drew ?_ | refine blk_alloc ?_ _)); refine blk_put (cs := #[.bool false, .int .i64 0]) ?_ 0 _ rfl; (with_reducible repeat (first | refine blk_drewN ?_ _ | refine blk_drew ?_ | refine blk_alloc ?_ _)); exact BK114.out) Tryz.underlying34 rfl (by kernel_rfl)) rfl ?_
            exact ⟨by first | rfl | (simp [errW_none, errW_some] <;> rfl) | (simp [*, errW_none, errW_some] <;> rfl), by repeat (first | (with_reducible first | exact HB.out | apply below_alloc | apply pw_below_drewN | apply below_drew1 | refine below_set ?_ GE114.out) | exact HB.out)⟩
        ·rw [if_neg c26] at H
         exact absurd H (by simp)
       ·rw [if_neg c24] at H
        exact absurd H (by simp)

end Go.Proofs.YtnjobjogddjelaaGreatDoor.Print
end

section
namespace Go.Proofs.YtnjobjogddjelaaGreatDoor.PureN
open Go.RowKit Go.Proofs.YtnjobjogddjelaaGreatDoor.Print Go.Proofs.YtnjobjogddjelaaGreatDoor.Pure Go.Proofs.YtnjobjogddjelaaGreatDoorW.PrintWords Go.Proofs.YtnjobjogddjelaaGreatDoorW.PrintLast Go.Proofs.YtnjobjogddjelaaGreatDoorW.PrintMore

/-! Texts of numbers. -/
def isD (c : UInt8) : Bool := decide (48 ≤ c.toNat) && decide (c.toNat ≤ 57)
def valF (a : Nat) (l : List UInt8) : Nat := l.foldl (fun a c => a * 10 + (c.toNat - 48)) a
def valN (l : List UInt8) : Nat := valF 0 l
def okS (x : Bool × Int) : Bool × Int × Int := (x.1, x.2, 0)
def errS : Bool × Int × Int := (false, 0, 20)
def headOk (D : List UInt8) : Bool := decide (1 ≤ D.length) && decide (D.length ≤ 13) && !(decide (1 < D.length) && D.head? == some 48)
def partOk (p : List UInt8) : Bool := p.all isD && decide (1 ≤ p.length) && decide (p.length ≤ 6)
/-- A text without its sign. -/
def parseT (neg : Bool) (t : List UInt8) : Bool × Int × Int :=
 if headOk (t.takeWhile isD) then
  match t.dropWhile isD with
  | [] => okS (sgn neg ((valN (t.takeWhile isD) * 1000000 : Nat) : Int))
  | c :: p => if c = 46 ∧ partOk p = true then okS (sgn neg ((valN (t.takeWhile isD) * 1000000 + valN p * 10 ^ (6 - p.length) : Nat) : Int)) else errS
 else errS
def parseS (s : List UInt8) : Bool × Int × Int :=
 if s = [111, 118, 102] then (true, 0, 0) else if s.head? = some 45 then parseT true s.tail else parseT false s

theorem valF_append (a : Nat) (l m : List UInt8) : valF a (l ++ m) = valF (valF a l) m := by
 unfold valF
 rw [List.foldl_append]
theorem valF_lin : ∀ (l : List UInt8) (a : Nat), valF a l = a * 10 ^ l.length + valN l
 | [], a => by simp [valN, valF]
 | c :: l, a => by
  have h1 := valF_lin l (a * 10 + (c.toNat - 48))
  have h2 := valF_lin l (0 * 10 + (c.toNat - 48))
  show valF (a * 10 + (c.toNat - 48)) l = a * 10 ^ (l.length + 1) + valF (0 * 10 + (c.toNat - 48)) l
  rw [h1, h2, Nat.pow_succ, Nat.add_mul, Nat.add_mul]
  have : a * 10 * 10 ^ l.length = a * (10 ^ l.length * 10) := by rw [Nat.mul_assoc, Nat.mul_comm 10]
  rw [this]
  omega
theorem valN_append (l m : List UInt8) : valN (l ++ m) = valN l * 10 ^ m.length + valN m := by
 unfold valN
 rw [valF_append, valF_lin m]
 rfl
theorem valN_zeros (n : Nat) : valN (List.replicate n 48) = 0 := by
 induction n with
 | zero => rfl
 | succ n ih =>
  rw [List.replicate_succ', valN_append, ih]
  rfl
theorem valN_lt (l : List UInt8) (h : l.all isD = true) : valN l < 10 ^ l.length := by
 induction l with
 | nil => simp [valN, valF]
 | cons c l ih =>
  simp only [List.all_cons, Bool.and_eq_true] at h
  have h1 := ih h.2
  have hc : c.toNat ≤ 57 := by
   have := h.1
   unfold isD at this
   simp at this
   omega
  have e := valN_append [c] l
  rw [List.singleton_append] at e
  rw [e, List.length_cons, Nat.pow_succ]
  have : valN [c] ≤ 9 := by
   unfold valN valF
   simp
   omega
  have := Nat.mul_le_mul_right (10 ^ l.length) this
  omega
theorem parseUintM_ok (M : Nat) (hM : M = 18446744073709551615) : ∀ (l : List UInt8) (a : Nat), l.all isD = true → valF a l ≤ 9999999999999999999 → (l ≠ [] → a ≤ 999999999999999999) → Lib.parseUintM M a l = .ok (valF a l)
 | [], a, _, _, _ => rfl
 | c :: l, a, h, hv, ha => by
  simp only [List.all_cons, Bool.and_eq_true] at h
  have hc : 48 ≤ c.toNat ∧ c.toNat ≤ 57 := by
   have := h.1
   unfold isD at this
   simpa using this
  have ha := ha (by simp)
  have e : valF a (c :: l) = valF (a * 10 + (c.toNat - 48)) l := rfl
  rw [e] at hv ⊢
  have h3 := valF_lin l (a * 10 + (c.toNat - 48))
  have hp : 1 ≤ 10 ^ l.length := Nat.one_le_pow _ _ (by omega)
  have h4 := Nat.mul_le_mul_left (a * 10 + (c.toNat - 48)) hp
  unfold Lib.parseUintM
  rw [if_pos hc, if_neg (by omega), if_neg (by omega)]
  refine parseUintM_ok M hM l _ h.2 hv (fun hl => ?_)
  have hp2 : 10 ≤ 10 ^ l.length := by
   cases l with
   | nil => exact absurd rfl hl
   | cons d l =>
    rw [List.length_cons, Nat.pow_succ]
    have : 1 ≤ 10 ^ l.length := Nat.one_le_pow _ _ (by omega)
    omega
  have h5 := Nat.mul_le_mul_left (a * 10 + (c.toNat - 48)) hp2
  omega
theorem parseUint_ok (l : List UInt8) (hl : l ≠ []) (h : l.all isD = true) (hn : l.length ≤ 19) : Lib.parseUintB 64 l = .ok (valN l) := by
 unfold Lib.parseUintB
 rw [if_neg hl]
 have h1 := valN_lt l h
 have h2 : 10 ^ l.length ≤ 10 ^ 19 := Nat.pow_le_pow_right (by omega) hn
 exact parseUintM_ok _ (by decide) l 0 h (by unfold valN at h1; omega) (by omega)

theorem bt_list (l : List UInt8) (i : Nat) (h : i < l.length) : bt ⟨l.toArray⟩ (i : Int) = (l[i].toNat : Int) := by
 have h2 : ((i : Int).toNat) < (⟨l.toArray⟩ : ByteArray).size := by simpa [ByteArray.size] using h
 rw [← bt_at _ _ h2]
 rfl
theorem size_list (l : List UInt8) : (⟨l.toArray⟩ : ByteArray).size = l.length := rfl
theorem digits_l0 (l : List UInt8) (least most : Int) (hl : l.length ≤ 1000) (d : Nat) : ∀ (k i : Nat), i + d = l.length → d < k → (l.take i).all isD = true →
  fix_digits.l0 k ⟨l.toArray⟩ least most (l.length : Int) i = some (l.all isD && decide (least ≤ (l.length : Int)) && decide ((l.length : Int) ≤ most)) := by
 induction d with
 | zero =>
  intro k i hi hk ha
  obtain ⟨m, rfl⟩ : ∃ m, k = m + 1 := ⟨k - 1, by omega⟩
  obtain rfl : i = l.length := by omega
  rw [List.take_length] at ha
  simp only [fix_digits.l0]
  rw [if_neg (by omega), size_list, ha]
  by_cases c : (l.length : Int) ≥ least
  ·rw [if_pos c, show decide (least ≤ (l.length : Int)) = true from decide_eq_true c]
   simp
  ·rw [if_neg c, show decide (least ≤ (l.length : Int)) = false from decide_eq_false c]
   simp
 | succ d ih =>
  intro k i hi hk ha
  obtain ⟨m, rfl⟩ : ∃ m, k = m + 1 := ⟨k - 1, by omega⟩
  have hil : i < l.length := by omega
  have ht : l.take (i + 1) = l.take i ++ [l[i]] := by rw [List.take_succ_eq_append_getElem hil]
  have no : isD l[i] = false → l.all isD = false := fun hd => by
   rw [List.all_eq_false]
   exact ⟨l[i], List.getElem_mem hil, by simp [hd]⟩
  have e2 : wrap64 ((i : Int) + 1) = ((i + 1 : Nat) : Int) := by rw [wrap_id (by omega) (by omega)]; omega
  simp only [fix_digits.l0]
  rw [size_list, if_pos (by omega), if_pos (by omega), if_pos (by omega), bt_list l i hil, e2]
  by_cases c1 : (l[i].toNat : Int) < 48
  ·rw [if_pos c1, no (by unfold isD; simp; omega)]
   simp
  ·rw [if_neg c1]
   by_cases c2 : (l[i].toNat : Int) > 57
   ·rw [if_pos c2, no (by unfold isD; simp; omega)]
    simp
   ·rw [if_neg c2]
    refine ih m (i + 1) (by omega) (by omega) ?_
    rw [ht, List.all_append, ha]
    unfold isD
    simp
    omega
theorem digits_eq (k : Nat) (l : List UInt8) (least most : Int) (hl : l.length ≤ 1000) (hk : 1001 < k) : fix_digits.f k ⟨l.toArray⟩ least most = some (l.all isD && decide (least ≤ (l.length : Int)) && decide ((l.length : Int) ≤ most)) := by
 have h := digits_l0 l least most hl l.length k 0 (by omega) (by omega) rfl
 exact h

theorem index_dot : ∀ t : List UInt8, Lib.index t [46] = if t.any (· == 46) then ((t.takeWhile (· != 46)).length : Int) else -1
 | [] => by simp [Lib.index]
 | b :: t => by
  unfold Lib.index
  rw [index_dot t]
  by_cases c : b = 46
  ·subst c
   simp
  ·have c1 : (b == 46) = false := beq_eq_false_iff_ne.mpr c
   have c2 : ((46 : UInt8) == b) = false := beq_eq_false_iff_ne.mpr (fun e => c e.symm)
   have c3 : (b != 46) = true := by simp [c]
   rw [List.any_cons, c1, List.takeWhile_cons, c3, Bool.false_or]
   simp only [List.isPrefixOf, c2, Bool.false_and, Bool.false_eq_true, if_false, if_true, List.length_cons]
   cases hh : t.any (· == 46)
   ·simp
   ·simp only [if_true]
    have : (((t.takeWhile (· != 46)).length : Int) == -1) = false := beq_eq_false_iff_ne.mpr (by omega)
    rw [this]
    simp
theorem dropWhile_all {p : UInt8 → Bool} : ∀ (l : List UInt8), (∀ c ∈ l, p c = true) → l.dropWhile p = []
 | [], _ => rfl
 | c :: l, h => by
  rw [List.dropWhile_cons, h c (by simp)]
  exact dropWhile_all l (fun d hd => h d (by simp [hd]))
theorem takeWhile_app {p : UInt8 → Bool} : ∀ (l m : List UInt8), (∀ c ∈ l, p c = true) → (l ++ m).takeWhile p = l ++ m.takeWhile p
 | [], m, _ => rfl
 | c :: l, m, h => by
  rw [List.cons_append, List.takeWhile_cons, h c (by simp)]
  simp only [if_true, List.cons_append]
  rw [takeWhile_app l m (fun d hd => h d (by simp [hd]))]
theorem dropWhile_app {p : UInt8 → Bool} : ∀ (l m : List UInt8), (∀ c ∈ l, p c = true) → (l ++ m).dropWhile p = m.dropWhile p
 | [], m, _ => rfl
 | c :: l, m, h => by
  rw [List.cons_append, List.dropWhile_cons, h c (by simp)]
  simp only [if_true]
  exact dropWhile_app l m (fun d hd => h d (by simp [hd]))
theorem cut_dot (t : List UInt8) : Lib.cut t [46] = (t.takeWhile (· != 46), (t.dropWhile (· != 46)).tail, t.any (· == 46)) := by
 unfold Lib.cut
 rw [index_dot]
 have hs := List.takeWhile_append_dropWhile (p := fun c : UInt8 => c != 46) (l := t)
 cases h : t.any (· == 46)
 ·rw [if_neg (by simp)]
  have ha : ∀ c ∈ t, (c != 46) = true := by
   intro c hc
   have := List.any_eq_false.1 h c hc
   simpa using this
  have e0 : t.dropWhile (fun c => c != 46) = [] := by
   exact dropWhile_all t ha
  rw [e0, List.append_nil] at hs
  rw [e0, hs]
  rfl
 ·rw [if_pos (by simp)]
  simp only [if_true, Int.toNat_natCast, List.length_singleton]
  have e1 : t.take (t.takeWhile (· != 46)).length = t.takeWhile (· != 46) := by
   conv => lhs; arg 2; rw [← hs]
   exact List.take_left
  have e2 : t.drop (t.takeWhile (· != 46)).length = t.dropWhile (· != 46) := by
   conv => lhs; arg 2; rw [← hs]
   exact List.drop_left
  rw [e1, ← List.drop_drop, e2, List.drop_one]
theorem toList_list (l : List UInt8) : (⟨l.toArray⟩ : ByteArray).toList = l := by
 have h := Lib.extract_toList ⟨l.toArray⟩ 0 l.length
 simp at h
 have e : (⟨l.toArray⟩ : ByteArray).extract 0 l.length = ⟨l.toArray⟩ := by
  rw [ByteArray.extract_mk]
  simp
 rw [e] at h
 exact h
theorem app_list (l m : List UInt8) : ((⟨l.toArray⟩ : ByteArray) ++ ⟨m.toArray⟩) = ⟨(l ++ m).toArray⟩ := by
 rw [ByteArray.mk_append_mk]
theorem isD_dot {c : UInt8} (h : isD c = true) : (c != 46) = true := by
 unfold isD at h
 rw [bne_iff_ne]
 rintro rfl
 simp at h
theorem hasPrefix_minus (l : List UInt8) : Lib.hasPrefix l [45] = (l.head? == some 45) := by
 unfold Lib.hasPrefix
 cases l with
 | nil => rfl
 | cons c l =>
  simp only [List.isPrefixOf, Bool.and_true, List.head?_cons]
  by_cases h : c = 45
  ·subst h
   rfl
  ·rw [beq_eq_false_iff_ne.mpr (fun e => h e.symm), show (some c == some (45 : UInt8)) = false from beq_eq_false_iff_ne.mpr (by simpa using h)]
theorem trimPrefix_minus (l : List UInt8) : Lib.trimPrefix l [45] = if l.head? = some 45 then l.tail else l := by
 unfold Lib.trimPrefix
 rw [hasPrefix_minus]
 by_cases h : l.head? = some 45
 ·rw [if_pos (by simpa using h), if_pos h, List.length_singleton, List.drop_one]
 ·rw [if_neg (by simpa using h), if_neg h]
theorem repeat_zero (n : Nat) : Lib.repeatL [48] n = List.replicate n 48 := by
 induction n with
 | zero => rfl
 | succ n ih => rw [Lib.repeatL, ih, List.replicate_succ]; rfl
/-- What fix.Parse does with the two parts of a text. -/
def partsS (neg : Bool) (w p : List UInt8) (least : Int) : Bool × Int × Int :=
 if w.all isD && decide (1 ≤ w.length) && decide (w.length ≤ 13) && !(decide (1 < w.length) && w.head? == some 48) && (p.all isD && decide (least ≤ (p.length : Int)) && decide (p.length ≤ 6)) then
  okS (sgn neg ((valN w * 1000000 + valN p * 10 ^ (6 - p.length) : Nat) : Int)) else errS
theorem j2_eq (k : Nat) (neg : Bool) (n : Nat) (hk : 30 < k) (hn : n < 18446744073709551616) : fix_Parse.j2 k neg (n : Int) (decide ((n : Int) > 9223372036854775807)) = some (okS (sgn neg (n : Int))) := by
 obtain ⟨k, rfl⟩ : ∃ m, k = m + 1 := ⟨k - 1, by omega⟩
 simp only [fix_Parse.j2]
 by_cases c : (n : Int) > 9223372036854775807
 ·rw [if_pos (decide_eq_true c)]
  unfold okS sgn
  rw [if_pos (by omega)]
  rfl
 ·rw [if_neg (by simpa using c), scaled_eq k neg n 1 1 (by omega) (by omega) (by omega) (by omega) (by omega) (by omega) (by omega), Option.bind_some, Int.mul_one, Int.ediv_one]
  rfl
theorem j1_eq (k : Nat) (neg : Bool) (w p : List UInt8) (hk : 40 < k) (hw : w.all isD = true) (hw1 : 1 ≤ w.length) (hw2 : w.length ≤ 13) (hp : p.all isD = true) (hp2 : p.length ≤ 6) :
  fix_Parse.j1 k neg ⟨w.toArray⟩ ⟨p.toArray⟩ false = some (okS (sgn neg ((valN w * 1000000 + valN p * 10 ^ (6 - p.length) : Nat) : Int))) := by
 obtain ⟨k, rfl⟩ : ∃ m, k = m + 1 := ⟨k - 1, by omega⟩
 have e6 : wrap64 (6 - (p.length : Int)) = ((6 - p.length : Nat) : Int) := by rw [wrap_id (by omega) (by omega)]; omega
 have z : ((⟨#[48]⟩ : ByteArray).data.toList) = [48] := rfl
 have hlen : ((w ++ p) ++ List.replicate (6 - p.length) 48).length = w.length + 6 := by simp; omega
 have hall : ((w ++ p) ++ List.replicate (6 - p.length) 48).all isD = true := by
  rw [List.all_append, List.all_append, hw, hp]
  simp [isD]
 have hval : valN ((w ++ p) ++ List.replicate (6 - p.length) 48) = valN w * 1000000 + valN p * 10 ^ (6 - p.length) := by
  rw [valN_append, valN_append, valN_zeros, List.length_replicate, Nat.add_zero, Nat.add_mul, Nat.mul_assoc, ← Nat.pow_add, show p.length + (6 - p.length) = 6 by omega]
 simp only [fix_Parse.j1, Bool.false_eq_true, if_false]
 rw [size_list, size_list, if_pos (by omega)]
 unfold strings_Repeat.f
 have hn1 : (⟨#[48]⟩ : ByteArray).size = 1 := rfl
 rw [e6, hn1, if_pos ⟨by omega, by omega, by omega⟩, Option.bind_some, Int.toNat_natCast, z, repeat_zero, app_list, app_list, size_list, size_list, if_pos (by simp; omega)]
 unfold strconv_ParseUint.f
 rw [size_list, if_pos ⟨rfl, rfl, by rw [hlen]; omega⟩]
 simp only
 rw [parseUint_ok _ (by intro e; rw [e] at hlen; simp at hlen) hall (by omega), hval]
 have hb : valN w * 1000000 + valN p * 10 ^ (6 - p.length) < 18446744073709551616 := by
  have h1 := valN_lt _ hall
  rw [hval, hlen] at h1
  have h2 : 10 ^ (w.length + 6) ≤ 10 ^ 19 := Nat.pow_le_pow_right (by omega) (by omega)
  omega
 simp only [Option.bind_some, Option.isNone_none, if_true]
 exact j2_eq k neg _ (by omega) hb
theorem j1_err (k : Nat) (neg : Bool) (w p : ByteArray) (hk : 0 < k) : fix_Parse.j1 k neg w p true = some errS := by
 obtain ⟨k, rfl⟩ : ∃ m, k = m + 1 := ⟨k - 1, by omega⟩
 simp only [fix_Parse.j1, if_true]
 rfl
theorem head_bt (w : List UInt8) (h : 0 < w.length) : (bt ⟨w.toArray⟩ 0 = 48) ↔ w.head? = some 48 := by
 have e := bt_list w 0 h
 rw [show (((0 : Nat) : Int)) = 0 from rfl] at e
 rw [e]
 cases w with
 | nil => simp at h
 | cons c w =>
  simp only [List.getElem_cons_zero, List.head?_cons, Option.some.injEq]
  constructor
  ·intro h
   apply UInt8.toNat_inj.1
   have : (48 : UInt8).toNat = 48 := rfl
   omega
  ·rintro rfl
   rfl
theorem j0_eq (k : Nat) (neg : Bool) (w p : List UInt8) (least : Int) (hk : 1100 < k) (hw : w.length ≤ 1000) (hp : p.length ≤ 1000) : fix_Parse.j0 k neg ⟨w.toArray⟩ ⟨p.toArray⟩ least = some (partsS neg w p least) := by
 obtain ⟨k, rfl⟩ : ∃ m, k = m + 1 := ⟨k - 1, by omega⟩
 simp only [fix_Parse.j0]
 rw [digits_eq k w 1 13 hw (by omega), Option.bind_some, digits_eq k p least 6 hp (by omega), size_list]
 unfold partsS
 have d1 : decide ((1 : Int) ≤ (w.length : Int)) = decide (1 ≤ w.length) := decide_eq_decide.2 (by omega)
 have d2 : decide ((w.length : Int) ≤ 13) = decide (w.length ≤ 13) := decide_eq_decide.2 (by omega)
 have d3 : decide ((p.length : Int) ≤ 6) = decide (p.length ≤ 6) := decide_eq_decide.2 (by omega)
 rw [d1, d2, d3]
 cases h1 : w.all isD && decide (1 ≤ w.length) && decide (w.length ≤ 13)
 ·rw [if_neg (by simp), j1_err k neg _ _ (by omega)]
  simp
 ·rw [if_pos rfl]
  simp only [Bool.and_eq_true, decide_eq_true_eq] at h1
  obtain ⟨⟨h1, h2⟩, h3⟩ := h1
  have tl : fix_Parse.j1 k neg ⟨w.toArray⟩ ⟨p.toArray⟩ (!(p.all isD && decide (least ≤ (p.length : Int)) && decide (p.length ≤ 6))) = some (if (p.all isD && decide (least ≤ (p.length : Int)) && decide (p.length ≤ 6)) = true then okS (sgn neg ((valN w * 1000000 + valN p * 10 ^ (6 - p.length) : Nat) : Int)) else errS) := by
   cases g : p.all isD && decide (least ≤ (p.length : Int)) && decide (p.length ≤ 6)
   ·rw [if_neg (by simp)]
    exact j1_err k neg _ _ (by omega)
   ·rw [if_pos rfl]
    simp only [Bool.and_eq_true, decide_eq_true_eq] at g
    exact j1_eq k neg w p (by omega) h1 h2 h3 g.1.1 g.2
  by_cases c : (w.length : Int) > 1
  ·rw [if_pos c, if_pos (by omega)]
   have d4 : decide (1 < w.length) = true := decide_eq_true (by omega)
   by_cases c2 : bt ⟨w.toArray⟩ 0 = 48
   ·have := (head_bt w (by omega)).1 c2
    rw [if_pos c2, j1_err k neg _ _ (by omega), d4, this]
    simp
   ·have : (w.head? == some 48) = false := by
     rw [beq_eq_false_iff_ne]
     exact fun e => c2 ((head_bt w (by omega)).2 e)
    rw [if_neg c2, Option.bind_some, tl, d4, this]
    simp
  ·have d4 : decide (1 < w.length) = false := decide_eq_false (by omega)
   rw [if_neg c, Option.bind_some, tl, d4]
   simp
theorem takeWhile_mem {p : UInt8 → Bool} : ∀ (l : List UInt8), ∀ c ∈ l.takeWhile p, p c = true
 | [], c, h => by simp at h
 | d :: l, c, h => by
  rw [List.takeWhile_cons] at h
  by_cases g : p d = true
  ·rw [if_pos g] at h
   rcases List.mem_cons.1 h with rfl | h
   ·exact g
   ·exact takeWhile_mem l c h
  ·rw [if_neg g] at h
   simp at h
theorem dropWhile_head {p : UInt8 → Bool} : ∀ (l : List UInt8) (c : UInt8) (r : List UInt8), l.dropWhile p = c :: r → p c = false
 | [], c, r, h => by simp at h
 | d :: l, c, r, h => by
  rw [List.dropWhile_cons] at h
  by_cases g : p d = true
  ·rw [if_pos g] at h
   exact dropWhile_head l c r h
  ·rw [if_neg g] at h
   injection h with h1 h2
   subst h1
   simpa using g
theorem parts_parseT (neg : Bool) (t : List UInt8) : partsS neg (t.takeWhile (· != 46)) ((t.dropWhile (· != 46)).tail) (if t.any (· == 46) = true then 1 else 0) = parseT neg t := by
 have hs := List.takeWhile_append_dropWhile (p := isD) (l := t)
 have hm := takeWhile_mem (p := isD) t
 have hd := fun c r => dropWhile_head (p := isD) t c r
 unfold parseT
 obtain ⟨D, hD⟩ : ∃ D, t.takeWhile isD = D := ⟨_, rfl⟩
 obtain ⟨r, hr⟩ : ∃ r, t.dropWhile isD = r := ⟨_, rfl⟩
 rw [hD, hr] at hs
 rw [hD] at hm ⊢
 rw [hr] at hd ⊢
 subst hs
 have hall : D.all isD = true := List.all_eq_true.2 hm
 have h46 : ∀ c ∈ D, (c != 46) = true := fun c hc => isD_dot (hm c hc)
 have hany : D.any (· == 46) = false := by
  rw [List.any_eq_false]
  intro c hc
  have := h46 c hc
  simpa using this
 rw [takeWhile_app D r h46, dropWhile_app D r h46, List.any_append, hany, Bool.false_or]
 unfold partsS headOk
 cases r with
 | nil =>
  simp only [List.takeWhile_nil, List.dropWhile_nil, List.append_nil, List.tail_nil, List.any_nil, hall, Bool.true_and, List.all_nil, List.length_nil, Bool.false_eq_true, if_false]
  have v : valN [] = 0 := rfl
  simp [v]
 | cons c r =>
  have hc := hd c r rfl
  by_cases g : c = 46
  ·subst g
   have e1 : (46 :: r).takeWhile (fun c : UInt8 => c != 46) = [] := by simp
   have e2 : (46 :: r).dropWhile (fun c : UInt8 => c != 46) = 46 :: r := by simp
   rw [e1, e2, List.append_nil]
   simp only [List.any_cons, beq_self_eq_true, Bool.true_or, if_true, List.tail_cons, hall, Bool.true_and, true_and]
   unfold partOk
   have d3 : decide ((1 : Int) ≤ (r.length : Int)) = decide (1 ≤ r.length) := decide_eq_decide.2 (by omega)
   rw [d3]
   by_cases h1 : (decide (1 ≤ D.length) && decide (D.length ≤ 13) && !(decide (1 < D.length) && D.head? == some 48)) = true
   ·rw [h1]
    simp only [Bool.true_and, if_true]
    first | rfl | congr
   ·rw [Bool.eq_false_iff.2 h1]
    simp
  ·have e1 : (c :: r).takeWhile (fun c : UInt8 => c != 46) = c :: r.takeWhile (fun c : UInt8 => c != 46) := by
    rw [List.takeWhile_cons, if_pos (by simpa using g)]
   rw [e1]
   have : (D ++ c :: r.takeWhile (fun c : UInt8 => c != 46)).all isD = false := by
    rw [List.all_append, List.all_cons, hc]
    simp
   rw [this]
   simp [g]
theorem fixparse_eq (k : Nat) (l : List UInt8) (hk : 1200 < k) (hl : l.length ≤ 620) : fix_Parse.f k ⟨l.toArray⟩ = some (parseS l) := by
 unfold fix_Parse.f parseS
 rw [toList_list]
 by_cases h : l = [111, 118, 102]
 ·rw [if_pos h, if_pos h]
  rfl
 ·rw [if_neg h, if_neg h]
  unfold strings_CutPrefix.f
  rw [Option.bind_some]
  simp only
  rw [trimPrefix_minus, hasPrefix_minus]
  obtain ⟨t, ht⟩ : ∃ t, (if l.head? = some 45 then l.tail else l) = t := ⟨_, rfl⟩
  have htl : t.length ≤ 620 := by
   rw [← ht]
   split
   ·rw [List.length_tail]
    omega
   ·exact hl
  rw [ht]
  unfold strings_Cut.f
  rw [size_list, if_pos (by omega), Option.bind_some]
  simp only
  rw [cut_dot]
  have l1 : (t.takeWhile (· != 46)).length ≤ 1000 := by
   have := (List.takeWhile_sublist (fun c : UInt8 => c != 46) (l := t)).length_le
   omega
  have l2 : ((t.dropWhile (· != 46)).tail).length ≤ 1000 := by
   have := (List.dropWhile_sublist (fun c : UInt8 => c != 46) (l := t)).length_le
   rw [List.length_tail]
   omega
  have e : (if (if l.head? = some 45 then l.tail else l) = t then parseT (l.head? == some 45) t else errS) = (if l.head? = some 45 then parseT true l.tail else parseT false l) := by
   rw [if_pos ht, ← ht]
   by_cases g : l.head? = some 45
   ·rw [if_pos g, if_pos g, g]
    rfl
   ·rw [if_neg g, if_neg g, beq_eq_false_iff_ne.mpr g]
  rw [if_pos ht] at e
  rw [← e, ← parts_parseT]
  cases h46 : t.any (· == 46)
  ·rw [if_neg (by simp), if_neg (by simp), j0_eq k _ _ _ 0 (by omega) l1 l2]
  ·rw [if_pos rfl, if_pos rfl, j0_eq k _ _ _ 1 (by omega) l1 l2]
end Go.Proofs.YtnjobjogddjelaaGreatDoor.PureN
end

section
namespace Go.Proofs.YtnjobjogddjelaaGreatDoor.Print
open Go.RowKit Go.Proofs.YtnjobjogddjelaaGreatDoorX Go.Proofs.YtnjobjogddjelaaGreatDoorW.PrintWords Go.Proofs.YtnjobjogddjelaaGreatDoorW.PrintLast Go.Proofs.YtnjobjogddjelaaGreatDoorW.PrintMore
attribute [local go_sem] max2_int min2_int max_two min_two max_three min_three max_four min_four

/-! ### fix_Print: function 33 -/
def fix_Print.f (a0_0 : Bool) (a0_1 : Int) : Option (ByteArray) := (fix_over.f a0_0 a0_1).bind fun t210 => (if t210 = true then (some (⟨#[111, 118, 102]⟩ : ByteArray)) else ((fix_size.f a0_1).bind fun t211 => ((strconv_FormatUint.f (IntKind.u64.wrap (Int.tdiv t211 1000000)) 10).bind fun t212 => ((strconv_FormatUint.f (IntKind.u64.wrap ((Int.tmod t211 1000000) + 1000000)) 10).bind fun t213 => (if 1 ≤ (t213.size : Int) then (if (Int.tmod t211 1000000) > 0 then ((strings_TrimRight.f (t213.extract 1 t213.size) (⟨#[48]⟩ : ByteArray)).bind fun t214 => (if 1 + t214.size ≤ 9223372036854775807 then (if t212.size + ((⟨#[46]⟩ : ByteArray) ++ t214).size ≤ 9223372036854775807 then (if a0_1 < 0 then (if 1 + (t212 ++ ((⟨#[46]⟩ : ByteArray) ++ t214)).size ≤ 9223372036854775807 then (some ((⟨#[45]⟩ : ByteArray) ++ (t212 ++ ((⟨#[46]⟩ : ByteArray) ++ t214)))) else (none)) else (some (t212 ++ ((⟨#[46]⟩ : ByteArray) ++ t214)))) else (none)) else (none))) else (if a0_1 < 0 then (if 1 + t212.size ≤ 9223372036854775807 then (some ((⟨#[45]⟩ : ByteArray) ++ t212)) else (none)) else (some t212))) else (none))))))
set_option maxHeartbeats 8000000 in
set_option maxRecDepth 100000 in
theorem fix_Print.calls (a0_0 : Bool) (a0_1 : Int) (r : ByteArray) (w : World) (hg_ : LaidW w) (h : fix_Print.f a0_0 a0_1 = some r) :
  Calls Tryz.prog 33 #[.agg #[.bool a0_0, .int .i64 a0_1]] w fun e w' => e = .returned (.string r) ∧ Below w.heap.size w w' := by
 have HLW := Aside0.mk hg_
 clear hg_
 have hu34 := Tryz.underlying34
 have HB := Aside0.mk (Below.refl w.heap.size w)
 have H : ((fix_over.f a0_0 a0_1).bind fun t210 => (if t210 = true then (some (⟨#[111, 118, 102]⟩ : ByteArray)) else ((fix_size.f a0_1).bind fun t211 => ((strconv_FormatUint.f (IntKind.u64.wrap (Int.tdiv t211 1000000)) 10).bind fun t212 => ((strconv_FormatUint.f (IntKind.u64.wrap ((Int.tmod t211 1000000) + 1000000)) 10).bind fun t213 => (if 1 ≤ (t213.size : Int) then (if (Int.tmod t211 1000000) > 0 then ((strings_TrimRight.f (t213.extract 1 t213.size) (⟨#[48]⟩ : ByteArray)).bind fun t214 => (if 1 + t214.size ≤ 9223372036854775807 then (if t212.size + ((⟨#[46]⟩ : ByteArray) ++ t214).size ≤ 9223372036854775807 then (if a0_1 < 0 then (if 1 + (t212 ++ ((⟨#[46]⟩ : ByteArray) ++ t214)).size ≤ 9223372036854775807 then (some ((⟨#[45]⟩ : ByteArray) ++ (t212 ++ ((⟨#[46]⟩ : ByteArray) ++ t214)))) else (none)) else (some (t212 ++ ((⟨#[46]⟩ : ByteArray) ++ t214)))) else (none)) else (none))) else (if a0_1 < 0 then (if 1 + t212.size ≤ 9223372036854775807 then (some ((⟨#[45]⟩ : ByteArray) ++ t212)) else (none)) else (some t212))) else (none))))))) = some r := h
 clear h
 replace H := Option.bind_eq_some_iff.mp H
 obtain ⟨t210, A20, H⟩ := H
 replace H : (if t210 = true then (some (⟨#[111, 118, 102]⟩ : ByteArray)) else ((fix_size.f a0_1).bind fun t211 => ((strconv_FormatUint.f (IntKind.u64.wrap (Int.tdiv t211 1000000)) 10).bind fun t212 => ((strconv_FormatUint.f (IntKind.u64.wrap ((Int.tmod t211 1000000) + 1000000)) 10).bind fun t213 => (if 1 ≤ (t213.size : Int) then (if (Int.tmod t211 1000000) > 0 then ((strings_TrimRight.f (t213.extract 1 t213.size) (⟨#[48]⟩ : ByteArray)).bind fun t214 => (if 1 + t214.size ≤ 9223372036854775807 then (if t212.size + ((⟨#[46]⟩ : ByteArray) ++ t214).size ≤ 9223372036854775807 then (if a0_1 < 0 then (if 1 + (t212 ++ ((⟨#[46]⟩ : ByteArray) ++ t214)).size ≤ 9223372036854775807 then (some ((⟨#[45]⟩ : ByteArray) ++ (t212 ++ ((⟨#[46]⟩ : ByteArray) ++ t214)))) else (none)) else (some (t212 ++ ((⟨#[46]⟩ : ByteArray) ++ t214)))) else (none)) else (none))) else (if a0_1 < 0 then (if 1 + t212.size ≤ 9223372036854775807 then (some ((⟨#[45]⟩ : ByteArray) ++ t212)) else (none)) else (some t212))) else (none)))))) = some r := H
 have A2 := Aside0.mk A20
 clear A20
 by_cases c3 : t210 = true
 ·subst c3
  have H1 : (some (⟨#[111, 118, 102]⟩ : ByteArray)) = some r := by rw [if_pos rfl] at H; exact H
  clear H
  have H := H1
  clear H1
  obtain rfl := Option.some.inj H
  go_enter Tryz.func33, Tryz.ntmps33
  go_wp2_with (first | ((with_reducible refine gate_dst (N := 1) rfl ?_); refine box_event ?hg (N := 1) ?hd (cs := #[.bool a0_0, .int .i64 a0_1]) (t := 34) ?hr ?_; (case hd => rfl); (case hg => rfl); (case hr => first | (go_simp; done) | (go_simp; rfl)); intro gb209 hg w4 hbox hb; have n0_ := Aside0.mk (below_step (by repeat (first | (with_reducible first | exact HB.out | apply below_alloc | apply pw_below_drewN | apply below_drew1) | exact HB.out)) hb); have n1_ := Aside0.mk (hbox); have n2_ := Aside0.mk ((by rw [hg]; exact (below_size (by repeat (first | (with_reducible first | exact HB.out | apply below_alloc | apply pw_below_drewN | apply below_drew1) | exact HB.out))) : w.heap.size ≤ gb209)); have n3_ := Aside0.mk ((by rw [hg]; exact (below_size (by repeat (first | (with_reducible first | exact HB.out | apply below_alloc | apply pw_below_drewN | apply below_drew1) | exact HB.out))) : w.heap.size ≤ gb209)); clear HB; have HB := n0_; have BK209 := n1_; have GW209 := n2_; have GE209 := n3_; clear n0_ n1_ n2_ n3_; clear hb hbox hg; have hcz5_0 : w4.cell? ⟨gb209, 0, none⟩ = some (.bool a0_0) := (blk_cell BK209.out 0).trans rfl; have hcz5_1 : w4.cell? ⟨gb209, 1, none⟩ = some (.int .i64 a0_1) := (blk_cell BK209.out 1).trans rfl; have hfz5_0 := blk_frozen BK209.out 0; have hfz5_1 := blk_frozen BK209.out 1) | ((with_reducible refine gate_callee (f := 49) rfl ?_); refine goesL_ (some 7) rfl rfl Tryz.func49 (by kernel_rfl) rfl #[.agg #[.bool a0_0, .int .i64 a0_1]] rfl (by (try simp only [List.map_toArray, List.map_cons, List.map_nil]); first | done | rfl | (simp only [List.length_drop, List.length_take]; rfl)) ?_; (with_reducible refine (fix_over.calls a0_0 a0_1 true _ A2.out).mono ?_); rintro e w6 ⟨rfl, hb⟩; refine ⟨_, rfl, ?_⟩; have n0_ := Aside0.mk (blk_below (g := gb209) (o := .cells #[.bool a0_0, .int .i64 a0_1] 34 (0, 0)) (by (with_reducible repeat (first | refine blk_drewN ?_ _ | refine blk_drew ?_ | refine blk_alloc ?_ _)); exact BK209.out) hb); have n1_ := Aside0.mk (below_step (by repeat (first | (with_reducible first | exact HB.out | apply below_alloc | apply pw_below_drewN | apply below_drew1 | refine below_set ?_ GE209.out) | exact HB.out)) hb); clear BK209; clear HB; have BK209 := n0_; have HB := n1_; clear n0_ n1_; (try clear hb); (try clear hb2); (try clear hk); (try clear hi)))
  go_ret
  exact ⟨by first | rfl | (simp [errW_none, errW_some] <;> rfl) | (simp [*, errW_none, errW_some] <;> rfl), by repeat (first | (with_reducible first | exact HB.out | apply below_alloc | apply pw_below_drewN | apply below_drew1 | refine below_set ?_ GE209.out) | exact HB.out)⟩
 ·replace c3 := Bool.eq_false_iff.mpr c3
  subst c3
  have H1 : ((fix_size.f a0_1).bind fun t211 => ((strconv_FormatUint.f (IntKind.u64.wrap (Int.tdiv t211 1000000)) 10).bind fun t212 => ((strconv_FormatUint.f (IntKind.u64.wrap ((Int.tmod t211 1000000) + 1000000)) 10).bind fun t213 => (if 1 ≤ (t213.size : Int) then (if (Int.tmod t211 1000000) > 0 then ((strings_TrimRight.f (t213.extract 1 t213.size) (⟨#[48]⟩ : ByteArray)).bind fun t214 => (if 1 + t214.size ≤ 9223372036854775807 then (if t212.size + ((⟨#[46]⟩ : ByteArray) ++ t214).size ≤ 9223372036854775807 then (if a0_1 < 0 then (if 1 + (t212 ++ ((⟨#[46]⟩ : ByteArray) ++ t214)).size ≤ 9223372036854775807 then (some ((⟨#[45]⟩ : ByteArray) ++ (t212 ++ ((⟨#[46]⟩ : ByteArray) ++ t214)))) else (none)) else (some (t212 ++ ((⟨#[46]⟩ : ByteArray) ++ t214)))) else (none)) else (none))) else (if a0_1 < 0 then (if 1 + t212.size ≤ 9223372036854775807 then (some ((⟨#[45]⟩ : ByteArray) ++ t212)) else (none)) else (some t212))) else (none))))) = some r := by rw [if_neg (show ¬ (false = true) by decide)] at H; exact H
  clear H
  have H := H1
  clear H1
  replace H := Option.bind_eq_some_iff.mp H
  obtain ⟨t211, A70, H⟩ := H
  replace H : ((strconv_FormatUint.f (IntKind.u64.wrap (Int.tdiv t211 1000000)) 10).bind fun t212 => ((strconv_FormatUint.f (IntKind.u64.wrap ((Int.tmod t211 1000000) + 1000000)) 10).bind fun t213 => (if 1 ≤ (t213.size : Int) then (if (Int.tmod t211 1000000) > 0 then ((strings_TrimRight.f (t213.extract 1 t213.size) (⟨#[48]⟩ : ByteArray)).bind fun t214 => (if 1 + t214.size ≤ 9223372036854775807 then (if t212.size + ((⟨#[46]⟩ : ByteArray) ++ t214).size ≤ 9223372036854775807 then (if a0_1 < 0 then (if 1 + (t212 ++ ((⟨#[46]⟩ : ByteArray) ++ t214)).size ≤ 9223372036854775807 then (some ((⟨#[45]⟩ : ByteArray) ++ (t212 ++ ((⟨#[46]⟩ : ByteArray) ++ t214)))) else (none)) else (some (t212 ++ ((⟨#[46]⟩ : ByteArray) ++ t214)))) else (none)) else (none))) else (if a0_1 < 0 then (if 1 + t212.size ≤ 9223372036854775807 then (some ((⟨#[45]⟩ : ByteArray) ++ t212)) else (none)) else (some t212))) else (none)))) = some r := H
  have A7 := Aside0.mk A70
  clear A70
  replace H := Option.bind_eq_some_iff.mp H
  obtain ⟨t212, A80, H⟩ := H
  replace H : ((strconv_FormatUint.f (IntKind.u64.wrap ((Int.tmod t211 1000000) + 1000000)) 10).bind fun t213 => (if 1 ≤ (t213.size : Int) then (if (Int.tmod t211 1000000) > 0 then ((strings_TrimRight.f (t213.extract 1 t213.size) (⟨#[48]⟩ : ByteArray)).bind fun t214 => (if 1 + t214.size ≤ 9223372036854775807 then (if t212.size + ((⟨#[46]⟩ : ByteArray) ++ t214).size ≤ 9223372036854775807 then (if a0_1 < 0 then (if 1 + (t212 ++ ((⟨#[46]⟩ : ByteArray) ++ t214)).size ≤ 9223372036854775807 then (some ((⟨#[45]⟩ : ByteArray) ++ (t212 ++ ((⟨#[46]⟩ : ByteArray) ++ t214)))) else (none)) else (some (t212 ++ ((⟨#[46]⟩ : ByteArray) ++ t214)))) else (none)) else (none))) else (if a0_1 < 0 then (if 1 + t212.size ≤ 9223372036854775807 then (some ((⟨#[45]⟩ : ByteArray) ++ t212)) else (none)) else (some t212))) else (none))) = some r := H
  have A8 := Aside0.mk A80
  clear A80
  replace H := Option.bind_eq_some_iff.mp H
  obtain ⟨t213, A90, H⟩ := H
  replace H : (if 1 ≤ (t213.size : Int) then (if (Int.tmod t211 1000000) > 0 then ((strings_TrimRight.f (t213.extract 1 t213.size) (⟨#[48]⟩ : ByteArray)).bind fun t214 => (if 1 + t214.size ≤ 9223372036854775807 then (if t212.size + ((⟨#[46]⟩ : ByteArray) ++ t214).size ≤ 9223372036854775807 then (if a0_1 < 0 then (if 1 + (t212 ++ ((⟨#[46]⟩ : ByteArray) ++ t214)).size ≤ 9223372036854775807 then (some ((⟨#[45]⟩ : ByteArray) ++ (t212 ++ ((⟨#[46]⟩ : ByteArray) ++ t214)))) else (none)) else (some (t212 ++ ((⟨#[46]⟩ : ByteArray) ++ t214)))) else (none)) else (none))) else (if a0_1 < 0 then (if 1 + t212.size ≤ 9223372036854775807 then (some ((⟨#[45]⟩ : ByteArray) ++ t212)) else (none)) else (some t212))) else (none)) = some r := H
  have A9 := Aside0.mk A90
  clear A90
  by_cases c10 : 1 ≤ (t213.size : Int)
  ·rw [if_pos c10] at H
   have c10b0 := eq_true c10
   have c10b1 : decide (1 ≤ (t213.size : Int)) = true := decide_eq_true c10
   clear c10
   by_cases c11 : (Int.tmod t211 1000000) > 0
   ·rw [if_pos c11] at H
    have c11b0 : decide (0 < (Int.tmod t211 1000000)) = true := decide_eq_true c11
    clear c11
    replace H := Option.bind_eq_some_iff.mp H
    obtain ⟨t214, A120, H⟩ := H
    replace H : (if 1 + t214.size ≤ 9223372036854775807 then (if t212.size + ((⟨#[46]⟩ : ByteArray) ++ t214).size ≤ 9223372036854775807 then (if a0_1 < 0 then (if 1 + (t212 ++ ((⟨#[46]⟩ : ByteArray) ++ t214)).size ≤ 9223372036854775807 then (some ((⟨#[45]⟩ : ByteArray) ++ (t212 ++ ((⟨#[46]⟩ : ByteArray) ++ t214)))) else (none)) else (some (t212 ++ ((⟨#[46]⟩ : ByteArray) ++ t214)))) else (none)) else (none)) = some r := H
    have A12 := Aside0.mk A120
    clear A120
    by_cases c13 : 1 + t214.size ≤ 9223372036854775807
    ·rw [if_pos c13] at H
     have c13b0 := eq_true c13
     have c13b1 : decide (1 + t214.size ≤ 9223372036854775807) = true := decide_eq_true c13
     try have c13b2 : (9223372036854775807 < 1 + t214.size) = False := eq_false (Nat.not_lt.2 c13)
     by_cases c14 : t212.size + ((⟨#[46]⟩ : ByteArray) ++ t214).size ≤ 9223372036854775807
     ·rw [if_pos c14] at H
      have c14b0 := eq_true c14
      have c14b1 : decide (t212.size + ((⟨#[46]⟩ : ByteArray) ++ t214).size ≤ 9223372036854775807) = true := decide_eq_true c14
      try have c14b2 : (9223372036854775807 < t212.size + ((⟨#[46]⟩ : ByteArray) ++ t214).size) = False := eq_false (Nat.not_lt.2 c14)
      try (have c14b3 := c14; simp only [ByteArray.size_append, sz_one] at c14b3; have c14b4 := eq_false (Nat.not_lt.2 c14b3); clear c14b3)
      by_cases c15 : a0_1 < 0
      ·rw [if_pos c15] at H
       have c15b0 : decide (a0_1 < 0) = true := decide_eq_true c15
       clear c15
       by_cases c16 : 1 + (t212 ++ ((⟨#[46]⟩ : ByteArray) ++ t214)).size ≤ 9223372036854775807
       ·rw [if_pos c16] at H
        have c16b0 := eq_true c16
        have c16b1 : decide (1 + (t212 ++ ((⟨#[46]⟩ : ByteArray) ++ t214)).size ≤ 9223372036854775807) = true := decide_eq_true c16
        try have c16b2 : (9223372036854775807 < 1 + (t212 ++ ((⟨#[46]⟩ : ByteArray) ++ t214)).size) = False := eq_false (Nat.not_lt.2 c16)
        try (have c16b3 := c16; simp only [ByteArray.size_append, sz_one] at c16b3; have c16b4 := eq_false (Nat.not_lt.2 c16b3); clear c16b3)
        obtain rfl := Option.some.inj H
        go_enter Tryz.func33, Tryz.ntmps33
        go_wp2_with (first | ((with_reducible refine gate_dst (N := 1) rfl ?_); refine box_event ?hg (N := 1) ?hd (cs := #[.bool a0_0, .int .i64 a0_1]) (t := 34) ?hr ?_; (case hd => rfl); (case hg => rfl); (case hr => first | (go_simp; done) | (go_simp; rfl)); intro gb209 hg w17 hbox hb; have n0_ := Aside0.mk (below_step (by repeat (first | (with_reducible first | exact HB.out | apply below_alloc | apply pw_below_drewN | apply below_drew1) | exact HB.out)) hb); have n1_ := Aside0.mk (hbox); have n2_ := Aside0.mk ((by rw [hg]; exact (below_size (by repeat (first | (with_reducible first | exact HB.out | apply below_alloc | apply pw_below_drewN | apply below_drew1) | exact HB.out))) : w.heap.size ≤ gb209)); have n3_ := Aside0.mk ((by rw [hg]; exact (below_size (by repeat (first | (with_reducible first | exact HB.out | apply below_alloc | apply pw_below_drewN | apply below_drew1) | exact HB.out))) : w.heap.size ≤ gb209)); clear HB; have HB := n0_; have BK209 := n1_; have GW209 := n2_; have GE209 := n3_; clear n0_ n1_ n2_ n3_; clear hb hbox hg; have hcz18_0 : w17.cell? ⟨gb209, 0, none⟩ = some (.bool a0_0) := (blk_cell BK209.out 0).trans rfl; have hcz18_1 : w17.cell? ⟨gb209, 1, none⟩ = some (.int .i64 a0_1) := (blk_cell BK209.out 1).trans rfl; have hfz18_0 := blk_frozen BK209.out 0; have hfz18_1 := blk_frozen BK209.out 1) | ((with_reducible refine gate_callee (f := 49) rfl ?_); refine goesL_ (some 7) rfl rfl Tryz.func49 (by kernel_rfl) rfl #[.agg #[.bool a0_0, .int .i64 a0_1]] rfl (by (try simp only [List.map_toArray, List.map_cons, List.map_nil]); first | done | rfl | (simp only [List.length_drop, List.length_take]; rfl)) ?_; (with_reducible refine (fix_over.calls a0_0 a0_1 false _ A2.out).mono ?_); rintro e w19 ⟨rfl, hb⟩; refine ⟨_, rfl, ?_⟩; have n0_ := Aside0.mk (blk_below (g := gb209) (o := .cells #[.bool a0_0, .int .i64 a0_1] 34 (0, 0)) (by (with_reducible repeat (first | refine blk_drewN ?_ _ | refine blk_drew ?_ | refine blk_alloc ?_ _)); exact BK209.out) hb); have n1_ := Aside0.mk (below_step (by repeat (first | (with_reducible first | exact HB.out | apply below_alloc | apply pw_below_drewN | apply below_drew1 | refine below_set ?_ GE209.out) | exact HB.out)) hb); clear BK209; clear HB; have BK209 := n0_; have HB := n1_; clear n0_ n1_; (try clear hb); (try clear hb2); (try clear hk); (try clear hi); have hcz20_0 : w19.cell? ⟨gb209, 0, none⟩ = some (.bool a0_0) := (blk_cell BK209.out 0).trans rfl; have hcz20_1 : w19.cell? ⟨gb209, 1, none⟩ = some (.int .i64 a0_1) := (blk_cell BK209.out 1).trans rfl; have hfz20_0 := blk_frozen BK209.out 0; have hfz20_1 := blk_frozen BK209.out 1) | ((with_reducible refine gate_callee (f := 50) rfl ?_); refine goesL_ (some 10) rfl rfl Tryz.func50 (by kernel_rfl) rfl #[.int .i64 a0_1] rfl (by (try simp only [List.map_toArray, List.map_cons, List.map_nil]); first | done | rfl | (simp only [List.length_drop, List.length_take]; rfl)) ?_; (with_reducible refine (fix_size.calls a0_1 t211 _ A7.out).mono ?_); rintro e w' ⟨rfl, ⟨nd, rfl⟩⟩; refine ⟨_, rfl, ?_⟩) | ((with_reducible refine gate_callee (f := 51) rfl ?_); refine goesL_ (some 13) rfl rfl Tryz.func51 (by kernel_rfl) rfl #[.int .u64 (IntKind.u64.wrap (Int.tdiv t211 1000000)), .int .i64 10] rfl (by (try simp only [List.map_toArray, List.map_cons, List.map_nil]); first | done | rfl | (simp only [List.length_drop, List.length_take]; rfl)) ?_; (with_reducible refine (strconv_FormatUint.calls (IntKind.u64.wrap (Int.tdiv t211 1000000)) 10 t212 _ ?side1 A8.out).mono ?_); (case side1 => exact LaidW.below HLW.out (by repeat (first | (with_reducible first | exact HB.out | apply below_alloc | apply pw_below_drewN | apply below_drew1) | exact HB.out | (refine below_set ?_ (Aside0.out ?hge); (case hge => assumption))))); rintro e w21 ⟨rfl, hb⟩; refine ⟨_, rfl, ?_⟩; have n0_ := Aside0.mk (blk_below (g := gb209) (o := .cells #[.bool a0_0, .int .i64 a0_1] 34 (0, 0)) (by (with_reducible repeat (first | refine blk_drewN ?_ _ | refine blk_drew ?_ | refine blk_alloc ?_ _)); exact BK209.out) hb); have n1_ := Aside0.mk (below_step (by repeat (first | (with_reducible first | exact HB.out | apply below_alloc | apply pw_below_drewN | apply below_drew1 | refine below_set ?_ GE209.out) | exact HB.out)) hb); clear BK209; clear HB; have BK209 := n0_; have HB := n1_; clear n0_ n1_; (try clear hb); (try clear hb2); (try clear hk); (try clear hi)) | ((with_reducible refine gate_callee (f := 51) rfl ?_); refine goesL_ (some 17) rfl rfl Tryz.func51 (by kernel_rfl) rfl #[.int .u64 (IntKind.u64.wrap ((Int.tmod t211 1000000) + 1000000)), .int .i64 10] rfl (by (try simp only [List.map_toArray, List.map_cons, List.map_nil]); first | done | rfl | (simp only [List.length_drop, List.length_take]; rfl)) ?_; (with_reducible refine (strconv_FormatUint.calls (IntKind.u64.wrap ((Int.tmod t211 1000000) + 1000000)) 10 t213 _ ?side1 A9.out).mono ?_); (case side1 => exact LaidW.below HLW.out (by repeat (first | (with_reducible first | exact HB.out | apply below_alloc | apply pw_below_drewN | apply below_drew1) | exact HB.out | (refine below_set ?_ (Aside0.out ?hge); (case hge => assumption))))); rintro e w22 ⟨rfl, hb⟩; refine ⟨_, rfl, ?_⟩; have n0_ := Aside0.mk (blk_below (g := gb209) (o := .cells #[.bool a0_0, .int .i64 a0_1] 34 (0, 0)) (by (with_reducible repeat (first | refine blk_drewN ?_ _ | refine blk_drew ?_ | refine blk_alloc ?_ _)); exact BK209.out) hb); have n1_ := Aside0.mk (below_step (by repeat (first | (with_reducible first | exact HB.out | apply below_alloc | apply pw_below_drewN | apply below_drew1 | refine below_set ?_ GE209.out) | exact HB.out)) hb); clear BK209; clear HB; have BK209 := n0_; have HB := n1_; clear n0_ n1_; (try clear hb); (try clear hb2); (try clear hk); (try clear hi)) | ((with_reducible refine gate_callee (f := 52) rfl ?_); refine goesL_ (some 24) rfl rfl Tryz.func52 (by kernel_rfl) rfl #[.string (t213.extract 1 t213.size), .string (⟨#[48]⟩ : ByteArray)] rfl (by (try simp only [List.map_toArray, List.map_cons, List.map_nil]); first | done | rfl | (simp only [List.length_drop, List.length_take]; rfl)) ?_; (with_reducible refine (strings_TrimRight.calls (t213.extract 1 t213.size) (⟨#[48]⟩ : ByteArray) t214 _ A12.out).mono ?_); rintro e w23 ⟨rfl, hb⟩; refine ⟨_, rfl, ?_⟩; have n0_ := Aside0.mk (blk_below (g := gb209) (o := .cells #[.bool a0_0, .int .i64 a0_1] 34 (0, 0)) (by (with_reducible repeat (first | refine blk_drewN ?_ _ | refine blk_drew ?_ | refine blk_alloc ?_ _)); exact BK209.out) hb); have n1_ := Aside0.mk (below_step (by repeat (first | (with_reducible first | exact HB.out | apply below_alloc | apply pw_below_drewN | apply below_drew1 | refine below_set ?_ GE209.out) | exact HB.out)) hb); clear BK209; clear HB; have BK209 := n0_; have HB := n1_; clear n0_ n1_; (try clear hb); (try clear hb2); (try clear hk); (try clear hi); have hcz24_0 : w23.cell? ⟨gb209, 0, none⟩ = some (.bool a0_0) := (blk_cell BK209.out 0).trans rfl; have hcz24_1 : w23.cell? ⟨gb209, 1, none⟩ = some (.int .i64 a0_1) := (blk_cell BK209.out 1).trans rfl; have hfz24_0 := blk_frozen BK209.out 0; have hfz24_1 := blk_frozen BK209.out 1))
        go_ret
        exact ⟨by first | rfl | (simp [errW_none, errW_some] <;> rfl) | (simp [*, errW_none, errW_some] <;> rfl), by repeat (first | (with_reducible first | exact HB.out | apply below_alloc | apply pw_below_drewN | apply below_drew1 | refine below_set ?_ GE209.out) | exact HB.out)⟩
       ·rw [if_neg c16] at H
        exact absurd H (by simp)
      ·rw [if_neg c15] at H
       have c15b0 : decide (a0_1 < 0) = false := decide_eq_false c15
       clear c15
       obtain rfl := Option.some.inj H
       go_enter Tryz.func33, Tryz.ntmps33
       go_wp2_with (first | ((with_reducible refine gate_dst (N := 1) rfl ?_); refine box_event ?hg (N := 1) ?hd (cs := #[.bool a0_0, .int .i64 a0_1]) (t := 34) ?hr ?_; (case hd => rfl); (case hg => rfl); (case hr => first | (go_simp; done) | (go_simp; rfl)); intro gb209 hg w25 hbox hb; have n0_ := Aside0.mk (below_step (by repeat (first | (with_reducible first | exact HB.out | apply below_alloc | apply pw_below_drewN | apply below_drew1) | exact HB.out)) hb); have n1_ := Aside0.mk (hbox); have n2_ := Aside0.mk ((by rw [hg]; exact (below_size (by repeat (first | (with_reducible first | exact HB.out | apply below_alloc | apply pw_below_drewN | apply below_drew1) | exact HB.out))) : w.heap.size ≤ gb209)); have n3_ := Aside0.mk ((by rw [hg]; exact (below_size (by repeat (first | (with_reducible first | exact HB.out | apply below_alloc | apply pw_below_drewN | apply below_drew1) | exact HB.out))) : w.heap.size ≤ gb209)); clear HB; have HB := n0_; have BK209 := n1_; have GW209 := n2_; have GE209 := n3_; clear n0_ n1_ n2_ n3_; clear hb hbox hg; have hcz26_0 : w25.cell? ⟨gb209, 0, none⟩ = some (.bool a0_0) := (blk_cell BK209.out 0).trans rfl; have hcz26_1 : w25.cell? ⟨gb209, 1, none⟩ = some (.int .i64 a0_1) := (blk_cell BK209.out 1).trans rfl; have hfz26_0 := blk_frozen BK209.out 0; have hfz26_1 := blk_frozen BK209.out 1) | ((with_reducible refine gate_callee (f := 49) rfl ?_); refine goesL_ (some 7) rfl rfl Tryz.func49 (by kernel_rfl) rfl #[.agg #[.bool a0_0, .int .i64 a0_1]] rfl (by (try simp only [List.map_toArray, List.map_cons, List.map_nil]); first | done | rfl | (simp only [List.length_drop, List.length_take]; rfl)) ?_; (with_reducible refine (fix_over.calls a0_0 a0_1 false _ A2.out).mono ?_); rintro e w27 ⟨rfl, hb⟩; refine ⟨_, rfl, ?_⟩; have n0_ := Aside0.mk (blk_below (g := gb209) (o := .cells #[.bool a0_0, .int .i64 a0_1] 34 (0, 0)) (by (with_reducible repeat (first | refine blk_drewN ?_ _ | refine blk_drew ?_ | refine blk_alloc ?_ _)); exact BK209.out) hb); have n1_ := Aside0.mk (below_step (by repeat (first | (with_reducible first | exact HB.out | apply below_alloc | apply pw_below_drewN | apply below_drew1 | refine below_set ?_ GE209.out) | exact HB.out)) hb); clear BK209; clear HB; have BK209 := n0_; have HB := n1_; clear n0_ n1_; (try clear hb); (try clear hb2); (try clear hk); (try clear hi); have hcz28_0 : w27.cell? ⟨gb209, 0, none⟩ = some (.bool a0_0) := (blk_cell BK209.out 0).trans rfl; have hcz28_1 : w27.cell? ⟨gb209, 1, none⟩ = some (.int .i64 a0_1) := (blk_cell BK209.out 1).trans rfl; have hfz28_0 := blk_frozen BK209.out 0; have hfz28_1 := blk_frozen BK209.out 1) | ((with_reducible refine gate_callee (f := 50) rfl ?_); refine goesL_ (some 10) rfl rfl Tryz.func50 (by kernel_rfl) rfl #[.int .i64 a0_1] rfl (by (try simp only [List.map_toArray, List.map_cons, List.map_nil]); first | done | rfl | (simp only [List.length_drop, List.length_take]; rfl)) ?_; (with_reducible refine (fix_size.calls a0_1 t211 _ A7.out).mono ?_); rintro e w' ⟨rfl, ⟨nd, rfl⟩⟩; refine ⟨_, rfl, ?_⟩) | ((with_reducible refine gate_callee (f := 51) rfl ?_); refine goesL_ (some 13) rfl rfl Tryz.func51 (by kernel_rfl) rfl #[.int .u64 (IntKind.u64.wrap (Int.tdiv t211 1000000)), .int .i64 10] rfl (by (try simp only [List.map_toArray, List.map_cons, List.map_nil]); first | done | rfl | (simp only [List.length_drop, List.length_take]; rfl)) ?_; (with_reducible refine (strconv_FormatUint.calls (IntKind.u64.wrap (Int.tdiv t211 1000000)) 10 t212 _ ?side1 A8.out).mono ?_); (case side1 => exact LaidW.below HLW.out (by repeat (first | (with_reducible first | exact HB.out | apply below_alloc | apply pw_below_drewN | apply below_drew1) | exact HB.out | (refine below_set ?_ (Aside0.out ?hge); (case hge => assumption))))); rintro e w29 ⟨rfl, hb⟩; refine ⟨_, rfl, ?_⟩; have n0_ := Aside0.mk (blk_below (g := gb209) (o := .cells #[.bool a0_0, .int .i64 a0_1] 34 (0, 0)) (by (with_reducible repeat (first | refine blk_drewN ?_ _ | refine blk_drew ?_ | refine blk_alloc ?_ _)); exact BK209.out) hb); have n1_ := Aside0.mk (below_step (by repeat (first | (with_reducible first | exact HB.out | apply below_alloc | apply pw_below_drewN | apply below_drew1 | refine below_set ?_ GE209.out) | exact HB.out)) hb); clear BK209; clear HB; have BK209 := n0_; have HB := n1_; clear n0_ n1_; (try clear hb); (try clear hb2); (try clear hk); (try clear hi)) | ((with_reducible refine gate_callee (f := 51) rfl ?_); refine goesL_ (some 17) rfl rfl Tryz.func51 (by kernel_rfl) rfl #[.int .u64 (IntKind.u64.wrap ((Int.tmod t211 1000000) + 1000000)), .int .i64 10] rfl (by (try simp only [List.map_toArray, List.map_cons, List.map_nil]); first | done | rfl | (simp only [List.length_drop, List.length_take]; rfl)) ?_; (with_reducible refine (strconv_FormatUint.calls (IntKind.u64.wrap ((Int.tmod t211 1000000) + 1000000)) 10 t213 _ ?side1 A9.out).mono ?_); (case side1 => exact LaidW.below HLW.out (by repeat (first | (with_reducible first | exact HB.out | apply below_alloc | apply pw_below_drewN | apply below_drew1) | exact HB.out | (refine below_set ?_ (Aside0.out ?hge); (case hge => assumption))))); rintro e w30 ⟨rfl, hb⟩; refine ⟨_, rfl, ?_⟩; have n0_ := Aside0.mk (blk_below (g := gb209) (o := .cells #[.bool a0_0, .int .i64 a0_1] 34 (0, 0)) (by (with_reducible repeat (first | refine blk_drewN ?_ _ | refine blk_drew ?_ | refine blk_alloc ?_ _)); exact BK209.out) hb); have n1_ := Aside0.mk (below_step (by repeat (first | (with_reducible first | exact HB.out | apply below_alloc | apply pw_below_drewN | apply below_drew1 | refine below_set ?_ GE209.out) | exact HB.out)) hb); clear BK209; clear HB; have BK209 := n0_; have HB := n1_; clear n0_ n1_; (try clear hb); (try clear hb2); (try clear hk); (try clear hi)) | ((with_reducible refine gate_callee (f := 52) rfl ?_); refine goesL_ (some 24) rfl rfl Tryz.func52 (by kernel_rfl) rfl #[.string (t213.extract 1 t213.size), .string (⟨#[48]⟩ : ByteArray)] rfl (by (try simp only [List.map_toArray, List.map_cons, List.map_nil]); first | done | rfl | (simp only [List.length_drop, List.length_take]; rfl)) ?_; (with_reducible refine (strings_TrimRight.calls (t213.extract 1 t213.size) (⟨#[48]⟩ : ByteArray) t214 _ A12.out).mono ?_); rintro e w31 ⟨rfl, hb⟩; refine ⟨_, rfl, ?_⟩; have n0_ := Aside0.mk (blk_below (g := gb209) (o := .cells #[.bool a0_0, .int .i64 a0_1] 34 (0, 0)) (by (with_reducible repeat (first | refine blk_drewN ?_ _ | refine blk_drew ?_ | refine blk_alloc ?_ _)); exact BK209.out) hb); have n1_ := Aside0.mk (below_step (by repeat (first | (with_reducible first | exact HB.out | apply below_alloc | apply pw_below_drewN | apply below_drew1 | refine below_set ?_ GE209.out) | exact HB.out)) hb); clear BK209; clear HB; have BK209 := n0_; have HB := n1_; clear n0_ n1_; (try clear hb); (try clear hb2); (try clear hk); (try clear hi); have hcz32_0 : w31.cell? ⟨gb209, 0, none⟩ = some (.bool a0_0) := (blk_cell BK209.out 0).trans rfl; have hcz32_1 : w31.cell? ⟨gb209, 1, none⟩ = some (.int .i64 a0_1) := (blk_cell BK209.out 1).trans rfl; have hfz32_0 := blk_frozen BK209.out 0; have hfz32_1 := blk_frozen BK209.out 1))
       go_ret
       exact ⟨by first | rfl | (simp [errW_none, errW_some] <;> rfl) | (simp [*, errW_none, errW_some] <;> rfl), by repeat (first | (with_reducible first | exact HB.out | apply below_alloc | apply pw_below_drewN | apply below_drew1 | refine below_set ?_ GE209.out) | exact HB.out)⟩
     ·rw [if_neg c14] at H
      exact absurd H (by simp)
    ·rw [if_neg c13] at H
     exact absurd H (by simp)
   ·rw [if_neg c11] at H
    have c11b0 : decide (0 < (Int.tmod t211 1000000)) = false := decide_eq_false c11
    clear c11
    by_cases c33 : a0_1 < 0
    ·rw [if_pos c33] at H
     have c33b0 : decide (a0_1 < 0) = true := decide_eq_true c33
     clear c33
     by_cases c34 : 1 + t212.size ≤ 9223372036854775807
     ·rw [if_pos c34] at H
      have c34b0 := eq_true c34
      have c34b1 : decide (1 + t212.size ≤ 9223372036854775807) = true := decide_eq_true c34
      try have c34b2 : (9223372036854775807 < 1 + t212.size) = False := eq_false (Nat.not_lt.2 c34)
      obtain rfl := Option.some.inj H
      go_enter Tryz.func33, Tryz.ntmps33
      go_wp2_with (first | ((with_reducible refine gate_dst (N := 1) rfl ?_); refine box_event ?hg (N := 1) ?hd (cs := #[.bool a0_0, .int .i64 a0_1]) (t := 34) ?hr ?_; (case hd => rfl); (case hg => rfl); (case hr => first | (go_simp; done) | (go_simp; rfl)); intro gb209 hg w35 hbox hb; have n0_ := Aside0.mk (below_step (by repeat (first | (with_reducible first | exact HB.out | apply below_alloc | apply pw_below_drewN | apply below_drew1) | exact HB.out)) hb); have n1_ := Aside0.mk (hbox); have n2_ := Aside0.mk ((by rw [hg]; exact (below_size (by repeat (first | (with_reducible first | exact HB.out | apply below_alloc | apply pw_below_drewN | apply below_drew1) | exact HB.out))) : w.heap.size ≤ gb209)); have n3_ := Aside0.mk ((by rw [hg]; exact (below_size (by repeat (first | (with_reducible first | exact HB.out | apply below_alloc | apply pw_below_drewN | apply below_drew1) | exact HB.out))) : w.heap.size ≤ gb209)); clear HB; have HB := n0_; have BK209 := n1_; have GW209 := n2_; have GE209 := n3_; clear n0_ n1_ n2_ n3_; clear hb hbox hg; have hcz36_0 : w35.cell? ⟨gb209, 0, none⟩ = some (.bool a0_0) := (blk_cell BK209.out 0).trans rfl; have hcz36_1 : w35.cell? ⟨gb209, 1, none⟩ = some (.int .i64 a0_1) := (blk_cell BK209.out 1).trans rfl; have hfz36_0 := blk_frozen BK209.out 0; have hfz36_1 := blk_frozen BK209.out 1) | ((with_reducible refine gate_callee (f := 49) rfl ?_); refine goesL_ (some 7) rfl rfl Tryz.func49 (by kernel_rfl) rfl #[.agg #[.bool a0_0, .int .i64 a0_1]] rfl (by (try simp only [List.map_toArray, List.map_cons, List.map_nil]); first | done | rfl | (simp only [List.length_drop, List.length_take]; rfl)) ?_; (with_reducible refine (fix_over.calls a0_0 a0_1 false _ A2.out).mono ?_); rintro e w37 ⟨rfl, hb⟩; refine ⟨_, rfl, ?_⟩; have n0_ := Aside0.mk (blk_below (g := gb209) (o := .cells #[.bool a0_0, .int .i64 a0_1] 34 (0, 0)) (by (with_reducible repeat (first | refine blk_drewN ?_ _ | refine blk_drew ?_ | refine blk_alloc ?_ _)); exact BK209.out) hb); have n1_ := Aside0.mk (below_step (by repeat (first | (with_reducible first | exact HB.out | apply below_alloc | apply pw_below_drewN | apply below_drew1 | refine below_set ?_ GE209.out) | exact HB.out)) hb); clear BK209; clear HB; have BK209 := n0_; have HB := n1_; clear n0_ n1_; (try clear hb); (try clear hb2); (try clear hk); (try clear hi); have hcz38_0 : w37.cell? ⟨gb209, 0, none⟩ = some (.bool a0_0) := (blk_cell BK209.out 0).trans rfl; have hcz38_1 : w37.cell? ⟨gb209, 1, none⟩ = some (.int .i64 a0_1) := (blk_cell BK209.out 1).trans rfl; have hfz38_0 := blk_frozen BK209.out 0; have hfz38_1 := blk_frozen BK209.out 1) | ((with_reducible refine gate_callee (f := 50) rfl ?_); refine goesL_ (some 10) rfl rfl Tryz.func50 (by kernel_rfl) rfl #[.int .i64 a0_1] rfl (by (try simp only [List.map_toArray, List.map_cons, List.map_nil]); first | done | rfl | (simp only [List.length_drop, List.length_take]; rfl)) ?_; (with_reducible refine (fix_size.calls a0_1 t211 _ A7.out).mono ?_); rintro e w' ⟨rfl, ⟨nd, rfl⟩⟩; refine ⟨_, rfl, ?_⟩) | ((with_reducible refine gate_callee (f := 51) rfl ?_); refine goesL_ (some 13) rfl rfl Tryz.func51 (by kernel_rfl) rfl #[.int .u64 (IntKind.u64.wrap (Int.tdiv t211 1000000)), .int .i64 10] rfl (by (try simp only [List.map_toArray, List.map_cons, List.map_nil]); first | done | rfl | (simp only [List.length_drop, List.length_take]; rfl)) ?_; (with_reducible refine (strconv_FormatUint.calls (IntKind.u64.wrap (Int.tdiv t211 1000000)) 10 t212 _ ?side1 A8.out).mono ?_); (case side1 => exact LaidW.below HLW.out (by repeat (first | (with_reducible first | exact HB.out | apply below_alloc | apply pw_below_drewN | apply below_drew1) | exact HB.out | (refine below_set ?_ (Aside0.out ?hge); (case hge => assumption))))); rintro e w39 ⟨rfl, hb⟩; refine ⟨_, rfl, ?_⟩; have n0_ := Aside0.mk (blk_below (g := gb209) (o := .cells #[.bool a0_0, .int .i64 a0_1] 34 (0, 0)) (by (with_reducible repeat (first | refine blk_drewN ?_ _ | refine blk_drew ?_ | refine blk_alloc ?_ _)); exact BK209.out) hb); have n1_ := Aside0.mk (below_step (by repeat (first | (with_reducible first | exact HB.out | apply below_alloc | apply pw_below_drewN | apply below_drew1 | refine below_set ?_ GE209.out) | exact HB.out)) hb); clear BK209; clear HB; have BK209 := n0_; have HB := n1_; clear n0_ n1_; (try clear hb); (try clear hb2); (try clear hk); (try clear hi)) | ((with_reducible refine gate_callee (f := 51) rfl ?_); refine goesL_ (some 17) rfl rfl Tryz.func51 (by kernel_rfl) rfl #[.int .u64 (IntKind.u64.wrap ((Int.tmod t211 1000000) + 1000000)), .int .i64 10] rfl (by (try simp only [List.map_toArray, List.map_cons, List.map_nil]); first | done | rfl | (simp only [List.length_drop, List.length_take]; rfl)) ?_; (with_reducible refine (strconv_FormatUint.calls (IntKind.u64.wrap ((Int.tmod t211 1000000) + 1000000)) 10 t213 _ ?side1 A9.out).mono ?_); (case side1 => exact LaidW.below HLW.out (by repeat (first | (with_reducible first | exact HB.out | apply below_alloc | apply pw_below_drewN | apply below_drew1) | exact HB.out | (refine below_set ?_ (Aside0.out ?hge); (case hge => assumption))))); rintro e w40 ⟨rfl, hb⟩; refine ⟨_, rfl, ?_⟩; have n0_ := Aside0.mk (blk_below (g := gb209) (o := .cells #[.bool a0_0, .int .i64 a0_1] 34 (0, 0)) (by (with_reducible repeat (first | refine blk_drewN ?_ _ | refine blk_drew ?_ | refine blk_alloc ?_ _)); exact BK209.out) hb); have n1_ := Aside0.mk (below_step (by repeat (first | (with_reducible first | exact HB.out | apply below_alloc | apply pw_below_drewN | apply below_drew1 | refine below_set ?_ GE209.out) | exact HB.out)) hb); clear BK209; clear HB; have BK209 := n0_; have HB := n1_; clear n0_ n1_; (try clear hb); (try clear hb2); (try clear hk); (try clear hi); have hcz41_0 : w40.cell? ⟨gb209, 0, none⟩ = some (.bool a0_0) := (blk_cell BK209.out 0).trans rfl; have hcz41_1 : w40.cell? ⟨gb209, 1, none⟩ = some (.int .i64 a0_1) := (blk_cell BK209.out 1).trans rfl; have hfz41_0 := blk_frozen BK209.out 0; have hfz41_1 := blk_frozen BK209.out 1))
      go_ret
      exact ⟨by first | rfl | (simp [errW_none, errW_some] <;> rfl) | (simp [*, errW_none, errW_some] <;> rfl), by repeat (first | (with_reducible first | exact HB.out | apply below_alloc | apply pw_below_drewN | apply below_drew1 | refine below_set ?_ GE209.out) | exact HB.out)⟩
     ·rw [if_neg c34] at H
      exact absurd H (by simp)
    ·rw [if_neg c33] at H
     have c33b0 : decide (a0_1 < 0) = false := decide_eq_false c33
     clear c33
     obtain rfl := Option.some.inj H
     go_enter Tryz.func33, Tryz.ntmps33
     go_wp2_with (first | ((with_reducible refine gate_dst (N := 1) rfl ?_); refine box_event ?hg (N := 1) ?hd (cs := #[.bool a0_0, .int .i64 a0_1]) (t := 34) ?hr ?_; (case hd => rfl); (case hg => rfl); (case hr => first | (go_simp; done) | (go_simp; rfl)); intro gb209 hg w42 hbox hb; have n0_ := Aside0.mk (below_step (by repeat (first | (with_reducible first | exact HB.out | apply below_alloc | apply pw_below_drewN | apply below_drew1) | exact HB.out)) hb); have n1_ := Aside0.mk (hbox); have n2_ := Aside0.mk ((by rw [hg]; exact (below_size (by repeat (first | (with_reducible first | exact HB.out | apply below_alloc | apply pw_below_drewN | apply below_drew1) | exact HB.out))) : w.heap.size ≤ gb209)); have n3_ := Aside0.mk ((by rw [hg]; exact (below_size (by repeat (first | (with_reducible first | exact HB.out | apply below_alloc | apply pw_below_drewN | apply below_drew1) | exact HB.out))) : w.heap.size ≤ gb209)); clear HB; have HB := n0_; have BK209 := n1_; have GW209 := n2_; have GE209 := n3_; clear n0_ n1_ n2_ n3_; clear hb hbox hg; have hcz43_0 : w42.cell? ⟨gb209, 0, none⟩ = some (.bool a0_0) := (blk_cell BK209.out 0).trans rfl; have hcz43_1 : w42.cell? ⟨gb209, 1, none⟩ = some (.int .i64 a0_1) := (blk_cell BK209.out 1).trans rfl; have hfz43_0 := blk_frozen BK209.out 0; have hfz43_1 := blk_frozen BK209.out 1) | ((with_reducible refine gate_callee (f := 49) rfl ?_); refine goesL_ (some 7) rfl rfl Tryz.func49 (by kernel_rfl) rfl #[.agg #[.bool a0_0, .int .i64 a0_1]] rfl (by (try simp only [List.map_toArray, List.map_cons, List.map_nil]); first | done | rfl | (simp only [List.length_drop, List.length_take]; rfl)) ?_; (with_reducible refine (fix_over.calls a0_0 a0_1 false _ A2.out).mono ?_); rintro e w44 ⟨rfl, hb⟩; refine ⟨_, rfl, ?_⟩; have n0_ := Aside0.mk (blk_below (g := gb209) (o := .cells #[.bool a0_0, .int .i64 a0_1] 34 (0, 0)) (by (with_reducible repeat (first | refine blk_drewN ?_ _ | refine blk_drew ?_ | refine blk_alloc ?_ _)); exact BK209.out) hb); have n1_ := Aside0.mk (below_step (by repeat (first | (with_reducible first | exact HB.out | apply below_alloc | apply pw_below_drewN | apply below_drew1 | refine below_set ?_ GE209.out) | exact HB.out)) hb); clear BK209; clear HB; have BK209 := n0_; have HB := n1_; clear n0_ n1_; (try clear hb); (try clear hb2); (try clear hk); (try clear hi); have hcz45_0 : w44.cell? ⟨gb209, 0, none⟩ = some (.bool a0_0) := (blk_cell BK209.out 0).trans rfl; have hcz45_1 : w44.cell? ⟨gb209, 1, none⟩ = some (.int .i64 a0_1) := (blk_cell BK209.out 1).trans rfl; have hfz45_0 := blk_frozen BK209.out 0; have hfz45_1 := blk_frozen BK209.out 1) | ((with_reducible refine gate_callee (f := 50) rfl ?_); refine goesL_ (some 10) rfl rfl Tryz.func50 (by kernel_rfl) rfl #[.int .i64 a0_1] rfl (by (try simp only [List.map_toArray, List.map_cons, List.map_nil]); first | done | rfl | (simp only [List.length_drop, List.length_take]; rfl)) ?_; (with_reducible refine (fix_size.calls a0_1 t211 _ A7.out).mono ?_); rintro e w' ⟨rfl, ⟨nd, rfl⟩⟩; refine ⟨_, rfl, ?_⟩) | ((with_reducible refine gate_callee (f := 51) rfl ?_); refine goesL_ (some 13) rfl rfl Tryz.func51 (by kernel_rfl) rfl #[.int .u64 (IntKind.u64.wrap (Int.tdiv t211 1000000)), .int .i64 10] rfl (by (try simp only [List.map_toArray, List.map_cons, List.map_nil]); first | done | rfl | (simp only [List.length_drop, List.length_take]; rfl)) ?_; (with_reducible refine (strconv_FormatUint.calls (IntKind.u64.wrap (Int.tdiv t211 1000000)) 10 t212 _ ?side1 A8.out).mono ?_); (case side1 => exact LaidW.below HLW.out (by repeat (first | (with_reducible first | exact HB.out | apply below_alloc | apply pw_below_drewN | apply below_drew1) | exact HB.out | (refine below_set ?_ (Aside0.out ?hge); (case hge => assumption))))); rintro e w46 ⟨rfl, hb⟩; refine ⟨_, rfl, ?_⟩; have n0_ := Aside0.mk (blk_below (g := gb209) (o := .cells #[.bool a0_0, .int .i64 a0_1] 34 (0, 0)) (by (with_reducible repeat (first | refine blk_drewN ?_ _ | refine blk_drew ?_ | refine blk_alloc ?_ _)); exact BK209.out) hb); have n1_ := Aside0.mk (below_step (by repeat (first | (with_reducible first | exact HB.out | apply below_alloc | apply pw_below_drewN | apply below_drew1 | refine below_set ?_ GE209.out) | exact HB.out)) hb); clear BK209; clear HB; have BK209 := n0_; have HB := n1_; clear n0_ n1_; (try clear hb); (try clear hb2); (try clear hk); (try clear hi)) | ((with_reducible refine gate_callee (f := 51) rfl ?_); refine goesL_ (some 17) rfl rfl Tryz.func51 (by kernel_rfl) rfl #[.int .u64 (IntKind.u64.wrap ((Int.tmod t211 1000000) + 1000000)), .int .i64 10] rfl (by (try simp only [List.map_toArray, List.map_cons, List.map_nil]); first | done | rfl | (simp only [List.length_drop, List.length_take]; rfl)) ?_; (with_reducible refine (strconv_FormatUint.calls (IntKind.u64.wrap ((Int.tmod t211 1000000) + 1000000)) 10 t213 _ ?side1 A9.out).mono ?_); (case side1 => exact LaidW.below HLW.out (by repeat (first | (with_reducible first | exact HB.out | apply below_alloc | apply pw_below_drewN | apply below_drew1) | exact HB.out | (refine below_set ?_ (Aside0.out ?hge); (case hge => assumption))))); rintro e w47 ⟨rfl, hb⟩; refine ⟨_, rfl, ?_⟩; have n0_ := Aside0.mk (blk_below (g := gb209) (o := .cells #[.bool a0_0, .int .i64 a0_1] 34 (0, 0)) (by (with_reducible repeat (first | refine blk_drewN ?_ _ | refine blk_drew ?_ | refine blk_alloc ?_ _)); exact BK209.out) hb); have n1_ := Aside0.mk (below_step (by repeat (first | (with_reducible first | exact HB.out | apply below_alloc | apply pw_below_drewN | apply below_drew1 | refine below_set ?_ GE209.out) | exact HB.out)) hb); clear BK209; clear HB; have BK209 := n0_; have HB := n1_; clear n0_ n1_; (try clear hb); (try clear hb2); (try clear hk); (try clear hi); have hcz48_0 : w47.cell? ⟨gb209, 0, none⟩ = some (.bool a0_0) := (blk_cell BK209.out 0).trans rfl; have hcz48_1 : w47.cell? ⟨gb209, 1, none⟩ = some (.int .i64 a0_1) := (blk_cell BK209.out 1).trans rfl; have hfz48_0 := blk_frozen BK209.out 0; have hfz48_1 := blk_frozen BK209.out 1))
     go_ret
     exact ⟨by first | rfl | (simp [errW_none, errW_some] <;> rfl) | (simp [*, errW_none, errW_some] <;> rfl), by repeat (first | (with_reducible first | exact HB.out | apply below_alloc | apply pw_below_drewN | apply below_drew1 | refine below_set ?_ GE209.out) | exact HB.out)⟩
  ·rw [if_neg c10] at H
   exact absurd H (by simp)

end Go.Proofs.YtnjobjogddjelaaGreatDoor.Print
end

section
namespace Go.Proofs.YtnjobjogddjelaaGreatDoor.PureN
open Go.RowKit Go.Proofs.YtnjobjogddjelaaGreatDoor.Print Go.Proofs.YtnjobjogddjelaaGreatDoor.Pure Go.Proofs.YtnjobjogddjelaaGreatDoorW.PrintWords Go.Proofs.YtnjobjogddjelaaGreatDoorW.PrintLast Go.Proofs.YtnjobjogddjelaaGreatDoorW.PrintMore

/-! A number's text. -/
theorem extract_list (l : List UInt8) (k : Nat) : (⟨l.toArray⟩ : ByteArray).extract k l.length = ⟨(l.drop k).toArray⟩ := by
 rw [ByteArray.extract_mk]
 congr 1
 apply Array.toList_inj.1
 simp only [List.extract_toArray, List.extract_eq_take_drop]
 exact List.take_of_length_le (by simp)
end Go.Proofs.YtnjobjogddjelaaGreatDoor.PureN
end

section
namespace Go.Proofs.YtnjobjogddjelaaGreatDoor.Print
open Go.Sort Go.Shelf
open Go.RowKit Go.Proofs.YtnjobjogddjelaaGreatDoorX Go.Proofs.YtnjobjogddjelaaGreatDoorW.PrintWords Go.Proofs.YtnjobjogddjelaaGreatDoorW.PrintLast Go.Proofs.YtnjobjogddjelaaGreatDoorW.PrintMore
attribute [local go_sem] max2_int min2_int max_two min_two max_three min_three max_four min_four

/-! (*strings.Builder).copyCheck, WriteByte, by hand. -/
set_option maxHeartbeats 2000000 in
set_option maxRecDepth 100000 in
theorem copyCheck_fresh (b : Nat) (w : World) (h0 : w.cell? ⟨b, 0, none⟩ = some (.pointer none)) (hsh : w.shape? b = some (60, 2)) (hfz : w.frozen? ⟨b, 0, none⟩ = false) :
  Calls Tryz.prog 55 #[.pointer (some ⟨b, 0, none⟩)] w fun e w' => e = .returned (.tuple #[]) ∧ w' = w.setCell ⟨b, 0, none⟩ (.pointer (some ⟨b, 0, none⟩)) := by
 obtain ⟨j, hj, hjs⟩ : ∃ j, Tryz.prog.info? 60 = some j ∧ j.size = 2 := Option.map_eq_some_iff.1 (by kernel_rfl : (Tryz.prog.info? 60).map (·.size) = some 2)
 have t70 : Tryz.prog.underlying 58 = some (.pointer 60) := by kernel_rfl
 have t164 : Tryz.prog.underlying 102 = some .unsafePointer := by kernel_rfl
 have lies : liesAt Tryz.prog Tryz.prog.depth 60 (2 / Tryz.prog.cellsOf 60) 0 60 1 = true := by kernel_rfl
 go_enter Tryz.func55, Tryz.ntmps55
 go_wp2
 rw [Lib.run_to_unsafe w ⟨b, 0, none⟩ t70 t164 hj (by rw [hjs]; decide) hsh (Nat.zero_lt_succ 1)]
 simp only [Result.andThen]
 rw [Oper.upon_value]
 go_wp2
 rw [run_callFunc_extern Tryz.func75 (by kernel_rfl) (by kernel_rfl) (by kernel_rfl) (e := Extern.AbiNoEscape.same) (by kernel_rfl)]
 rw [Lib.run_noEscape]
 simp only [Result.andThen]
 rw [Oper.upon_value]
 go_wp2
 rw [Lib.run_from_unsafe w ⟨b, 0, none⟩ t164 t70 hj hsh lies]
 simp only [Result.andThen]
 rw [Oper.upon_value]
 go_wp2
 go_end0
 exact ⟨rfl, rfl⟩
set_option maxHeartbeats 1000000 in
set_option maxRecDepth 100000 in
theorem copyCheck_used (b : Nat) (w : World) (h0 : w.cell? ⟨b, 0, none⟩ = some (.pointer (some ⟨b, 0, none⟩))) :
  Calls Tryz.prog 55 #[.pointer (some ⟨b, 0, none⟩)] w fun e w' => e = .returned (.tuple #[]) ∧ w' = w := by
 obtain ⟨j, hj, _⟩ : ∃ j, Tryz.prog.info? 60 = some j ∧ j.size = 2 := Option.map_eq_some_iff.1 (by kernel_rfl : (Tryz.prog.info? 60).map (·.size) = some 2)
 have t70 : Tryz.prog.underlying 58 = some (.pointer 60) := by kernel_rfl
 go_enter Tryz.func55, Tryz.ntmps55
 go_wp2
 rw [Lib.run_neq_ptr_same w _ t70 hj]
 go_wp2
 go_end0
 exact ⟨rfl, rfl⟩
theorem copyCheck_k (B b : Nat) (bs : List Value) (w : World) (h : Lib.IsBuilderF 60 5 B b bs w) :
  Calls Tryz.prog 55 #[.pointer (some ⟨b, 0, none⟩)] w fun e w' => e = .returned (.tuple #[]) ∧ (Lib.BuilderAtF 60 5 B b (.pointer (some ⟨b, 0, none⟩)) bs w' ∧ Below B w w' ∧ Lib.OthersKept 5 (some b) w w') := by
 rcases h with h | h
 ·refine (copyCheck_fresh b w h.cell0 h.shape h.frozen0).mono ?_
  rintro e w' ⟨rfl, rfl⟩
  exact ⟨rfl, h.used _, (Below.refl B w).setCell (p := ⟨b, 0, none⟩) h.1 _, (Lib.OthersKept.refl _ _ w).setCell ⟨b, 0, none⟩ rfl _⟩
 ·refine (copyCheck_used b w h.cell0).mono ?_
  rintro e w' ⟨rfl, rfl⟩
  exact ⟨rfl, h, Below.refl B _, Lib.OthersKept.refl _ _ _⟩
set_option maxHeartbeats 2000000 in
set_option maxRecDepth 100000 in
theorem WriteByte_k (B b : Nat) (bs : List Value) (c : Int) (w : World) (h : Lib.IsBuilderF 60 5 B b bs w) (hlen : bs.length + 1 ≤ 140737488355328) (hBw : B ≤ w.heap.size) :
  Calls Tryz.prog 54 #[.pointer (some ⟨b, 0, none⟩), .int .u8 c] w fun e w' => e = .returned .nilIface ∧ (Lib.BuilderAtF 60 5 B b (.pointer (some ⟨b, 0, none⟩)) (bs ++ [.int .u8 c]) w' ∧ Below B w w' ∧ Lib.OthersKept 5 (some b) w w') := by
 obtain ⟨i0, hi, hz0, hz1, hz2⟩ := info_parts (P := Tryz.prog) (e := 5) (z := .int .u8 0) (size := 1) (bytes := 1) (by kernel_rfl)
 have t37 : Tryz.prog.underlying 44 = some (.slice 5) := by kernel_rfl
 have ne5 : (60 : TypeId) ≠ 5 := by decide
 go_enter Tryz.func54, Tryz.ntmps54
 go_wp2_with (go_at_call 55; refine (copyCheck_k B b bs _ h).mono ?_)
 rintro e w1 ⟨rfl, h1, hb1, hk1⟩
 obtain ⟨hB, v, hbk, hown, hne⟩ := h1
 have c0 : w1.cell? ⟨b, 0, none⟩ = some (.pointer (some ⟨b, 0, none⟩)) := by rw [Lib.cell_of_heap hbk]; rfl
 have c1 : w1.cell? ⟨b, 1, none⟩ = some v := by rw [Lib.cell_of_heap hbk]; rfl
 go_wp2_with (at_builtin; refine wpList_append_ownF _ rfl _ _ 44 rfl B 5 i0 (.int .u8 0) 1 1 t37 hi hz0 hz1 hz2 rfl (by decide) _ _ _ rfl (hown.alloc _) ⟨w1.heap.size, 0, none⟩ 1 1 [.int .u8 c] rfl rfl ?c1 ?c2 ?c3 ?c4 ?c5 ?_)
 case c1 =>
  intro j u hj
  match j, hj with
  | 0, hj => simp at hj; subst hj; simp [Addr.add]
 case c2 => intro u hu; simp at hu; subst hu; rfl
 case c3 => unfold maxLen; omega
 case c4 => omega
 case c5 => have := hb1.size; simp; omega
 intro v' w2 hown' hgrow _
 have hlt : b < w1.heap.size := by
  rcases Nat.lt_or_ge b w1.heap.size with h' | h'
  ·exact h'
  ·simp [Array.getElem?_eq_none h'] at hbk
 have hb2 : w2.heap[b]? = some (.cells #[.pointer (some ⟨b, 0, none⟩), v] 60 (0, 0)) := by
  rw [hgrow.block b (by simp; omega) (fun e => hne e.symm), Lib.alloc_old w1 _ b hlt]
  exact hbk
 have d0 : w2.cell? ⟨b, 0, none⟩ = some (.pointer (some ⟨b, 0, none⟩)) := by rw [Lib.cell_of_heap hb2]; rfl
 have d1 : w2.cell? ⟨b, 1, none⟩ = some v := by rw [Lib.cell_of_heap hb2]; rfl
 have f1 : w2.frozen? ⟨b, 1, none⟩ = false := Lib.frozen_of_heap hb2 1
 obtain ⟨g, cap, rfl⟩ : ∃ g cap, v' = .slice (some ⟨g, 0, none⟩) (bs.length + 1) cap := by
  rcases hown'.2 with ⟨_, h0⟩ | ⟨g, cap, cur, fz, hv, _⟩
  ·omega
  ·exact ⟨g, cap, hv⟩
 go_wp2
 go_ret
 refine ⟨rfl, ?_, ?_, ((hk1.alloc _).grown hgrow (Lib.ownsRowF_kind (hown.alloc _))).setCell ⟨b, 1, none⟩ rfl _⟩
 ·exact Lib.BuilderAtF.put (T := 60) (e := 5) hB hb2 (bs' := bs ++ [.int .u8 c]) (by simpa using hown') ne5
 ·exact ((hb1.alloc (by have := hb1.size; omega) _).grown hgrow (by have := hb1.size; simp; omega) (fun k hk => (hown.lt k hk).1)).setCell (p := ⟨b, 1, none⟩) hB _
end Go.Proofs.YtnjobjogddjelaaGreatDoor.Print
end

section
namespace Go.Proofs.YtnjobjogddjelaaGreatDoor.PureN
/-- What is behind the opening quote: the text, and how many bytes with the closing quote. -/
def unq : List UInt8 → Option (List UInt8 × Nat)
 | [] => none
 | [c] => if c = 34 then some ([], 1) else none
 | c :: d :: r =>
  if c = 34 then some ([], 1)
  else if c = 92 then (if d = 34 ∨ d = 92 then (unq r).map fun x => (d :: x.1, x.2 + 2) else none)
  else (unq (d :: r)).map fun x => (c :: x.1, x.2 + 1)
def quoteB : List UInt8 → List UInt8
 | [] => []
 | c :: r => (if c = 34 ∨ c = 92 then [92, c] else [c]) ++ quoteB r
def quote (v : List UInt8) : List UInt8 := 34 :: (quoteB v ++ [34])
end Go.Proofs.YtnjobjogddjelaaGreatDoor.PureN
namespace Go.Proofs.YtnjobjogddjelaaGreatDoor.Print
open Go.Sort Go.Shelf PureN
open Go.RowKit Go.Proofs.YtnjobjogddjelaaGreatDoorX Go.Proofs.YtnjobjogddjelaaGreatDoorW.PrintWords Go.Proofs.YtnjobjogddjelaaGreatDoorW.PrintLast Go.Proofs.YtnjobjogddjelaaGreatDoorW.PrintMore
attribute [local go_sem] max2_int min2_int max_two min_two max_three min_three max_four min_four

theorem bt_drop (s : ByteArray) (x : Int) (h : x.toNat < s.size) : ∃ c : UInt8, bt s x = (c.toNat : Int) ∧ s.data.toList.drop x.toNat = c :: s.data.toList.drop (x.toNat + 1) := by
 refine ⟨s.data[x.toNat]'h, ?_, ?_⟩
 ·rw [← bt_at s x h]
  rfl
 ·rw [List.drop_eq_getElem_cons (by simpa using h)]
  simp
theorem toNat_is (c : UInt8) (n : Nat) (hn : n < 256) : (c.toNat : Int) = (n : Int) ↔ c = UInt8.ofNat n := by
 constructor
 ·intro h
  have h' : c.toNat = n := by omega
  rw [← h']
  exact UInt8.ofNat_toNat.symm
 ·rintro rfl
  simp
  omega

/-! ### label.Quote -/
def label_Quote.f (s : ByteArray) : Option ByteArray := if s.size ≤ 1000000000 then some ⟨(quote s.data.toList).toArray⟩ else none
set_option maxHeartbeats 4000000 in
set_option maxRecDepth 100000 in
theorem label_Quote.calls (s r : ByteArray) (w : World) (h : label_Quote.f s = some r) :
  Calls Tryz.prog 35 #[.string s] w fun e w' => e = .returned (.string r) ∧ Below w.heap.size w w' := by
 unfold label_Quote.f at h
 by_cases hs : s.size ≤ 1000000000
 ·rw [if_pos hs] at h
  obtain rfl := Option.some.inj h
  clear h
  have HS := Aside0.mk hs
  have hI0 := Aside0.mk (Lib.IsBuilderF.of (Lib.fresh_isBuilder 60 5 w))
  go_enter Tryz.func35, Tryz.ntmps35
  go_wp2_with (go_at_call 54; refine (WriteByte_k w.heap.size w.heap.size [] 34 _ hI0.out (by simp) (by simp)).mono ?_)
  rintro e w1 ⟨rfl, h1, b1, k1⟩
  have H1 := Aside0.mk h1
  have B1 := Aside0.mk (((Below.refl w.heap.size w).alloc (Nat.le_refl _) _).trans b1)
  clear h1 b1 k1 hs hI0
  go_wp2
  go_loopg [8] s.size (fun kq v8 w' => ∃ (x : Int) (acc : List UInt8), v8 = .int .i64 x ∧ Aside0 (0 ≤ x ∧ x.toNat + kq = s.size ∧ acc ++ (quoteB (s.data.toList.drop x.toNat) ++ [34]) = quote s.data.toList ∧ acc.length ≤ 1 + 2 * x.toNat) ∧ Aside0 (Lib.IsBuilderF 60 5 w.heap.size w.heap.size (Lib.byteCells acc) w') ∧ Aside0 (Below w.heap.size w w'))
  case atStart => exact ⟨0, [34], rfl, ⟨by omega, by simp, by simp [quote], by simp⟩, ⟨Or.inr H1.out⟩, B1⟩
  case round =>
   clear H1 B1
   obtain ⟨x, acc, rfl, HA, HI, HB⟩ := hrel
   obtain ⟨h0, hk, hq, hl⟩ := HA.out
   have hsz := HB.out.size
   have hlen := HS.out
   cases gk with
   | zero =>
    have c2b0 : decide (x < (s.size : Int)) = false := decide_eq_false (by omega)
    have hd : s.data.toList.drop x.toNat = [] := List.drop_eq_nil_of_le (by simp; show s.size ≤ _; omega)
    rw [hd] at hq
    clear HA
    have HQ := Aside0.mk hq
    have HL := Aside0.mk (show acc.length + 1 ≤ 140737488355328 by omega)
    have HZ := Aside0.mk hsz
    clear hq hl hk h0 hsz hlen hd
    go_wp2_with (go_at_call 54; refine (WriteByte_k w.heap.size w.heap.size _ 34 _ HI.out (by rw [Lib.byteCells_length]; exact HL.out) HZ.out).mono ?_)
    rintro e w2 ⟨rfl, h2, b2, k2⟩
    have H2 : Lib.IsBuilderF 60 5 w.heap.size w.heap.size (Lib.byteCells (acc ++ [34])) w2 := by rw [Lib.byteCells_append]; exact Or.inr h2
    have HB2 := HB.out.trans b2
    go_wp2_with (go_at_call 38; refine (Tryz.Builder_String_any_k w.heap.size w.heap.size (acc ++ [34]) _ H2 HB2.size).mono ?_)
    rintro e w3 ⟨rfl, _, b3, _⟩
    go_wp2
    go_ret
    have hq := HQ.out
    simp only [quoteB, List.nil_append] at hq
    rw [hq]
    exact ⟨rfl, HB2.trans b3⟩
   | succ k1 =>
    have c2b0 : decide (x < (s.size : Int)) = true := decide_eq_true (by omega)
    have hx : x.toNat < s.size := by omega
    obtain ⟨c, hc, hd⟩ := bt_drop s x hx
    have p4 : (0 ≤ x) = True := eq_true h0
    have q4 : (x < (s.size : Int)) = True := eq_true (by omega)
    have hx4 := bt_at s x
    have hw : wrap64 (x + 1) = x + 1 := by unfold wrap64; omega
    rw [hd, quoteB] at hq
    have hZ := Aside0.mk hsz
    by_cases c1 : c = 34 ∨ c = 92
    ·rw [if_pos c1] at hq
     have HQ := Aside0.mk hq
     have HL := Aside0.mk (show acc.length + 2 ≤ 140737488355328 by omega)
     have HL2 := Aside0.mk hl
     have HK := Aside0.mk (And.intro h0 hk)
     have HC := Aside0.mk hc
     have tests : ((bt s x == 34) = true) ∨ ((bt s x == 34) = false ∧ (bt s x == 92) = true) := by
      rcases c1 with rfl | rfl
      ·exact Or.inl (by rw [hc]; rfl)
      ·exact Or.inr (by rw [hc]; exact ⟨rfl, rfl⟩)
     clear HA hq hl hk hsz hlen hd hc c1 h0
     rcases tests with f1 | ⟨f1, f2⟩
     all_goals
      go_wp2_with (go_at_call 54; refine (WriteByte_k w.heap.size w.heap.size _ 92 _ HI.out (by rw [Lib.byteCells_length]; have := HL.out; omega) hZ.out).mono ?_)
      rintro e w2 ⟨rfl, h2, b2, k2⟩
      have H2 : Lib.IsBuilderF 60 5 w.heap.size w.heap.size (Lib.byteCells (acc ++ [92])) w2 := by rw [Lib.byteCells_append]; exact Or.inr h2
      have HB2 := Aside0.mk (HB.out.trans b2)
      have HI2 := Aside0.mk H2
      clear h2 b2 k2 H2
      go_wp2_with (go_at_call 54; refine (WriteByte_k w.heap.size w.heap.size _ (bt s x) _ HI2.out (by rw [Lib.byteCells_length, List.length_append]; have := HL.out; simp; omega) HB2.out.size).mono ?_)
      rintro e w3 ⟨rfl, h3, b3, k3⟩
      have H3 : Lib.IsBuilderF 60 5 w.heap.size w.heap.size (Lib.byteCells ((acc ++ [92]) ++ [c])) w3 := by rw [Lib.byteCells_append]; refine Or.inr ?_; rw [HC.out] at h3; exact h3
      have HB3 := Aside0.mk (HB2.out.trans b3)
      have HI3 := Aside0.mk H3
      clear h3 b3 k3 H3
      go_wp2
      go_roundg k1
      case measure => omega
      case rel =>
       refine ⟨x + 1, acc ++ [92] ++ [c], by rw [hw], ⟨?_, ?_, ?_, ?_⟩, HI3, HB3⟩
       ·have := HK.out.1; omega
       ·have := HK.out; omega
       ·rw [← HQ.out, show (x + 1).toNat = x.toNat + 1 by have := HK.out.1; omega]; simp
       ·have := HL2.out; have := HK.out.1; simp; omega
    ·rw [if_neg c1] at hq
     have HQ := Aside0.mk hq
     have HL := Aside0.mk (show acc.length + 2 ≤ 140737488355328 by omega)
     have HL2 := Aside0.mk hl
     have HK := Aside0.mk (And.intro h0 hk)
     have HC := Aside0.mk hc
     have f1 : (bt s x == 34) = false := by rw [hc]; exact beq_eq_false_iff_ne.mpr (fun e => c1 (Or.inl ((toNat_is c 34 (by omega)).1 e)))
     have f2 : (bt s x == 92) = false := by rw [hc]; exact beq_eq_false_iff_ne.mpr (fun e => c1 (Or.inr ((toNat_is c 92 (by omega)).1 e)))
     clear HA hq hl hk hsz hlen hd hc c1 h0
     go_wp2_with (go_at_call 54; refine (WriteByte_k w.heap.size w.heap.size _ (bt s x) _ HI.out (by rw [Lib.byteCells_length]; have := HL.out; omega) hZ.out).mono ?_)
     rintro e w3 ⟨rfl, h3, b3, k3⟩
     have H3 : Lib.IsBuilderF 60 5 w.heap.size w.heap.size (Lib.byteCells (acc ++ [c])) w3 := by rw [Lib.byteCells_append]; refine Or.inr ?_; rw [HC.out] at h3; exact h3
     have HB3 := Aside0.mk (HB.out.trans b3)
     have HI3 := Aside0.mk H3
     clear h3 b3 k3 H3
     go_wp2
     go_roundg k1
     case measure => omega
     case rel =>
      refine ⟨x + 1, acc ++ [c], by rw [hw], ⟨?_, ?_, ?_, ?_⟩, HI3, HB3⟩
      ·have := HK.out.1; omega
      ·have := HK.out; omega
      ·rw [← HQ.out, show (x + 1).toNat = x.toNat + 1 by have := HK.out.1; omega]; simp
      ·have := HL2.out; have := HK.out.1; simp; omega
 ·rw [if_neg hs] at h
  exact absurd h (by simp)

/-! ### label.Unquote -/
def fin (s : ByteArray) (acc l : List UInt8) : ByteArray × ByteArray × Bool :=
 match unq l with
 | some y => (⟨(acc ++ y.1).toArray⟩, ⟨(l.drop y.2).toArray⟩, true)
 | none => (⟨#[]⟩, s, false)
theorem unq_34 (l : List UInt8) : unq (34 :: l) = some ([], 1) := by cases l <;> simp [unq]
theorem unq_ord (c : UInt8) (l : List UInt8) (h : ¬ (c = 34 ∨ c = 92)) : unq (c :: l) = (unq l).map fun x => (c :: x.1, x.2 + 1) := by
 cases l with
 | nil => simp only [unq]; rw [if_neg (fun e => h (Or.inl e))]; rfl
 | cons d r => rw [unq, if_neg (fun e => h (Or.inl e)), if_neg (fun e => h (Or.inr e))]
theorem unq_esc (d : UInt8) (l : List UInt8) : unq (92 :: d :: l) = if d = 34 ∨ d = 92 then (unq l).map fun x => (d :: x.1, x.2 + 2) else none := by
 rw [unq, if_neg (by decide), if_pos rfl]
theorem fin_34 (s : ByteArray) (acc l : List UInt8) : fin s acc (34 :: l) = (⟨acc.toArray⟩, ⟨l.toArray⟩, true) := by
 unfold fin
 rw [unq_34]
 simp
theorem fin_ord (s : ByteArray) (acc l : List UInt8) (c : UInt8) (h : ¬ (c = 34 ∨ c = 92)) : fin s acc (c :: l) = fin s (acc ++ [c]) l := by
 unfold fin
 rw [unq_ord c l h]
 cases unq l <;> simp
theorem fin_esc (s : ByteArray) (acc l : List UInt8) (d : UInt8) (h : d = 34 ∨ d = 92) : fin s acc (92 :: d :: l) = fin s (acc ++ [d]) l := by
 unfold fin
 rw [unq_esc d l, if_pos h]
 cases unq l <;> simp
theorem fin_bad (s : ByteArray) (acc l : List UInt8) (d : UInt8) (h : ¬ (d = 34 ∨ d = 92)) : fin s acc (92 :: d :: l) = (⟨#[]⟩, s, false) := by
 unfold fin
 rw [unq_esc d l, if_neg h]
theorem fin_nil (s : ByteArray) (acc : List UInt8) : fin s acc [] = (⟨#[]⟩, s, false) := by
 unfold fin
 rw [unq]
theorem fin_one (s : ByteArray) (acc : List UInt8) : fin s acc [92] = (⟨#[]⟩, s, false) := by
 unfold fin
 rw [unq, if_neg (by decide)]
def unqR (s : ByteArray) : ByteArray × ByteArray × Bool :=
 match s.data.toList with
 | [] => (⟨#[]⟩, s, false)
 | c :: r => if c = 34 then fin s [] r else (⟨#[]⟩, s, false)
theorem extract_is (s : ByteArray) (n : Nat) (l : List UInt8) (h : s.data.toList.drop n = l) : s.extract n s.size = ⟨l.toArray⟩ := by
 subst h
 apply ByteArray.ext
 apply Array.ext'
 rw [ByteArray.data_extract, Array.toList_extract]
 show ((s.data.toList.drop n).take (s.data.size - n)) = _
 rw [List.take_of_length_le (by simp)]
theorem bf_drew {T e : TypeId} {B b : Nat} {bs : List Value} {w : World} (h : Lib.IsBuilderF T e B b bs w) : Lib.IsBuilderF T e B b bs w.drew := h.elim (fun x => .inl x.drew) (fun x => .inr x.drew)
def label_Unquote.f (s : ByteArray) : Option (ByteArray × ByteArray × Bool) := if s.size ≤ 1000000000 then some (unqR s) else none
set_option maxHeartbeats 4000000 in
set_option maxRecDepth 100000 in
theorem label_Unquote.calls (s : ByteArray) (r1 r2 : ByteArray) (r3 : Bool) (w : World) (h : label_Unquote.f s = some (r1, r2, r3)) :
  Calls Tryz.prog 45 #[.string s] w fun e w' => e = .returned (.tuple #[.string r1, .string r2, .bool r3]) ∧ Below w.heap.size w w' := by
 unfold label_Unquote.f at h
 by_cases hs : s.size ≤ 1000000000
 ·rw [if_pos hs] at h
  have h := Option.some.inj h
  have HS := Aside0.mk hs
  by_cases c0 : s.data.toList = []
  ·have h : (⟨#[]⟩, s, false) = (r1, r2, r3) := by rw [← h]; unfold unqR; rw [c0]
   cases h
   have c0b : (s.toList == ([] : List UInt8)) = true := beq_iff_eq.mpr (by rw [← c0]; exact ByteArray.toList_eq s)
   clear hs HS c0
   go_enter Tryz.func45, Tryz.ntmps45
   go_wp2_with (first | go_in)
   go_ret3
   exact ⟨rfl, Below.refl _ _⟩
  ·have c0b : (s.toList == ([] : List UInt8)) = false := beq_eq_false_iff_ne.mpr (by rw [ByteArray.toList_eq s]; exact c0)
   have hp : 0 < s.size := by
    cases e : s.data.toList with
    | nil => exact absurd e c0
    | cons c l => have := congrArg List.length e; rw [Array.length_toList, List.length_cons] at this; show 0 < s.data.size; omega
   obtain ⟨c, hc, hd⟩ := bt_drop s 0 hp
   rw [show (0 : Int).toNat = 0 from rfl, List.drop_zero] at hd
   have q3 : (0 < s.size) = True := eq_true hp
   have hx3 : ∀ h : 0 < s.size, ((s[0]'h).toNat : Int) = bt s 0 := bt_at s 0
   have qi3 : (0 < (s.size : Int)) = True := eq_true (by omega)
   by_cases c1 : c = 34
   ·have h : fin s [] (s.data.toList.drop 1) = (r1, r2, r3) := by
     rw [← h]
     unfold unqR
     rw [hd]
     simp only [if_pos c1, List.drop_succ_cons, List.drop_zero]
    have HR := Aside0.mk h
    have f1 : (bt s 0 != 34) = false := bne_eq_false_iff_eq.mpr (by rw [hc, c1]; rfl)
    have hI0 := Aside0.mk (Lib.IsBuilderF.of (Lib.fresh_isBuilder 60 5 w))
    have HP := Aside0.mk hp
    clear hs c0 hp hc hd c1 h
    go_enter Tryz.func45, Tryz.ntmps45
    go_wp2_with (first | go_in)
    go_loopg [6] (s.size - 1) (fun kq v6 w' => ∃ (x : Int) (acc : List UInt8), v6 = .int .i64 x ∧ Aside0 (1 ≤ x ∧ x.toNat + kq = s.size ∧ fin s acc (s.data.toList.drop x.toNat) = (r1, r2, r3) ∧ acc.length ≤ x.toNat) ∧ Aside0 (Lib.IsBuilderF 60 5 w.heap.size w.heap.size (Lib.byteCells acc) w') ∧ Aside0 (Below w.heap.size w w'))
    case atStart => exact ⟨1, [], rfl, ⟨by decide, by have := HP.out; show 1 + (s.size - 1) = s.size; omega, HR.out, by simp⟩, hI0, ⟨(Below.refl w.heap.size w).alloc (Nat.le_refl _) _⟩⟩
    case round =>
     clear hI0 f1 HR q3 hx3 qi3 c0b
     obtain ⟨x, acc, rfl, HA, HI, HB⟩ := hrel
     obtain ⟨h0, hk, hq, hl⟩ := HA.out
     have hsz := HB.out.size
     have hlen := HS.out
     cases gk with
     | zero =>
      have c2b0 : decide (x < (s.size : Int)) = false := decide_eq_false (by omega)
      have hd : s.data.toList.drop x.toNat = [] := List.drop_eq_nil_of_le (by simp; show s.size ≤ _; omega)
      rw [hd, fin_nil] at hq
      cases hq
      clear HA hl hk h0 hsz hlen hd
      go_wp2
      go_ret3
      exact ⟨rfl, HB.out⟩
     | succ k1 =>
      have c2b0 : decide (x < (s.size : Int)) = true := decide_eq_true (by omega)
      have hx : x.toNat < s.size := by omega
      obtain ⟨c, hc, hd⟩ := bt_drop s x hx
      have p4 : (0 ≤ x) = True := eq_true (by omega)
      have q4 : (x < (s.size : Int)) = True := eq_true (by omega)
      have hx4 := bt_at s x
      have hw : wrap64 (x + 1) = x + 1 := by unfold wrap64; omega
      have hZ := Aside0.mk hsz
      have HK := Aside0.mk (And.intro h0 hk)
      have HL := Aside0.mk (show acc.length + 1 ≤ 140737488355328 by omega)
      have HL2 := Aside0.mk hl
      rw [hd] at hq
      by_cases c1 : c = 34
      ·rw [c1, fin_34] at hq
       have f1 : (bt s x == 34) = true := beq_iff_eq.mpr (by rw [hc, c1]; rfl)
       have he : s.extract (x + 1).toNat s.size = ⟨(s.data.toList.drop (x.toNat + 1)).toArray⟩ := by
        rw [show (x + 1).toNat = x.toNat + 1 by omega]
        exact extract_is s _ _ rfl
       have HQ := Aside0.mk hq
       have HE := Aside0.mk he
       have hw2 : IntKind.i64.wrap (x + 1) = x + 1 := by have := i64_w (x + 1); rw [this]; exact hw
       have p5 : (0 ≤ x + 1) = True := eq_true (by omega)
       have q5 : (x + 1 ≤ (s.size : Int)) = True := eq_true (by omega)
       clear HA hq hl hk hsz hlen hd hc c1 h0 he
       go_wp2
       go_region_with (go_at_call 38; refine (Tryz.Builder_String_any_k w.heap.size w.heap.size acc _ ?_ ?_).mono ?_; exact bf_drew HI.out; exact hZ.out; rintro e w3 ⟨rfl, _, b3, _⟩)
       all_goals
        go_wp2
        go_ret3
        obtain ⟨e1, e2⟩ := Prod.mk.inj HQ.out
        obtain ⟨e3, e4⟩ := Prod.mk.inj e2
        have fin_ : (Ending.returned (.tuple #[.string ⟨acc.toArray⟩, .string (s.extract (x + 1).toNat s.size), .bool true])) = .returned (.tuple #[.string r1, .string r2, .bool r3]) := by rw [HE.out, e1, e3, e4]
        exact ⟨fin_, (Below.drew HB.out).trans b3⟩
      ·have f1 : (bt s x == 34) = false := by rw [hc]; exact beq_eq_false_iff_ne.mpr (fun e => c1 ((toNat_is c 34 (by omega)).1 e))
       by_cases c2 : c = 92
       ·have f2 : (bt s x == 92) = true := beq_iff_eq.mpr (by rw [hc, c2]; rfl)
        by_cases c3 : x + 1 = (s.size : Int)
        ·have hd2 : s.data.toList.drop (x.toNat + 1) = [] := List.drop_eq_nil_of_le (by simp; show s.size ≤ _; omega)
         rw [hd2, c2, fin_one] at hq
         cases hq
         have f3 : (x + 1 == (s.size : Int)) = true := beq_iff_eq.mpr c3
         clear HA hl hk hsz hlen hd hc c1 c2 c3 h0 hd2
         go_wp2_with (first | go_in)
         go_ret3
         exact ⟨rfl, HB.out⟩
        ·have f3 : (x + 1 == (s.size : Int)) = false := beq_eq_false_iff_ne.mpr c3
         have hx5 := bt_at s (x + 1)
         have p5 : (0 ≤ x + 1) = True := eq_true (by omega)
         have q5 : (x + 1 < (s.size : Int)) = True := eq_true (by omega)
         have hn : (x + 1).toNat = x.toNat + 1 := by omega
         obtain ⟨d, hdc, hdd⟩ := bt_drop s (x + 1) (by omega)
         rw [hn] at hdd
         rw [hdd, c2] at hq
         by_cases c4 : d = 34 ∨ d = 92
         ·rw [fin_esc _ _ _ _ c4] at hq
          have tests : ((bt s (x + 1) != 34) = false) ∨ ((bt s (x + 1) != 34) = true ∧ (bt s (x + 1) != 92) = false) := by
           rcases c4 with rfl | rfl
           ·exact Or.inl (by rw [hdc]; rfl)
           ·exact Or.inr (by rw [hdc]; exact ⟨rfl, rfl⟩)
          obtain ⟨k2, rfl⟩ : ∃ k2, k1 = k2 + 1 := ⟨k1 - 1, by omega⟩
          have HQ := Aside0.mk hq
          have HC := Aside0.mk hdc
          have HN := Aside0.mk hn
          have hw3 : wrap64 (x + 1 + 1) = x + 2 := by unfold wrap64; omega
          clear HA hq hl hk hsz hlen hd hc c1 c2 c3 h0 hdd hdc c4 hn
          rcases tests with f4 | ⟨f4, f5⟩
          all_goals
           go_wp2_with (go_at_call 54; refine (WriteByte_k w.heap.size w.heap.size _ (bt s (x + 1)) _ HI.out (by rw [Lib.byteCells_length]; exact HL.out) hZ.out).mono ?_)
           rintro e w3 ⟨rfl, h3, b3, k3⟩
           have H3 : Lib.IsBuilderF 60 5 w.heap.size w.heap.size (Lib.byteCells (acc ++ [d])) w3 := by rw [Lib.byteCells_append]; refine Or.inr ?_; rw [HC.out] at h3; exact h3
           have HB3 := Aside0.mk (HB.out.trans b3)
           have HI3 := Aside0.mk H3
           clear h3 b3 k3 H3
           go_wp2
           go_roundg k2
           case measure => omega
           case rel =>
            refine ⟨x + 2, acc ++ [d], by first | rw [hw3] | (rw [hw, hw3]), ⟨?_, ?_, ?_, ?_⟩, HI3, HB3⟩
            ·have := HK.out.1; omega
            ·have := HK.out; omega
            ·rw [show (x + 2).toNat = x.toNat + 1 + 1 by have := HK.out.1; omega]; exact HQ.out
            ·have := HL2.out; have := HK.out.1; simp; omega
         ·rw [fin_bad _ _ _ _ c4] at hq
          cases hq
          have f4 : (bt s (x + 1) != 34) = true := by rw [hdc]; exact bne_iff_ne.mpr (fun e => c4 (Or.inl ((toNat_is d 34 (by omega)).1 e)))
          have f5 : (bt s (x + 1) != 92) = true := by rw [hdc]; exact bne_iff_ne.mpr (fun e => c4 (Or.inr ((toNat_is d 92 (by omega)).1 e)))
          clear HA hl hk hsz hlen hd hc c1 c2 c3 h0 hdd hdc c4 hn
          go_wp2_with (first | go_in)
          go_ret3
          exact ⟨rfl, HB.out⟩
       ·have f2 : (bt s x == 92) = false := by rw [hc]; exact beq_eq_false_iff_ne.mpr (fun e => c2 ((toNat_is c 92 (by omega)).1 e))
        rw [fin_ord _ _ _ _ (fun h => h.elim c1 c2)] at hq
        have HQ := Aside0.mk hq
        have HC := Aside0.mk hc
        clear HA hq hl hk hsz hlen hd hc c1 c2 h0
        go_wp2_with (go_at_call 54; refine (WriteByte_k w.heap.size w.heap.size _ (bt s x) _ HI.out (by rw [Lib.byteCells_length]; exact HL.out) hZ.out).mono ?_)
        rintro e w3 ⟨rfl, h3, b3, k3⟩
        have H3 : Lib.IsBuilderF 60 5 w.heap.size w.heap.size (Lib.byteCells (acc ++ [c])) w3 := by rw [Lib.byteCells_append]; refine Or.inr ?_; rw [HC.out] at h3; exact h3
        have HB3 := Aside0.mk (HB.out.trans b3)
        have HI3 := Aside0.mk H3
        clear h3 b3 k3 H3
        go_wp2
        go_roundg k1
        case measure => omega
        case rel =>
         refine ⟨x + 1, acc ++ [c], by rw [hw], ⟨?_, ?_, ?_, ?_⟩, HI3, HB3⟩
         ·have := HK.out.1; omega
         ·have := HK.out; omega
         ·rw [show (x + 1).toNat = x.toNat + 1 by have := HK.out.1; omega]; exact HQ.out
         ·have := HL2.out; have := HK.out.1; simp; omega
   ·have h : (⟨#[]⟩, s, false) = (r1, r2, r3) := by
     rw [← h]
     unfold unqR
     rw [hd]
     simp only [if_neg c1]
    cases h
    have f1 : (bt s 0 != 34) = true := bne_iff_ne.mpr (by rw [hc]; exact fun e => c1 ((toNat_is c 34 (by omega)).1 e))
    clear hs HS c0 hp hc hd c1
    go_enter Tryz.func45, Tryz.ntmps45
    go_wp2_with (first | go_in)
    go_ret3
    exact ⟨rfl, Below.refl _ _⟩
 ·rw [if_neg hs] at h
  exact absurd h (by simp)
end Go.Proofs.YtnjobjogddjelaaGreatDoor.Print
end

section
namespace Go.Proofs.YtnjobjogddjelaaGreatDoor.PureN
open Go.RowKit Go.Proofs.YtnjobjogddjelaaGreatDoor.Print Go.Proofs.YtnjobjogddjelaaGreatDoor.Pure

/-! Signs of texts, in plain Lean (lex). -/
structure Tok where
 kind : Int
 place : Int
 text : List UInt8
 v : Int
 n : Int
deriving DecidableEq, Repr

def isL (c : UInt8) : Bool := (decide (97 ≤ c.toNat) && decide (c.toNat ≤ 122)) || (decide (65 ≤ c.toNat) && decide (c.toNat ≤ 90)) || decide (c.toNat = 95)
def idc (c : UInt8) : Bool := isL c || isD c
def blank (c : UInt8) : Bool := c == 32 || c == 9
def part (r : List UInt8) : Nat :=
 match r with
 | [] => 0
 | c :: r => if c = 46 ∧ (r.takeWhile isD).length ≠ 0 then 1 + (r.takeWhile isD).length else 0
def numLen (l : List UInt8) : Nat := (l.takeWhile isD).length + part (l.dropWhile isD)
def durS (d : List UInt8) : Option Nat := if d.length ≤ 3 ∧ d.head? ≠ some 48 ∧ 1 ≤ valN d ∧ valN d ≤ 100 then some (valN d) else none
def twos : List UInt8 := [94, 42, 33, 61, 62, 60]
def ones : List UInt8 := [40, 41, 123, 125, 91, 93, 44, 43, 45, 42, 47, 61, 62, 60]
def signLen : List UInt8 → Nat
 | [] => 0
 | c :: r => if r.head? = some 61 ∧ c ∈ twos then 2 else if c ∈ ones then 1 else 0
def rdNum (l : List UInt8) : Option Int := if (parseS l).2.2 = 0 ∧ (parseS l).1 = false then some (parseS l).2.1 else none
def readId (l : List UInt8) : Option (Tok × Nat) :=
 if (l.takeWhile idc).length ≤ 20 then some (⟨1, 0, l.takeWhile idc, 0, 0⟩, (l.takeWhile idc).length) else none
def readNum (l : List UInt8) : Option (Tok × Nat) :=
 if (l.dropWhile isD).head? = some 116 then (durS (l.takeWhile isD)).map fun (t : Nat) => (⟨3, 0, [], 0, (t : Int)⟩, (l.takeWhile isD).length + 1)
 else (rdNum (l.take (numLen l))).map fun v => (⟨2, 0, [], v, 0⟩, numLen l)
def readText (r : List UInt8) : Option (Tok × Nat) :=
 match unq r with
 | none => none
 | some (v, n) => if v.length ≤ 30 ∧ (10 : UInt8) ∉ v then some (⟨4, 0, v, 0, 0⟩, n + 1) else none
def readSign (l : List UInt8) : Option (Tok × Nat) := if signLen l = 0 then none else some (⟨5, 0, l.take (signLen l), 0, 0⟩, signLen l)
def readS : List UInt8 → Option (Tok × Nat)
 | [] => none
 | c :: r => if isL c then readId (c :: r) else if isD c then readNum (c :: r) else if c = 34 then readText r else readSign (c :: r)
def endT (i : Nat) : Tok := ⟨0, i, [], 0, 0⟩
def scanS (i : Nat) (l : List UInt8) : Except Nat (List Tok) :=
 match l with
 | [] => .ok [endT i]
 | c :: r =>
  if blank c then scanS (i + 1) r else
  match readS (c :: r) with
  | none => .error i
  | some x =>
   match scanS (i + x.2) (r.drop (x.2 - 1)) with
   | .ok ts => .ok ({ x.1 with place := i } :: ts)
   | .error j => .error j
termination_by l.length
decreasing_by all_goals simp; try omega
/-! A blank behind a text. -/
theorem tw_app {p : UInt8 → Bool} {x : UInt8} (h : p x = false) (m : List UInt8) : ∀ l : List UInt8, (l ++ x :: m).takeWhile p = l.takeWhile p
 | [] => by simp [h]
 | c :: l => by
  rw [List.cons_append, List.takeWhile_cons, List.takeWhile_cons, tw_app h m l]
theorem dw_app {p : UInt8 → Bool} {x : UInt8} (h : p x = false) (m : List UInt8) : ∀ l : List UInt8, (l ++ x :: m).dropWhile p = l.dropWhile p ++ x :: m
 | [] => by simp [h]
 | c :: l => by
  rw [List.cons_append, List.dropWhile_cons, List.dropWhile_cons, dw_app h m l]
  split <;> rfl
theorem part_app (m r : List UInt8) : part (r ++ 32 :: m) = part r := by
 cases r with
 | nil => simp [part]
 | cons c r => rw [List.cons_append, part, part, tw_app (by rfl)]
theorem numLen_app (m l : List UInt8) : numLen (l ++ 32 :: m) = numLen l := by
 unfold numLen
 rw [tw_app (by rfl), dw_app (by rfl), part_app]
theorem tw_le {p : UInt8 → Bool} (l : List UInt8) : (l.takeWhile p).length ≤ l.length := by
 have := congrArg List.length (List.takeWhile_append_dropWhile (p := p) (l := l))
 rw [List.length_append] at this
 omega
theorem part_le (r : List UInt8) : part r ≤ r.length := by
 cases r with
 | nil => simp [part]
 | cons c r =>
  rw [part, List.length_cons]
  have := tw_le (p := isD) r
  split <;> omega
theorem numLen_le (l : List UInt8) : numLen l ≤ l.length := by
 have := congrArg List.length (List.takeWhile_append_dropWhile (p := isD) (l := l))
 rw [List.length_append] at this
 have := part_le (l.dropWhile isD)
 unfold numLen
 omega
theorem unq_app (m : List UInt8) : ∀ (l : List UInt8) (x : List UInt8 × Nat), unq l = some x → unq (l ++ m) = some x
 | [], x, h => by simp [unq] at h
 | [c], x, h => by
  rw [unq] at h
  by_cases hc : c = 34
  ·rw [if_pos hc] at h
   subst hc
   rw [← h]
   cases m <;> simp [unq]
  ·rw [if_neg hc] at h
   simp at h
 | c :: d :: r, x, h => by
  rw [unq] at h
  rw [List.cons_append, List.cons_append, unq]
  by_cases hc : c = 34
  ·rw [if_pos hc] at h ⊢
   exact h
  ·rw [if_neg hc] at h ⊢
   by_cases h2 : c = 92
   ·rw [if_pos h2] at h ⊢
    by_cases h3 : d = 34 ∨ d = 92
    ·rw [if_pos h3] at h ⊢
     cases e : unq r with
     | none => rw [e] at h; simp at h
     | some y => rw [e] at h; rw [unq_app m r y e]; exact h
    ·rw [if_neg h3] at h
     simp at h
   ·rw [if_neg h2] at h ⊢
    cases e : unq (d :: r) with
    | none => rw [e] at h; simp at h
    | some y =>
     rw [e] at h
     have := unq_app m (d :: r) y e
     rw [List.cons_append] at this
     rw [this]
     exact h
/-- What is read is its own print. -/
theorem unq_take : ∀ (l : List UInt8) (v : List UInt8) (n : Nat), unq l = some (v, n) → l.take n = quoteB v ++ [34] ∧ n = (quoteB v).length + 1 ∧ n ≤ l.length
 | [], v, n, h => by simp [unq] at h
 | [c], v, n, h => by
  rw [unq] at h
  by_cases hc : c = 34
  ·rw [if_pos hc] at h
   simp only [Option.some.injEq, Prod.mk.injEq] at h
   obtain ⟨rfl, rfl⟩ := h
   subst hc
   simp [quoteB]
  ·rw [if_neg hc] at h
   simp at h
 | c :: d :: r, v, n, h => by
  rw [unq] at h
  by_cases hc : c = 34
  ·rw [if_pos hc] at h
   simp only [Option.some.injEq, Prod.mk.injEq] at h
   obtain ⟨rfl, rfl⟩ := h
   subst hc
   simp [quoteB]
  ·rw [if_neg hc] at h
   by_cases h2 : c = 92
   ·rw [if_pos h2] at h
    by_cases h3 : d = 34 ∨ d = 92
    ·rw [if_pos h3] at h
     cases e : unq r with
     | none => rw [e] at h; simp at h
     | some y =>
      obtain ⟨yv, yn⟩ := y
      rw [e] at h
      simp only [Option.map_some, Option.some.injEq, Prod.mk.injEq] at h
      obtain ⟨rfl, rfl⟩ := h
      obtain ⟨a1, a2, a3⟩ := unq_take r yv yn e
      subst h2
      refine ⟨?_, ?_, ?_⟩
      ·rw [List.take_succ_cons, List.take_succ_cons, a1, quoteB, if_pos h3]
       rfl
      ·rw [quoteB, if_pos h3, List.length_append, a2]
       simp
       omega
      ·simp
       omega
    ·rw [if_neg h3] at h
     simp at h
   ·rw [if_neg h2] at h
    cases e : unq (d :: r) with
    | none => rw [e] at h; simp at h
    | some y =>
     obtain ⟨yv, yn⟩ := y
     rw [e] at h
     simp only [Option.map_some, Option.some.injEq, Prod.mk.injEq] at h
     obtain ⟨rfl, rfl⟩ := h
     obtain ⟨a1, a2, a3⟩ := unq_take (d :: r) yv yn e
     have hq : ¬ (c = 34 ∨ c = 92) := fun h => h.elim hc h2
     refine ⟨?_, ?_, ?_⟩
     ·rw [List.take_succ_cons, a1, quoteB, if_neg hq]
      rfl
     ·rw [quoteB, if_neg hq, List.length_append, a2]
      simp
      omega
     ·rw [List.length_cons]
      omega
theorem signLen_app (m l : List UInt8) (hl : l ≠ []) : signLen (l ++ 32 :: m) = signLen l := by
 match l, hl with
 | [c], _ => simp [signLen]
 | c :: d :: r, _ => simp [signLen]
theorem signLen_le (l : List UInt8) : signLen l ≤ l.length := by
 match l with
 | [] => simp [signLen]
 | [c] =>
  simp only [signLen, List.head?_nil]
  simp
  split <;> omega
 | c :: d :: r =>
  simp only [signLen, List.length_cons]
  split
  ·omega
  ·split <;> omega
end Go.Proofs.YtnjobjogddjelaaGreatDoor.PureN
end

section
namespace Go.Proofs.YtnjobjogddjelaaGreatDoor.PureN
open Go.RowKit Go.Proofs.YtnjobjogddjelaaGreatDoor.Print Go.Proofs.YtnjobjogddjelaaGreatDoor.Pure

/-! What is read at a text's beginning: it stays with a blank behind it. -/
theorem tw_ne {p : UInt8 → Bool} {c : UInt8} (r : List UInt8) (h : p c = true) : 0 < ((c :: r).takeWhile p).length := by
 rw [List.takeWhile_cons, if_pos h]
 simp
theorem take_app {m l : List UInt8} {n : Nat} (h : n ≤ l.length) : (l ++ m).take n = l.take n := List.take_append_of_le_length h
theorem readNum_app (m l : List UInt8) (x : Tok × Nat) (h : readNum l = some x) : readNum (l ++ 32 :: m) = some x := by
 unfold readNum at h ⊢
 rw [dw_app (by rfl), tw_app (by rfl), numLen_app, take_app (numLen_le l)]
 have hh : (l.dropWhile isD ++ 32 :: m).head? = some 116 ↔ (l.dropWhile isD).head? = some 116 := by
  cases l.dropWhile isD <;> simp
 by_cases hc : (l.dropWhile isD).head? = some 116
 ·rw [if_pos (hh.2 hc)]
  rw [if_pos hc] at h
  exact h
 ·rw [if_neg (fun h => hc (hh.1 h))]
  rw [if_neg hc] at h
  exact h
theorem readS_app (m : List UInt8) : ∀ (l : List UInt8) (x : Tok × Nat), readS l = some x → readS (l ++ 32 :: m) = some x
 | [], x, h => by simp [readS] at h
 | c :: r, x, h => by
  rw [readS] at h
  rw [List.cons_append, readS, ← List.cons_append]
  by_cases h1 : isL c = true
  ·rw [if_pos h1] at h ⊢
   unfold readId at h ⊢
   rw [tw_app (by rfl)]
   exact h
  ·rw [if_neg h1] at h ⊢
   by_cases h2 : isD c = true
   ·rw [if_pos h2] at h ⊢
    exact readNum_app m _ x h
   ·rw [if_neg h2] at h ⊢
    by_cases h3 : c = 34
    ·rw [if_pos h3] at h ⊢
     unfold readText at h ⊢
     cases e : unq r with
     | none => rw [e] at h; simp at h
     | some y => rw [unq_app (32 :: m) r y e]; rw [e] at h; exact h
    ·rw [if_neg h3] at h ⊢
     unfold readSign at h ⊢
     rw [signLen_app m (c :: r) (by simp), take_app (signLen_le _)]
     exact h
theorem readS_pos : ∀ (l : List UInt8) (x : Tok × Nat), readS l = some x → 0 < x.2 ∧ x.2 ≤ l.length
 | [], x, h => by simp [readS] at h
 | c :: r, x, h => by
  rw [readS] at h
  by_cases h1 : isL c = true
  ·rw [if_pos h1] at h
   unfold readId at h
   split at h
   ·rw [← Option.some.inj h]
    exact ⟨tw_ne r (by unfold idc; rw [h1]; rfl), tw_le _⟩
   ·simp at h
  ·rw [if_neg h1] at h
   by_cases h2 : isD c = true
   ·rw [if_pos h2] at h
    unfold readNum at h
    have ht := tw_ne r h2
    split at h
    ·rename_i hc
     cases e : durS ((c :: r).takeWhile isD) with
     | none => rw [e] at h; simp at h
     | some t =>
      rw [e] at h
      rw [← Option.some.inj h]
      refine ⟨Nat.succ_pos _, ?_⟩
      have := congrArg List.length (List.takeWhile_append_dropWhile (p := isD) (l := c :: r))
      rw [List.length_append] at this
      have : 1 ≤ ((c :: r).dropWhile isD).length := by
       cases e2 : (c :: r).dropWhile isD with
       | nil => rw [e2] at hc; simp at hc
       | cons a b => simp
      show ((c :: r).takeWhile isD).length + 1 ≤ _
      omega
    ·cases e : rdNum ((c :: r).take (numLen (c :: r))) with
     | none => rw [e] at h; simp at h
     | some t =>
      rw [e] at h
      rw [← Option.some.inj h]
      exact ⟨by show 0 < numLen (c :: r); unfold numLen; omega, numLen_le _⟩
   ·rw [if_neg h2] at h
    by_cases h3 : c = 34
    ·rw [if_pos h3] at h
     unfold readText at h
     cases e : unq r with
     | none => rw [e] at h; simp at h
     | some y =>
      obtain ⟨v, n⟩ := y
      rw [e] at h
      simp only at h
      split at h
      ·rw [← Option.some.inj h]
       have := unq_take r v n e
       refine ⟨by simp, ?_⟩
       rw [List.length_cons]
       show n + 1 ≤ _
       omega
      ·simp at h
    ·rw [if_neg h3] at h
     unfold readSign at h
     split at h
     ·simp at h
     ·rename_i hc
      rw [← Option.some.inj h]
      exact ⟨by show 0 < signLen (c :: r); omega, signLen_le (c :: r)⟩
theorem readS_blank (r : List UInt8) (c : UInt8) (h : blank c = true) : readS (c :: r) = none := by
 unfold blank at h
 simp only [Bool.or_eq_true, beq_iff_eq] at h
 have e : ∀ d : UInt8, (d = 32 ∨ d = 9) → isL d = false ∧ isD d = false ∧ d ≠ 34 ∧ d ∉ twos ∧ d ∉ ones := by
  rintro d (rfl | rfl) <;> refine ⟨rfl, rfl, by decide, by decide, by decide⟩
 obtain ⟨a, b, d, f, g⟩ := e c h
 rw [readS, a, b, if_neg (by simp), if_neg (by simp), if_neg d]
 have hs : signLen (c :: r) = 0 := by
  unfold signLen
  simp only
  rw [if_neg (fun h => f h.2), if_neg g]
 unfold readSign
 rw [hs, if_pos rfl]

/-! Signs of two texts with a blank between (LexJoins). -/
theorem scanS_nil (i : Nat) : scanS i [] = .ok [endT i] := by rw [scanS]
theorem scanS_blank (i : Nat) (c : UInt8) (r : List UInt8) (h : blank c = true) : scanS i (c :: r) = scanS (i + 1) r := by
 rw [scanS, if_pos h]
theorem scanS_bad (i : Nat) (c : UInt8) (r : List UInt8) (h : blank c = false) (h2 : readS (c :: r) = none) : scanS i (c :: r) = .error i := by
 rw [scanS, if_neg (by rw [h]; simp), h2]
theorem scanS_good (i : Nat) (c : UInt8) (r : List UInt8) (x : Tok × Nat) (h2 : readS (c :: r) = some x) :
  scanS i (c :: r) = match scanS (i + x.2) (r.drop (x.2 - 1)) with
   | .ok ts => .ok ({ x.1 with place := i } :: ts)
   | .error j => .error j := by
 have h : blank c = false := by
  cases e : blank c
  ·rfl
  ·rw [readS_blank r c e] at h2
   simp at h2
 rw [scanS, if_neg (by rw [h]; simp), h2] <;> rfl
theorem drop_app {m l : List UInt8} {n : Nat} (h : n ≤ l.length) : (l ++ m).drop n = l.drop n ++ m := List.drop_append_of_le_length h
end Go.Proofs.YtnjobjogddjelaaGreatDoor.PureN
end

section
namespace Go.Proofs.YtnjobjogddjelaaGreatDoor.PureN
open Go.RowKit Go.Proofs.YtnjobjogddjelaaGreatDoor.Print Go.Proofs.YtnjobjogddjelaaGreatDoor.Pure

/-! Signs printed are read as the same (LexBack). -/
theorem tw_all {p : UInt8 → Bool} (l : List UInt8) : ∀ c ∈ l.takeWhile p, p c = true := by
 induction l with
 | nil => simp
 | cons d l ih =>
  rw [List.takeWhile_cons]
  split
  ·rename_i h
   intro c hc
   rw [List.mem_cons] at hc
   cases hc with
   | inl h' => rw [h']; exact h
   | inr h' => exact ih c h'
  ·simp
theorem tw_D (l : List UInt8) : (l.takeWhile isD).all isD = true := List.all_eq_true.2 (tw_all l)
end Go.Proofs.YtnjobjogddjelaaGreatDoor.PureN
end

section
namespace Go.Proofs.YtnjobjogddjelaaGreatDoor.PureN
open Go.RowKit Go.Proofs.YtnjobjogddjelaaGreatDoor.Print Go.Proofs.YtnjobjogddjelaaGreatDoor.Pure

/-! Numbers printed are read as the same. -/
theorem take_tw {p : UInt8 → Bool} (r : List UInt8) : r.take (r.takeWhile p).length = r.takeWhile p := by
 have hs := List.takeWhile_append_dropWhile (p := p) (l := r)
 conv => lhs; arg 2; rw [← hs]
 rw [List.take_left]
end Go.Proofs.YtnjobjogddjelaaGreatDoor.PureN
end

section
namespace Go.Proofs.YtnjobjogddjelaaGreatDoor.PureN
open Go.RowKit Go.Proofs.YtnjobjogddjelaaGreatDoor.Print Go.Proofs.YtnjobjogddjelaaGreatDoor.Pure

/-! Signs as text, with blanks between. -/
end Go.Proofs.YtnjobjogddjelaaGreatDoor.PureN
end

section
namespace Go.Proofs.YtnjobjogddjelaaGreatDoor.PureN
open Go.RowKit Go.Proofs.YtnjobjogddjelaaGreatDoor.Print Go.Proofs.YtnjobjogddjelaaGreatDoor.Pure

/-! LexBuilt and LexSigns, in plain Lean. -/
/-! Signs with blanks behind them. -/
def signsS : List (List UInt8) := [[94, 61], [42, 61], [33, 61], [61, 61], [62, 61], [60, 61], [40], [41], [123], [125], [91], [93], [44], [43], [45], [42], [47], [61], [62], [60]]
theorem sign_reads (p : List UInt8) (h : p ∈ signsS) : readS p = some (⟨5, 0, p, 0, 0⟩, p.length) := by
 revert p
 decide
theorem signs_scan : ∀ (ps : List (List UInt8)) (i : Nat), (∀ p ∈ ps, p ∈ signsS) → ∃ ts, scanS i (ps.flatMap fun p => p ++ [32]) = .ok ts ∧ ts.map (fun t => (t.kind, t.text)) = ps.map (fun p => (5, p)) ++ [(0, [])]
 | [], i, _ => ⟨_, by rw [List.flatMap_nil, scanS_nil], rfl⟩
 | p :: ps, i, h => by
  have hp := sign_reads p (h p (by simp))
  obtain ⟨ts, t1, t2⟩ := signs_scan ps (i + p.length + 1) (fun q hq => h q (List.mem_cons_of_mem _ hq))
  rw [List.flatMap_cons, List.append_assoc, List.singleton_append]
  have ha := readS_app (ps.flatMap fun p => p ++ [32]) _ _ hp
  generalize (ps.flatMap fun p => p ++ [32]) = J at t1 ha ⊢
  cases e : p with
  | nil => rw [e] at hp; simp [readS] at hp
  | cons c q =>
   rw [e] at ha t1
   refine ⟨⟨5, i, c :: q, 0, 0⟩ :: ts, ?_, ?_⟩
   ·rw [List.cons_append] at ha ⊢
    rw [scanS_good i c _ _ ha]
    simp only [List.length_cons, Nat.add_sub_cancel]
    rw [drop_app (Nat.le_refl _), List.drop_length, List.nil_append, scanS_blank _ _ _ rfl]
    rw [List.length_cons] at t1
    rw [t1]
   ·rw [List.map_cons, t2]
    rfl
end Go.Proofs.YtnjobjogddjelaaGreatDoor.PureN
end

section
namespace Go.Proofs.YtnjobjogddjelaaGreatDoor.Print
open Go.RowKit Go.Proofs.YtnjobjogddjelaaGreatDoorX Go.Proofs.YtnjobjogddjelaaGreatDoorW.PrintWords Go.Proofs.YtnjobjogddjelaaGreatDoorW.PrintLast Go.Proofs.YtnjobjogddjelaaGreatDoorW.PrintMore

/-! Words for a struct in memory that is stored into: the world as a letter behind each store. -/
theorem R_row {α : Type} {d : Kd α} {w : World} {base : Nat} {e : TypeId} {ok : Nat → Prop} {v : Value} {xs : List α} (h : d.R e w base ok v xs) {g : Nat} (hok : ∀ k, ok k → k ≠ g) (cs : Array Value) : d.R e (w.setRow g cs) base ok v xs :=
 Kd.R_step h (fun k ho _ => setRow_other w g k cs (hok k ho))
section
variable {P : Program} {ops : Array Oper} {rest : List Oper} {o : Oper} {a : Act} {Q : Exit → Act → World → Prop}
theorem cell_event {W : World} (hgd : o.guard = none) (hN : o.dst = none) {t : TypeId} {x y : Operand} (ho : o.op = .store t x y)
  {g i : Nat} {v : Value} {old new : Array Value} {e : TypeId} (hx : a.eval x = .pointer (some ⟨g, i, none⟩)) (hy : a.eval y = v) (h1 : v.oneCell' = true) (hc : v.cells.toList = [v])
  (hg : W.heap[g]? = some (.cells old e (0, 0))) (hi : (P.info? t).map (·.size) = some 1) (hs : i < old.size) (hnew : old.setIfInBounds i v = new)
  (h : ∀ w', w' = W.setRow g new → wpList P ops Q rest a w') : wpList P ops Q (o :: rest) a W := by
 refine wpList_plain hgd fun K hK => ?_
 unfold Oper.wp execOp
 have hrun := run_store_run (P := P) (w := W) (g := g) (o := i) (e := e) (cur := old) t v [v] hg hc (by simpa using hi) (by simp; omega) (by simpa using h1)
 simp only [ho, hx, hy, Sem.run_bind, Sem.run_pure, hrun, Result.andThen_ok]
 show K (a.put o.dst undef) _
 rw [hN]
 refine hK _ _ (h _ ?_)
 rw [← hnew, ← setCell_eq_setRow W g i old e (0, 0) v hg]
 simp [World.setCells]
end
end Go.Proofs.YtnjobjogddjelaaGreatDoor.Print
end

section
namespace Go.Proofs.YtnjobjogddjelaaGreatDoor.Print
open Go.RowKit Go.Proofs.YtnjobjogddjelaaGreatDoorX Go.Proofs.YtnjobjogddjelaaGreatDoorW.PrintWords Go.Proofs.YtnjobjogddjelaaGreatDoorW.PrintLast Go.Proofs.YtnjobjogddjelaaGreatDoorW.PrintMore
attribute [local go_sem] max2_int min2_int max_two min_two max_three min_three max_four min_four

/-! ### lex_letter: function 23 -/
def lex_letter.f (a0 : Int) : Option (Bool) := if a0 ≥ 97 then (if a0 ≤ 122 then (some true) else (if a0 ≥ 65 then (if a0 ≤ 90 then (some true) else (some (a0 == 95))) else (some (a0 == 95)))) else (if a0 ≥ 65 then (if a0 ≤ 90 then (some true) else (some (a0 == 95))) else (some (a0 == 95)))
set_option maxHeartbeats 8000000 in
set_option maxRecDepth 100000 in
theorem lex_letter.calls (a0 : Int) (r : Bool) (w : World) (h : lex_letter.f a0 = some r) :
  Calls Tryz.prog 23 #[.int .u8 a0] w fun e w' => e = .returned (.bool r) ∧ Drawn0 w w' := by
 have H : (if a0 ≥ 97 then (if a0 ≤ 122 then (some true) else (if a0 ≥ 65 then (if a0 ≤ 90 then (some true) else (some (a0 == 95))) else (some (a0 == 95)))) else (if a0 ≥ 65 then (if a0 ≤ 90 then (some true) else (some (a0 == 95))) else (some (a0 == 95)))) = some r := h
 clear h
 by_cases c2 : a0 ≥ 97
 ·rw [if_pos c2] at H
  have c2b0 : decide (97 ≤ a0) = true := decide_eq_true c2
  clear c2
  by_cases c3 : a0 ≤ 122
  ·rw [if_pos c3] at H
   have c3b0 : decide (a0 ≤ 122) = true := decide_eq_true c3
   clear c3
   obtain rfl := Option.some.inj H
   go_enter Tryz.func23, Tryz.ntmps23
   go_wp2
   go_ret
   exact ⟨by first | rfl | (simp; done) | (simp [*]; done), by repeat (first | exact Drawn0.refl _ | apply Drawn0.step)⟩
  ·rw [if_neg c3] at H
   have c3b0 : decide (a0 ≤ 122) = false := decide_eq_false c3
   clear c3
   by_cases c4 : a0 ≥ 65
   ·rw [if_pos c4] at H
    have c4b0 : decide (65 ≤ a0) = true := decide_eq_true c4
    clear c4
    by_cases c5 : a0 ≤ 90
    ·rw [if_pos c5] at H
     have c5b0 : decide (a0 ≤ 90) = true := decide_eq_true c5
     clear c5
     obtain rfl := Option.some.inj H
     go_enter Tryz.func23, Tryz.ntmps23
     go_wp2
     go_ret
     exact ⟨by first | rfl | (simp; done) | (simp [*]; done), by repeat (first | exact Drawn0.refl _ | apply Drawn0.step)⟩
    ·rw [if_neg c5] at H
     have c5b0 : decide (a0 ≤ 90) = false := decide_eq_false c5
     clear c5
     obtain rfl := Option.some.inj H
     go_enter Tryz.func23, Tryz.ntmps23
     go_wp2
     go_ret
     exact ⟨by first | rfl | (simp; done) | (simp [*]; done), by repeat (first | exact Drawn0.refl _ | apply Drawn0.step)⟩
   ·rw [if_neg c4] at H
    have c4b0 : decide (65 ≤ a0) = false := decide_eq_false c4
    clear c4
    obtain rfl := Option.some.inj H
    go_enter Tryz.func23, Tryz.ntmps23
    go_wp2
    go_ret
    exact ⟨by first | rfl | (simp; done) | (simp [*]; done), by repeat (first | exact Drawn0.refl _ | apply Drawn0.step)⟩
 ·rw [if_neg c2] at H
  have c2b0 : decide (97 ≤ a0) = false := decide_eq_false c2
  clear c2
  by_cases c6 : a0 ≥ 65
  ·rw [if_pos c6] at H
   have c6b0 : decide (65 ≤ a0) = true := decide_eq_true c6
   clear c6
   by_cases c7 : a0 ≤ 90
   ·rw [if_pos c7] at H
    have c7b0 : decide (a0 ≤ 90) = true := decide_eq_true c7
    clear c7
    obtain rfl := Option.some.inj H
    go_enter Tryz.func23, Tryz.ntmps23
    go_wp2
    go_ret
    exact ⟨by first | rfl | (simp; done) | (simp [*]; done), by repeat (first | exact Drawn0.refl _ | apply Drawn0.step)⟩
   ·rw [if_neg c7] at H
    have c7b0 : decide (a0 ≤ 90) = false := decide_eq_false c7
    clear c7
    obtain rfl := Option.some.inj H
    go_enter Tryz.func23, Tryz.ntmps23
    go_wp2
    go_ret
    exact ⟨by first | rfl | (simp; done) | (simp [*]; done), by repeat (first | exact Drawn0.refl _ | apply Drawn0.step)⟩
  ·rw [if_neg c6] at H
   have c6b0 : decide (65 ≤ a0) = false := decide_eq_false c6
   clear c6
   obtain rfl := Option.some.inj H
   go_enter Tryz.func23, Tryz.ntmps23
   go_wp2
   go_ret
   exact ⟨by first | rfl | (simp; done) | (simp [*]; done), by repeat (first | exact Drawn0.refl _ | apply Drawn0.step)⟩

end Go.Proofs.YtnjobjogddjelaaGreatDoor.Print
end

section
namespace Go.Proofs.YtnjobjogddjelaaGreatDoor.Print
open Go.RowKit Go.Proofs.YtnjobjogddjelaaGreatDoorX Go.Proofs.YtnjobjogddjelaaGreatDoorW.PrintWords Go.Proofs.YtnjobjogddjelaaGreatDoorW.PrintLast Go.Proofs.YtnjobjogddjelaaGreatDoorW.PrintMore
attribute [local go_sem] max2_int min2_int max_two min_two max_three min_three max_four min_four

/-! lex.many with ident's closure, by hand. -/
def idP (c : Int) : Prop := (97 ≤ c ∧ c ≤ 122) ∨ (65 ≤ c ∧ c ≤ 90) ∨ c = 95 ∨ (48 ≤ c ∧ c ≤ 57)
instance (c : Int) : Decidable (idP c) := by unfold idP; infer_instance
def lex_many42.l0 : Nat → ByteArray → Int → Option Int
  | 0, _, _ => none
  | k + 1, x0, x3 => if x3 < (x0.size : Int) then (if 0 ≤ x3 then (if idP (bt x0 x3) then lex_many42.l0 k x0 (wrap64 (x3 + 1)) else some x3) else none) else some x3
theorem lex_many42.mono_l : ∀ k, (∀ y0 y1, LeO (lex_many42.l0 k y0 y1) (lex_many42.l0 (k + 1) y0 y1))
  | 0 => fun _ _ r h => by simp [lex_many42.l0] at h
  | k + 1 => by
    have ih0 := lex_many42.mono_l k
    intro y0 y1
    unfold lex_many42.l0
    repeat' first
      | (with_reducible exact ih0 _ _)
      | (with_reducible exact LeO.refl _)
      | (with_reducible exact LeO.none _)
      | (with_reducible refine LeO.ite ?_ ?_)
      | exact ih0 _ _
      | exact LeO.none _
      | refine LeO.ite ?_ ?_
def lex_many42.f (k : Nat) (a0 : ByteArray) : Option Int := lex_many42.l0 k a0 0
theorem lex_many42.mono : ∀ a0 k, LeO (lex_many42.f k a0) (lex_many42.f (k + 1) a0) := fun a0 k => lex_many42.mono_l k a0 0
set_option maxHeartbeats 8000000 in
set_option maxRecDepth 100000 in
theorem lex_many42.calls (k : Nat) (a0 : ByteArray) (r : Int) (w : World) (h : lex_many42.f k a0 = some r) :
    Calls Tryz.prog 41 #[.string a0, .func (.func 42) #[] #[]] w fun e w' => e = .returned (.int .i64 r) ∧ Drawn0 w w' := by
  have H' : Aside0 (lex_many42.l0 k a0 0 = some r) := ⟨h⟩
  clear h
  go_enter Tryz.func41, Tryz.ntmps41
  go_wp2
  go_loopg [5] k (fun kq v3 w' => ∃ (x3_1 : Int), v3 = .int .i64 x3_1 ∧ Aside0 (lex_many42.l0 kq a0 x3_1 = some r) ∧ Aside0 (kq ≤ k) ∧ Drawn0 w w')
  case atStart => exact ⟨(0), (by first | rfl | (simp; done) | (simp [*]; done)), H', ⟨Nat.le_refl _⟩, by repeat (first | exact Drawn0.refl _ | apply Drawn0.step)⟩
  case round =>
    clear H'
    obtain ⟨x3_1, rfl, HA, HK1, ⟨m1, rfl⟩⟩ := hrel
    cases gk with
    | zero => exact absurd HA.out (by simp [lex_many42.l0])
    | succ k1 =>
      have H := HA.out
      clear HA
      simp only [lex_many42.l0] at H
      by_cases c2 : x3_1 < (a0.size : Int)
      · rw [if_pos c2] at H
        have c2b0 : decide (x3_1 < (a0.size : Int)) = true := decide_eq_true c2
        by_cases c3 : 0 ≤ x3_1
        · rw [if_pos c3] at H
          have p4 : 0 ≤ (x3_1 : Int) := c3
          have q4 : x3_1 < (a0.size : Int) := c2
          have hx4 := bt_at a0 x3_1
          replace p4 := eq_true p4
          replace q4 := eq_true q4
          have H' := Aside0.mk H
          clear H c2 c3
          go_wp2_with (first | go_in)
          all_goals first
            | (go_roundg k1
               case measure => have := HK1.out; omega
               case rel =>
                 have hP : idP (bt a0 x3_1) := by unfold idP; simp only [beq_eq_false_iff_ne, beq_iff_eq, ne_eq, Bool.or_eq_true, Bool.and_eq_true, decide_eq_true_eq, decide_eq_false_iff_not] at *; omega
                 have H2 := H'.out
                 rw [if_pos hP] at H2
                 exact ⟨(wrap64 (x3_1 + 1)), (by first | rfl | (simp; done) | (simp [*]; done)), ⟨H2⟩, ⟨by have := HK1.out; omega⟩, by repeat (first | exact Drawn0.refl _ | apply Drawn0.step)⟩)
            | (go_ret
               have hP : ¬ idP (bt a0 x3_1) := by unfold idP; simp only [beq_eq_false_iff_ne, beq_iff_eq, ne_eq, Bool.or_eq_true, Bool.and_eq_true, decide_eq_true_eq, decide_eq_false_iff_not] at *; omega
               have H2 := H'.out
               rw [if_neg hP] at H2
               obtain rfl := Option.some.inj H2
               exact ⟨by first | rfl | (simp; done) | (simp [*]; done), by repeat (first | exact Drawn0.refl _ | apply Drawn0.step)⟩)
        · rw [if_neg c3] at H
          exact absurd H (by simp)
      · rw [if_neg c2] at H
        have c2b0 : decide (x3_1 < (a0.size : Int)) = false := decide_eq_false c2
        clear c2
        obtain rfl := Option.some.inj H
        go_wp2
        go_ret
        exact ⟨by first | rfl | (simp; done) | (simp [*]; done), by repeat (first | exact Drawn0.refl _ | apply Drawn0.step)⟩
end Go.Proofs.YtnjobjogddjelaaGreatDoor.Print
end

section
namespace Go.Proofs.YtnjobjogddjelaaGreatDoor.Print
open Go.RowKit Go.Proofs.YtnjobjogddjelaaGreatDoorX Go.Proofs.YtnjobjogddjelaaGreatDoorW.PrintWords Go.Proofs.YtnjobjogddjelaaGreatDoorW.PrintLast Go.Proofs.YtnjobjogddjelaaGreatDoorW.PrintMore
attribute [local go_sem] max2_int min2_int max_two min_two max_three min_three max_four min_four

/-! ### lex_ident: function 24 -/
def lex_ident.f (k : Nat) (a0 : ByteArray) : Option (Int × Int × ByteArray × Bool × Int × Int × Int) := (lex_many42.f k a0).bind fun t102 => (if t102 > 20 then (some (0, 0, (⟨#[]⟩ : ByteArray), false, 0, 0, 0)) else (if 0 ≤ t102 then (if t102 ≤ (a0.size : Int) then (some (1, 0, a0.extract 0 (t102 : Int).toNat, false, 0, 0, t102)) else (none)) else (none)))
theorem lex_ident.mono : ∀ a0 k, LeO (lex_ident.f k a0) (lex_ident.f (k + 1) a0) := by
 intro a0 k
 unfold lex_ident.f
 repeat' first
   | (with_reducible exact lex_many42.mono _ _)
   | (with_reducible exact LeO.refl _)
   | (with_reducible exact LeO.none _)
   | (with_reducible refine LeO.ite ?_ ?_)
   | (with_reducible refine LeO.bind ?_ (fun _ => ?_))
   | exact lex_many42.mono _ _
   | exact LeO.none _
   | refine LeO.ite ?_ ?_
   | refine LeO.bind ?_ (fun _ => ?_)
set_option maxHeartbeats 8000000 in
set_option maxRecDepth 100000 in
theorem lex_ident.calls (k : Nat) (a0 : ByteArray) (r1 : Int) (r2 : Int) (r3 : ByteArray) (r4 : Bool) (r5 : Int) (r6 : Int) (r7 : Int) (w : World) (h : lex_ident.f k a0 = some (r1, r2, r3, r4, r5, r6, r7)) :
  Calls Tryz.prog 24 #[.string a0] w fun e w' => e = .returned (.tuple #[.agg #[.int .i64 r1, .int .i64 r2, .string r3, .bool r4, .int .i64 r5, .int .i64 r6], .int .i64 r7]) ∧ Below w.heap.size w w' := by
 have hu36 := Tryz.underlying36
 have HB := Aside0.mk (Below.refl w.heap.size w)
 have H : ((lex_many42.f k a0).bind fun t102 => (if t102 > 20 then (some (0, 0, (⟨#[]⟩ : ByteArray), false, 0, 0, 0)) else (if 0 ≤ t102 then (if t102 ≤ (a0.size : Int) then (some (1, 0, a0.extract 0 (t102 : Int).toNat, false, 0, 0, t102)) else (none)) else (none)))) = some (r1, r2, r3, r4, r5, r6, r7) := h
 clear h
 replace H := Option.bind_eq_some_iff.mp H
 obtain ⟨t102, A20, H⟩ := H
 replace H : (if t102 > 20 then (some (0, 0, (⟨#[]⟩ : ByteArray), false, 0, 0, 0)) else (if 0 ≤ t102 then (if t102 ≤ (a0.size : Int) then (some (1, 0, a0.extract 0 (t102 : Int).toNat, false, 0, 0, t102)) else (none)) else (none))) = some (r1, r2, r3, r4, r5, r6, r7) := H
 have A2 := Aside0.mk A20
 clear A20
 by_cases c3 : t102 > 20
 ·rw [if_pos c3] at H
  have c3b0 : decide (20 < t102) = true := decide_eq_true c3
  clear c3
  simp only [Option.some.injEq, Prod.mk.injEq] at H
  obtain ⟨rfl, rfl, rfl, rfl, rfl, rfl, rfl⟩ := H
  go_enter Tryz.func24, Tryz.ntmps24
  go_wp2_with (first | ((with_reducible refine gate_dst (N := 2) rfl ?_); refine box_event ?hg (N := 2) ?hd (cs := #[.int .i64 0, .int .i64 0, .string (⟨#[]⟩ : ByteArray), .bool false, .int .i64 0, .int .i64 0]) (t := 36) ?hr ?_; (case hd => rfl); (case hg => rfl); (case hr => first | (go_simp; done) | (go_simp; rfl)); intro gb101 hg w4 hbox hb; have n0_ := Aside0.mk (below_step (by repeat (first | (with_reducible first | exact HB.out | apply below_alloc | apply pw_below_drewN | apply below_drew1) | exact HB.out)) hb); have n1_ := Aside0.mk (hbox); have n2_ := Aside0.mk ((by rw [hg]; exact (below_size (by repeat (first | (with_reducible first | exact HB.out | apply below_alloc | apply pw_below_drewN | apply below_drew1) | exact HB.out))) : w.heap.size ≤ gb101)); have n3_ := Aside0.mk ((by rw [hg]; exact (below_size (by repeat (first | (with_reducible first | exact HB.out | apply below_alloc | apply pw_below_drewN | apply below_drew1) | exact HB.out))) : w.heap.size ≤ gb101)); clear HB; have HB := n0_; have BK101 := n1_; have GW101 := n2_; have GE101 := n3_; clear n0_ n1_ n2_ n3_; clear hb hbox hg) | ((with_reducible refine gate_callee (f := 41) rfl ?_); refine goesL_ (some 6) rfl rfl Tryz.func41 (by kernel_rfl) rfl #[.string a0, .func (.func 42) #[] #[]] rfl (by (try simp only [List.map_toArray, List.map_cons, List.map_nil]); first | done | rfl | (simp only [List.length_drop, List.length_take]; rfl)) ?_; (with_reducible refine (lex_many42.calls k a0 t102 _ A2.out).mono ?_); rintro e w' ⟨rfl, ⟨nd, rfl⟩⟩; refine ⟨_, rfl, ?_⟩; (try (rw [drewN_self w4]; generalize hq_ : World.drewN w4 _ = w4; have n0_ : Aside0 (w4.heap[gb101]? = some (.cells #[.int .i64 0, .int .i64 0, .string (⟨#[]⟩ : ByteArray), .bool false, .int .i64 0, .int .i64 0] 36 (0, 0))) := ⟨by rw [← hq_]; exact (by (with_reducible repeat (first | refine blk_drewN ?_ _ | refine blk_drew ?_ | refine blk_alloc ?_ _)); exact BK101.out)⟩; have n1_ : Aside0 (Below w.heap.size w w4) := ⟨by rw [← hq_]; exact (by repeat (first | (with_reducible first | exact HB.out | apply below_alloc | apply pw_below_drewN | apply below_drew1 | refine below_set ?_ GE101.out) | exact HB.out))⟩; clear BK101 HB hq_; have BK101 := n0_; have HB := n1_; clear n0_ n1_)); have hcz5_0 : w4.cell? ⟨gb101, 0, none⟩ = some (.int .i64 0) := (blk_cell BK101.out 0).trans rfl; have hcz5_1 : w4.cell? ⟨gb101, 1, none⟩ = some (.int .i64 0) := (blk_cell BK101.out 1).trans rfl; have hcz5_2 : w4.cell? ⟨gb101, 2, none⟩ = some (.string (⟨#[]⟩ : ByteArray)) := (blk_cell BK101.out 2).trans rfl; have hcz5_3 : w4.cell? ⟨gb101, 3, none⟩ = some (.bool false) := (blk_cell BK101.out 3).trans rfl; have hcz5_4 : w4.cell? ⟨gb101, 4, none⟩ = some (.int .i64 0) := (blk_cell BK101.out 4).trans rfl; have hcz5_5 : w4.cell? ⟨gb101, 5, none⟩ = some (.int .i64 0) := (blk_cell BK101.out 5).trans rfl; have hfz5_0 := blk_frozen BK101.out 0; have hfz5_1 := blk_frozen BK101.out 1; have hfz5_2 := blk_frozen BK101.out 2; have hfz5_3 := blk_frozen BK101.out 3; have hfz5_4 := blk_frozen BK101.out 4; have hfz5_5 := blk_frozen BK101.out 5))
  refine bodyPost_ret (results_ct rfl _ _ gb101 36 #[.int .i64 0, .int .i64 0, .string (⟨#[]⟩ : ByteArray), .bool false, .int .i64 0, .int .i64 0] (0, 0) _ rfl (by (with_reducible repeat (first | refine blk_drewN ?_ _ | refine blk_drew ?_ | refine blk_alloc ?_ _)); refine blk_put (cs := #[.int .i64 0, .int .i64 0, .string (⟨#[]⟩ : ByteArray), .bool false, .int .i64 0, .int .i64 0]) ?_ 5 _ rfl; (with_reducible repeat (first | refine blk_drewN ?_ _ | refine blk_drew ?_ | refine blk_alloc ?_ _)); refine blk_put (cs := #[.int .i64 0, .int .i64 0, .string (⟨#[]⟩ : ByteArray), .bool false, .int .i64 0, .int .i64 0]) ?_ 4 _ rfl; (with_reducible repeat (first | refine blk_drewN ?_ _ | refine blk_drew ?_ | refine blk_alloc ?_ _)); refine blk_put (cs := #[.int .i64 0, .int .i64 0, .string (⟨#[]⟩ : ByteArray), .bool false, .int .i64 0, .int .i64 0]) ?_ 3 _ rfl; (with_reducible repeat (first | refine blk_drewN ?_ _ | refine blk_drew ?_ | refine blk_alloc ?_ _)); refine blk_put (cs := #[.int .i64 0, .int .i64 0, .string (⟨#[]⟩ : ByteArray), .bool false, .int .i64 0, .int .i64 0]) ?_ 2 _ rfl; (with_reducible repeat (first | refine blk_drewN ?_ _ | refine blk_drew ?_ | refine blk_alloc ?_ _)); refine blk_put (cs := #[.int .i64 0, .int .i64 0, .string (⟨#[]⟩ : ByteArray), .bool false, .int .i64 0, .int .i64 0]) ?_ 1 _ rfl; (with_reducible repeat (first | refine blk_drewN ?_ _ | refine blk_drew ?_ | refine blk_alloc ?_ _)); refine blk_put (cs := #[.int .i64 0, .int .i64 0, .string (⟨#[]⟩ : ByteArray), .bool false, .int .i64 0, .int .i64 0]) ?_ 0 _ rfl; (with_reducible repeat (first | refine blk_drewN ?_ _ | refine blk_drew ?_ | refine blk_alloc ?_ _)); exact BK101.out) Tryz.underlying36 rfl (by kernel_rfl)) rfl ?_
  exact ⟨by first | rfl | (simp [errW_none, errW_some] <;> rfl) | (simp [*, errW_none, errW_some] <;> rfl), by repeat (first | (with_reducible first | exact HB.out | apply below_alloc | apply pw_below_drewN | apply below_drew1 | refine below_set ?_ GE101.out) | exact HB.out)⟩
 ·rw [if_neg c3] at H
  have c3b0 : decide (20 < t102) = false := decide_eq_false c3
  clear c3
  by_cases c6 : 0 ≤ t102
  ·rw [if_pos c6] at H
   have c6b0 := eq_true c6
   have c6b1 : decide (0 ≤ t102) = true := decide_eq_true c6
   clear c6
   by_cases c7 : t102 ≤ (a0.size : Int)
   ·rw [if_pos c7] at H
    have c7b0 := eq_true c7
    have c7b1 : decide (t102 ≤ (a0.size : Int)) = true := decide_eq_true c7
    clear c7
    simp only [Option.some.injEq, Prod.mk.injEq] at H
    obtain ⟨rfl, rfl, rfl, rfl, rfl, rfl, rfl⟩ := H
    go_enter Tryz.func24, Tryz.ntmps24
    go_wp2_with (first | ((with_reducible refine gate_dst (N := 2) rfl ?_); refine box_event ?hg (N := 2) ?hd (cs := #[.int .i64 0, .int .i64 0, .string (⟨#[]⟩ : ByteArray), .bool false, .int .i64 0, .int .i64 0]) (t := 36) ?hr ?_; (case hd => rfl); (case hg => rfl); (case hr => first | (go_simp; done) | (go_simp; rfl)); intro gb101 hg w8 hbox hb; have n0_ := Aside0.mk (below_step (by repeat (first | (with_reducible first | exact HB.out | apply below_alloc | apply pw_below_drewN | apply below_drew1) | exact HB.out)) hb); have n1_ := Aside0.mk (hbox); have n2_ := Aside0.mk ((by rw [hg]; exact (below_size (by repeat (first | (with_reducible first | exact HB.out | apply below_alloc | apply pw_below_drewN | apply below_drew1) | exact HB.out))) : w.heap.size ≤ gb101)); have n3_ := Aside0.mk ((by rw [hg]; exact (below_size (by repeat (first | (with_reducible first | exact HB.out | apply below_alloc | apply pw_below_drewN | apply below_drew1) | exact HB.out))) : w.heap.size ≤ gb101)); clear HB; have HB := n0_; have BK101 := n1_; have GW101 := n2_; have GE101 := n3_; clear n0_ n1_ n2_ n3_; clear hb hbox hg) | ((with_reducible refine gate_callee (f := 41) rfl ?_); refine goesL_ (some 6) rfl rfl Tryz.func41 (by kernel_rfl) rfl #[.string a0, .func (.func 42) #[] #[]] rfl (by (try simp only [List.map_toArray, List.map_cons, List.map_nil]); first | done | rfl | (simp only [List.length_drop, List.length_take]; rfl)) ?_; (with_reducible refine (lex_many42.calls k a0 t102 _ A2.out).mono ?_); rintro e w' ⟨rfl, ⟨nd, rfl⟩⟩; refine ⟨_, rfl, ?_⟩; (try (rw [drewN_self w8]; generalize hq_ : World.drewN w8 _ = w8; have n0_ : Aside0 (w8.heap[gb101]? = some (.cells #[.int .i64 0, .int .i64 0, .string (⟨#[]⟩ : ByteArray), .bool false, .int .i64 0, .int .i64 0] 36 (0, 0))) := ⟨by rw [← hq_]; exact (by (with_reducible repeat (first | refine blk_drewN ?_ _ | refine blk_drew ?_ | refine blk_alloc ?_ _)); exact BK101.out)⟩; have n1_ : Aside0 (Below w.heap.size w w8) := ⟨by rw [← hq_]; exact (by repeat (first | (with_reducible first | exact HB.out | apply below_alloc | apply pw_below_drewN | apply below_drew1 | refine below_set ?_ GE101.out) | exact HB.out))⟩; clear BK101 HB hq_; have BK101 := n0_; have HB := n1_; clear n0_ n1_)); have hcz9_0 : w8.cell? ⟨gb101, 0, none⟩ = some (.int .i64 0) := (blk_cell BK101.out 0).trans rfl; have hcz9_1 : w8.cell? ⟨gb101, 1, none⟩ = some (.int .i64 0) := (blk_cell BK101.out 1).trans rfl; have hcz9_2 : w8.cell? ⟨gb101, 2, none⟩ = some (.string (⟨#[]⟩ : ByteArray)) := (blk_cell BK101.out 2).trans rfl; have hcz9_3 : w8.cell? ⟨gb101, 3, none⟩ = some (.bool false) := (blk_cell BK101.out 3).trans rfl; have hcz9_4 : w8.cell? ⟨gb101, 4, none⟩ = some (.int .i64 0) := (blk_cell BK101.out 4).trans rfl; have hcz9_5 : w8.cell? ⟨gb101, 5, none⟩ = some (.int .i64 0) := (blk_cell BK101.out 5).trans rfl; have hfz9_0 := blk_frozen BK101.out 0; have hfz9_1 := blk_frozen BK101.out 1; have hfz9_2 := blk_frozen BK101.out 2; have hfz9_3 := blk_frozen BK101.out 3; have hfz9_4 := blk_frozen BK101.out 4; have hfz9_5 := blk_frozen BK101.out 5))
    refine bodyPost_ret (results_ct rfl _ _ gb101 36 #[.int .i64 1, .int .i64 0, .string (a0.extract 0 (t102 : Int).toNat), .bool false, .int .i64 0, .int .i64 0] (0, 0) _ rfl (by (with_reducible repeat (first | refine blk_drewN ?_ _ | refine blk_drew ?_ | refine blk_alloc ?_ _)); refine blk_put (cs := #[.int .i64 1, .int .i64 0, .string (a0.extract 0 (t102 : Int).toNat), .bool false, .int .i64 0, .int .i64 0]) ?_ 5 _ rfl; (with_reducible repeat (first | refine blk_drewN ?_ _ | refine blk_drew ?_ | refine blk_alloc ?_ _)); refine blk_put (cs := #[.int .i64 1, .int .i64 0, .string (a0.extract 0 (t102 : Int).toNat), .bool false, .int .i64 0, .int .i64 0]) ?_ 4 _ rfl; (with_reducible repeat (first | refine blk_drewN ?_ _ | refine blk_drew ?_ | refine blk_alloc ?_ _)); refine blk_put (cs := #[.int .i64 1, .int .i64 0, .string (a0.extract 0 (t102 : Int).toNat), .bool false, .int .i64 0, .int .i64 0]) ?_ 3 _ rfl; (with_reducible repeat (first | refine blk_drewN ?_ _ | refine blk_drew ?_ | refine blk_alloc ?_ _)); refine blk_put (cs := #[.int .i64 1, .int .i64 0, .string (⟨#[]⟩ : ByteArray), .bool false, .int .i64 0, .int .i64 0]) ?_ 2 _ rfl; (with_reducible repeat (first | refine blk_drewN ?_ _ | refine blk_drew ?_ | refine blk_alloc ?_ _)); refine blk_put (cs := #[.int .i64 1, .int .i64 0, .string (⟨#[]⟩ : ByteArray), .bool false, .int .i64 0, .int .i64 0]) ?_ 1 _ rfl; (with_reducible repeat (first | refine blk_drewN ?_ _ | refine blk_drew ?_ | refine blk_alloc ?_ _)); refine blk_put (cs := #[.int .i64 0, .int .i64 0, .string (⟨#[]⟩ : ByteArray), .bool false, .int .i64 0, .int .i64 0]) ?_ 0 _ rfl; (with_reducible repeat (first | refine blk_drewN ?_ _ | refine blk_drew ?_ | refine blk_alloc ?_ _)); exact BK101.out) Tryz.underlying36 rfl (by kernel_rfl)) rfl ?_
    exact ⟨by first | rfl | (simp [errW_none, errW_some] <;> rfl) | (simp [*, errW_none, errW_some] <;> rfl), by repeat (first | (with_reducible first | exact HB.out | apply below_alloc | apply pw_below_drewN | apply below_drew1 | refine below_set ?_ GE101.out) | exact HB.out)⟩
   ·rw [if_neg c7] at H
    exact absurd H (by simp)
  ·rw [if_neg c6] at H
   exact absurd H (by simp)

end Go.Proofs.YtnjobjogddjelaaGreatDoor.Print
end

section
namespace Go.Proofs.YtnjobjogddjelaaGreatDoor.Print
open Go.RowKit Go.Proofs.YtnjobjogddjelaaGreatDoorX Go.Proofs.YtnjobjogddjelaaGreatDoorW.PrintWords Go.Proofs.YtnjobjogddjelaaGreatDoorW.PrintLast Go.Proofs.YtnjobjogddjelaaGreatDoorW.PrintMore
attribute [local go_sem] max2_int min2_int max_two min_two max_three min_three max_four min_four

/-! ### lex_digit: function 25 -/
def lex_digit.f (a0 : Int) : Option (Bool) := if a0 ≥ 48 then (some (decide (a0 ≤ 57))) else (some false)
set_option maxHeartbeats 8000000 in
set_option maxRecDepth 100000 in
theorem lex_digit.calls (a0 : Int) (r : Bool) (w : World) (h : lex_digit.f a0 = some r) :
  Calls Tryz.prog 25 #[.int .u8 a0] w fun e w' => e = .returned (.bool r) ∧ Drawn0 w w' := by
 have H : (if a0 ≥ 48 then (some (decide (a0 ≤ 57))) else (some false)) = some r := h
 clear h
 by_cases c2 : a0 ≥ 48
 ·rw [if_pos c2] at H
  have c2b0 : decide (48 ≤ a0) = true := decide_eq_true c2
  clear c2
  obtain rfl := Option.some.inj H
  go_enter Tryz.func25, Tryz.ntmps25
  go_wp2
  go_ret
  exact ⟨by first | rfl | (simp; done) | (simp [*]; done), by repeat (first | exact Drawn0.refl _ | apply Drawn0.step)⟩
 ·rw [if_neg c2] at H
  have c2b0 : decide (48 ≤ a0) = false := decide_eq_false c2
  clear c2
  obtain rfl := Option.some.inj H
  go_enter Tryz.func25, Tryz.ntmps25
  go_wp2
  go_ret
  exact ⟨by first | rfl | (simp; done) | (simp [*]; done), by repeat (first | exact Drawn0.refl _ | apply Drawn0.step)⟩

end Go.Proofs.YtnjobjogddjelaaGreatDoor.Print
end

section
namespace Go.Proofs.YtnjobjogddjelaaGreatDoor.Print
open Go.RowKit Go.Proofs.YtnjobjogddjelaaGreatDoorX Go.Proofs.YtnjobjogddjelaaGreatDoorW.PrintWords Go.Proofs.YtnjobjogddjelaaGreatDoorW.PrintLast Go.Proofs.YtnjobjogddjelaaGreatDoorW.PrintMore
attribute [local go_sem] max2_int min2_int max_two min_two max_three min_three max_four min_four

/-! lex.many with digit, by hand. -/
def lex_many25.l0 : Nat → ByteArray → Int → Option Int
  | 0, _, _ => none
  | k + 1, x0, x3 => if x3 < (x0.size : Int) then (if 0 ≤ x3 then (if 48 ≤ bt x0 x3 then (if bt x0 x3 ≤ 57 then lex_many25.l0 k x0 (wrap64 (x3 + 1)) else some x3) else some x3) else none) else some x3
theorem lex_many25.mono_l : ∀ k, (∀ y0 y1, LeO (lex_many25.l0 k y0 y1) (lex_many25.l0 (k + 1) y0 y1))
  | 0 => fun _ _ r h => by simp [lex_many25.l0] at h
  | k + 1 => by
    have ih0 := lex_many25.mono_l k
    intro y0 y1
    unfold lex_many25.l0
    repeat' first
      | (with_reducible exact ih0 _ _)
      | (with_reducible exact LeO.refl _)
      | (with_reducible exact LeO.none _)
      | (with_reducible refine LeO.ite ?_ ?_)
      | exact ih0 _ _
      | exact LeO.none _
      | refine LeO.ite ?_ ?_
def lex_many25.f (k : Nat) (a0 : ByteArray) : Option Int := lex_many25.l0 k a0 0
theorem lex_many25.mono : ∀ a0 k, LeO (lex_many25.f k a0) (lex_many25.f (k + 1) a0) := fun a0 k => lex_many25.mono_l k a0 0
set_option maxHeartbeats 8000000 in
set_option maxRecDepth 100000 in
theorem lex_many25.calls (k : Nat) (a0 : ByteArray) (r : Int) (w : World) (h : lex_many25.f k a0 = some r) :
    Calls Tryz.prog 41 #[.string a0, .func (.func 25) #[] #[]] w fun e w' => e = .returned (.int .i64 r) ∧ Drawn0 w w' := by
  have H' : Aside0 (lex_many25.l0 k a0 0 = some r) := ⟨h⟩
  clear h
  go_enter Tryz.func41, Tryz.ntmps41
  go_wp2
  go_loopg [5] k (fun kq v3 w' => ∃ (x3_1 : Int), v3 = .int .i64 x3_1 ∧ Aside0 (lex_many25.l0 kq a0 x3_1 = some r) ∧ Aside0 (kq ≤ k) ∧ Drawn0 w w')
  case atStart => exact ⟨(0), (by first | rfl | (simp; done) | (simp [*]; done)), H', ⟨Nat.le_refl _⟩, by repeat (first | exact Drawn0.refl _ | apply Drawn0.step)⟩
  case round =>
    clear H'
    obtain ⟨x3_1, rfl, HA, HK1, ⟨m1, rfl⟩⟩ := hrel
    cases gk with
    | zero => exact absurd HA.out (by simp [lex_many25.l0])
    | succ k1 =>
      have H := HA.out
      clear HA
      simp only [lex_many25.l0] at H
      by_cases c2 : x3_1 < (a0.size : Int)
      · rw [if_pos c2] at H
        have c2b0 : decide (x3_1 < (a0.size : Int)) = true := decide_eq_true c2
        by_cases c3 : 0 ≤ x3_1
        · rw [if_pos c3] at H
          have p4 : 0 ≤ (x3_1 : Int) := c3
          have q4 : x3_1 < (a0.size : Int) := c2
          have hx4 := bt_at a0 x3_1
          replace p4 := eq_true p4
          replace q4 := eq_true q4
          by_cases c5 : 48 ≤ bt a0 x3_1
          · rw [if_pos c5] at H
            have c5b : decide (48 ≤ bt a0 x3_1) = true := decide_eq_true c5
            by_cases c6 : bt a0 x3_1 ≤ 57
            · rw [if_pos c6] at H
              have c6b : decide (bt a0 x3_1 ≤ 57) = true := decide_eq_true c6
              have H' := Aside0.mk H
              clear H c2 c3 c5 c6
              go_wp2_with (first | go_in)
              go_roundg k1
              case measure => have := HK1.out; omega
              case rel => exact ⟨(wrap64 (x3_1 + 1)), (by first | rfl | (simp; done) | (simp [*]; done)), H', ⟨by have := HK1.out; omega⟩, by repeat (first | exact Drawn0.refl _ | apply Drawn0.step)⟩
            · rw [if_neg c6] at H
              have c6b : decide (bt a0 x3_1 ≤ 57) = false := decide_eq_false c6
              clear c2 c3 c5 c6
              obtain rfl := Option.some.inj H
              go_wp2_with (first | go_in)
              go_ret
              exact ⟨by first | rfl | (simp; done) | (simp [*]; done), by repeat (first | exact Drawn0.refl _ | apply Drawn0.step)⟩
          · rw [if_neg c5] at H
            have c5b : decide (48 ≤ bt a0 x3_1) = false := decide_eq_false c5
            clear c2 c3 c5
            obtain rfl := Option.some.inj H
            go_wp2_with (first | go_in)
            go_ret
            exact ⟨by first | rfl | (simp; done) | (simp [*]; done), by repeat (first | exact Drawn0.refl _ | apply Drawn0.step)⟩
        · rw [if_neg c3] at H
          exact absurd H (by simp)
      · rw [if_neg c2] at H
        have c2b0 : decide (x3_1 < (a0.size : Int)) = false := decide_eq_false c2
        clear c2
        obtain rfl := Option.some.inj H
        go_wp2
        go_ret
        exact ⟨by first | rfl | (simp; done) | (simp [*]; done), by repeat (first | exact Drawn0.refl _ | apply Drawn0.step)⟩
end Go.Proofs.YtnjobjogddjelaaGreatDoor.Print
end

section
namespace Go.Proofs.YtnjobjogddjelaaGreatDoor.Print
open Go.Sort Go.Shelf
open Go.RowKit Go.Proofs.YtnjobjogddjelaaGreatDoorX Go.Proofs.YtnjobjogddjelaaGreatDoorW.PrintWords Go.Proofs.YtnjobjogddjelaaGreatDoorW.PrintLast Go.Proofs.YtnjobjogddjelaaGreatDoorW.PrintMore
attribute [local go_sem] max2_int min2_int max_two min_two max_three min_three max_four min_four

/-! lex.duration, by hand: Atoi reads the digits. -/
def durBad (n c v : Int) : Prop := 3 < n ∨ c = 48 ∨ v < 1 ∨ 100 < v
instance (n c v : Int) : Decidable (durBad n c v) := by unfold durBad; infer_instance
theorem atoi_good (s : ByteArray) (v : Int) (w : World) (h : s.size ≤ 1000 ∧ Lib.atoiAll s.data.toList = Lib.NumEnd.ok v) :
  Calls Tryz.prog 57 #[.string s] w fun e w' => e = .returned (.tuple #[.int .i64 v, .nilIface]) ∧ Below w.heap.size w w' := by
 refine (Tryz.strconv_Atoi_ok s (by omega) v h.2 w).mono fun e w' hh => ⟨hh.1, ?_⟩
 rcases hh.2 with rfl | ⟨t, rfl⟩
 ·exact Below.refl _ _
 ·exact conv_below w t
set_option maxHeartbeats 8000000 in
set_option maxRecDepth 100000 in
theorem lex_duration.good (s : ByteArray) (n v : Int) (w : World) (hg_ : LaidW w) (h0 : 0 ≤ n) (h1 : n ≤ (s.size : Int)) (hs : 0 < s.size) (hm : (s.size : Int) ≤ 1000)
  (ha : (s.extract 0 n.toNat).size ≤ 1000 ∧ Lib.atoiAll (s.extract 0 n.toNat).data.toList = Lib.NumEnd.ok v) (hb : ¬ durBad n (bt s 0) v) :
  Calls Tryz.prog 43 #[.string s, .int .i64 n] w fun e w' => e = .returned (.tuple #[.agg #[.int .i64 3, .int .i64 0, .string ⟨#[]⟩, .bool false, .int .i64 0, .int .i64 v], .int .i64 (wrap64 (n + 1))]) ∧ Below w.heap.size w w' := by
 have hb' : ¬ (3 < n ∨ bt s 0 = 48 ∨ v < 1 ∨ 100 < v) := hb
 have f1 : decide (3 < n) = false := decide_eq_false (by omega)
 have f2 : (bt s 0 == 48) = false := beq_eq_false_iff_ne.mpr (by omega)
 have f3 : decide (v < 1) = false := decide_eq_false (by omega)
 have f4 : decide (100 < v) = false := decide_eq_false (by omega)
 have HA := Aside0.mk ha
 have HB := Aside0.mk (Below.refl w.heap.size w)
 have HLW := Aside0.mk hg_
 have p3 : 0 ≤ (0 : Int) := by omega
 have q3 : 0 < s.size := hs
 have hx3 : ∀ h : 0 < s.size, ((s[0]'h).toNat : Int) = bt s 0 := bt_at s 0
 have qi3 : (0 < (s.size : Int)) = True := eq_true (by omega)
 replace q3 := eq_true q3
 have c6 := eq_true h0
 have c7 := eq_true h1
 clear ha hb hb' hm hg_ p3 hs h0 h1
 go_enter Tryz.func43, Tryz.ntmps43
 go_wp2_with (first | ((with_reducible refine gate_dst (N := 4) rfl ?_); refine box_event ?hg (N := 4) ?hd (cs := #[.int .i64 0, .int .i64 0, .string (⟨#[]⟩ : ByteArray), .bool false, .int .i64 0, .int .i64 0]) (t := 36) ?hr ?_; (case hd => rfl); (case hg => rfl); (case hr => first | (go_simp; done) | (go_simp; rfl)); intro gb hg w4 hbox hb; have n0_ := Aside0.mk (below_step (by repeat (first | (with_reducible first | exact HB.out | apply below_alloc | apply pw_below_drewN | apply below_drew1) | exact HB.out)) hb); have n1_ := Aside0.mk (hbox); have n2_ := Aside0.mk ((by rw [hg]; exact (below_size (by repeat (first | (with_reducible first | exact HB.out | apply below_alloc | apply pw_below_drewN | apply below_drew1) | exact HB.out))) : w.heap.size ≤ gb)); have n3_ := Aside0.mk ((by rw [hg]; exact (below_size (by repeat (first | (with_reducible first | exact HB.out | apply below_alloc | apply pw_below_drewN | apply below_drew1) | exact HB.out))) : w.heap.size ≤ gb)); clear HB; have HB := n0_; have BK := n1_; have GW := n2_; have GE := n3_; clear n0_ n1_ n2_ n3_; clear hb hbox hg))
 refine (atoi_good (s.extract 0 n.toNat) v _ HA.out).mono ?_
 rintro e w13 ⟨rfl, hb⟩
 have n0_ := Aside0.mk (blk_below (g := gb) (o := .cells #[.int .i64 0, .int .i64 0, .string (⟨#[]⟩ : ByteArray), .bool false, .int .i64 0, .int .i64 0] 36 (0, 0)) (by (with_reducible repeat (first | refine blk_drewN ?_ _ | refine blk_drew ?_ | refine blk_alloc ?_ _)); exact BK.out) hb)
 have n1_ := Aside0.mk (below_step (by repeat (first | (with_reducible first | exact HB.out | apply below_alloc | apply pw_below_drewN | apply below_drew1 | refine below_set ?_ GE.out) | exact HB.out)) hb)
 clear BK
 clear HB
 have BK := n0_
 have HB := n1_
 clear n0_ n1_
 clear hb
 have hcz0 : w13.cell? ⟨gb, 0, none⟩ = some (.int .i64 0) := (blk_cell BK.out 0).trans rfl
 have hcz1 : w13.cell? ⟨gb, 1, none⟩ = some (.int .i64 0) := (blk_cell BK.out 1).trans rfl
 have hcz2 : w13.cell? ⟨gb, 2, none⟩ = some (.string (⟨#[]⟩ : ByteArray)) := (blk_cell BK.out 2).trans rfl
 have hcz3 : w13.cell? ⟨gb, 3, none⟩ = some (.bool false) := (blk_cell BK.out 3).trans rfl
 have hcz4 : w13.cell? ⟨gb, 4, none⟩ = some (.int .i64 0) := (blk_cell BK.out 4).trans rfl
 have hcz5 : w13.cell? ⟨gb, 5, none⟩ = some (.int .i64 0) := (blk_cell BK.out 5).trans rfl
 have hfz0 := blk_frozen BK.out 0
 have hfz1 := blk_frozen BK.out 1
 have hfz2 := blk_frozen BK.out 2
 have hfz3 := blk_frozen BK.out 3
 have hfz4 := blk_frozen BK.out 4
 have hfz5 := blk_frozen BK.out 5
 go_wp2
 refine bodyPost_ret (results_ct rfl _ _ gb 36 #[.int .i64 3, .int .i64 0, .string (⟨#[]⟩ : ByteArray), .bool false, .int .i64 0, .int .i64 v] (0, 0) _ rfl (by (with_reducible repeat (first | refine blk_drewN ?_ _ | refine blk_drew ?_ | refine blk_alloc ?_ _)); refine blk_put (cs := #[.int .i64 3, .int .i64 0, .string (⟨#[]⟩ : ByteArray), .bool false, .int .i64 0, .int .i64 0]) ?_ 5 _ rfl; (with_reducible repeat (first | refine blk_drewN ?_ _ | refine blk_drew ?_ | refine blk_alloc ?_ _)); refine blk_put (cs := #[.int .i64 3, .int .i64 0, .string (⟨#[]⟩ : ByteArray), .bool false, .int .i64 0, .int .i64 0]) ?_ 4 _ rfl; (with_reducible repeat (first | refine blk_drewN ?_ _ | refine blk_drew ?_ | refine blk_alloc ?_ _)); refine blk_put (cs := #[.int .i64 3, .int .i64 0, .string (⟨#[]⟩ : ByteArray), .bool false, .int .i64 0, .int .i64 0]) ?_ 3 _ rfl; (with_reducible repeat (first | refine blk_drewN ?_ _ | refine blk_drew ?_ | refine blk_alloc ?_ _)); refine blk_put (cs := #[.int .i64 3, .int .i64 0, .string (⟨#[]⟩ : ByteArray), .bool false, .int .i64 0, .int .i64 0]) ?_ 2 _ rfl; (with_reducible repeat (first | refine blk_drewN ?_ _ | refine blk_drew ?_ | refine blk_alloc ?_ _)); refine blk_put (cs := #[.int .i64 3, .int .i64 0, .string (⟨#[]⟩ : ByteArray), .bool false, .int .i64 0, .int .i64 0]) ?_ 1 _ rfl; (with_reducible repeat (first | refine blk_drewN ?_ _ | refine blk_drew ?_ | refine blk_alloc ?_ _)); refine blk_put (cs := #[.int .i64 0, .int .i64 0, .string (⟨#[]⟩ : ByteArray), .bool false, .int .i64 0, .int .i64 0]) ?_ 0 _ rfl; (with_reducible repeat (first | refine blk_drewN ?_ _ | refine blk_drew ?_ | refine blk_alloc ?_ _)); exact BK.out) Tryz.underlying36 rfl (by kernel_rfl)) rfl ?_
 exact ⟨by first | rfl | (simp [*] <;> rfl), (by repeat (first | (with_reducible first | exact HB.out | apply below_alloc | apply pw_below_drewN | apply below_drew1 | refine below_set ?_ GE.out) | exact HB.out))⟩
set_option maxHeartbeats 8000000 in
set_option maxRecDepth 100000 in
theorem lex_duration.bad (s : ByteArray) (n v : Int) (w : World) (hg_ : LaidW w) (h0 : 0 ≤ n) (h1 : n ≤ (s.size : Int)) (hs : 0 < s.size) (hm : (s.size : Int) ≤ 1000)
  (ha : (s.extract 0 n.toNat).size ≤ 1000 ∧ Lib.atoiAll (s.extract 0 n.toNat).data.toList = Lib.NumEnd.ok v) (hb : durBad n (bt s 0) v) :
  Calls Tryz.prog 43 #[.string s, .int .i64 n] w fun e w' => e = .returned (.tuple #[.agg #[.int .i64 0, .int .i64 0, .string ⟨#[]⟩, .bool false, .int .i64 0, .int .i64 0], .int .i64 0]) ∧ Below w.heap.size w w' := by
 have hb' : decide (3 < n) = true ∨ (decide (3 < n) = false ∧ (bt s 0 == 48) = true) ∨ (decide (3 < n) = false ∧ (bt s 0 == 48) = false ∧ decide (v < 1) = true) ∨ (decide (3 < n) = false ∧ (bt s 0 == 48) = false ∧ decide (v < 1) = false ∧ decide (100 < v) = true) := by
  have hb : 3 < n ∨ bt s 0 = 48 ∨ v < 1 ∨ 100 < v := hb
  by_cases k1 : 3 < n
  ·exact Or.inl (decide_eq_true k1)
  ·by_cases k2 : bt s 0 = 48
   ·exact Or.inr (Or.inl ⟨decide_eq_false k1, beq_iff_eq.mpr k2⟩)
   ·by_cases k3 : v < 1
    ·exact Or.inr (Or.inr (Or.inl ⟨decide_eq_false k1, beq_eq_false_iff_ne.mpr k2, decide_eq_true k3⟩))
    ·exact Or.inr (Or.inr (Or.inr ⟨decide_eq_false k1, beq_eq_false_iff_ne.mpr k2, decide_eq_false k3, decide_eq_true (by omega)⟩))
 have HA := Aside0.mk ha
 have HB := Aside0.mk (Below.refl w.heap.size w)
 have HLW := Aside0.mk hg_
 have p3 : 0 ≤ (0 : Int) := by omega
 have q3 : 0 < s.size := hs
 have hx3 : ∀ h : 0 < s.size, ((s[0]'h).toNat : Int) = bt s 0 := bt_at s 0
 have qi3 : (0 < (s.size : Int)) = True := eq_true (by omega)
 replace q3 := eq_true q3
 have c6 := eq_true h0
 have c7 := eq_true h1
 clear ha hb hm hg_ p3 hs h0 h1
 rcases hb' with f1 | ⟨f1, f2⟩ | ⟨f1, f2, f3⟩ | ⟨f1, f2, f3, f4⟩
 all_goals
  go_enter Tryz.func43, Tryz.ntmps43
  go_wp2_with (first | ((with_reducible refine gate_dst (N := 4) rfl ?_); refine box_event ?hg (N := 4) ?hd (cs := #[.int .i64 0, .int .i64 0, .string (⟨#[]⟩ : ByteArray), .bool false, .int .i64 0, .int .i64 0]) (t := 36) ?hr ?_; (case hd => rfl); (case hg => rfl); (case hr => first | (go_simp; done) | (go_simp; rfl)); intro gb hg w4 hbox hb; have n0_ := Aside0.mk (below_step (by repeat (first | (with_reducible first | exact HB.out | apply below_alloc | apply pw_below_drewN | apply below_drew1) | exact HB.out)) hb); have n1_ := Aside0.mk (hbox); have n2_ := Aside0.mk ((by rw [hg]; exact (below_size (by repeat (first | (with_reducible first | exact HB.out | apply below_alloc | apply pw_below_drewN | apply below_drew1) | exact HB.out))) : w.heap.size ≤ gb)); have n3_ := Aside0.mk ((by rw [hg]; exact (below_size (by repeat (first | (with_reducible first | exact HB.out | apply below_alloc | apply pw_below_drewN | apply below_drew1) | exact HB.out))) : w.heap.size ≤ gb)); clear HB; have HB := n0_; have BK := n1_; have GW := n2_; have GE := n3_; clear n0_ n1_ n2_ n3_; clear hb hbox hg))
  refine (atoi_good (s.extract 0 n.toNat) v _ HA.out).mono ?_
  rintro e w13 ⟨rfl, hb⟩
  have n0_ := Aside0.mk (blk_below (g := gb) (o := .cells #[.int .i64 0, .int .i64 0, .string (⟨#[]⟩ : ByteArray), .bool false, .int .i64 0, .int .i64 0] 36 (0, 0)) (by (with_reducible repeat (first | refine blk_drewN ?_ _ | refine blk_drew ?_ | refine blk_alloc ?_ _)); exact BK.out) hb)
  have n1_ := Aside0.mk (below_step (by repeat (first | (with_reducible first | exact HB.out | apply below_alloc | apply pw_below_drewN | apply below_drew1 | refine below_set ?_ GE.out) | exact HB.out)) hb)
  clear BK
  clear HB
  have BK := n0_
  have HB := n1_
  clear n0_ n1_
  clear hb
  have hcz0 : w13.cell? ⟨gb, 0, none⟩ = some (.int .i64 0) := (blk_cell BK.out 0).trans rfl
  have hcz1 : w13.cell? ⟨gb, 1, none⟩ = some (.int .i64 0) := (blk_cell BK.out 1).trans rfl
  have hcz2 : w13.cell? ⟨gb, 2, none⟩ = some (.string (⟨#[]⟩ : ByteArray)) := (blk_cell BK.out 2).trans rfl
  have hcz3 : w13.cell? ⟨gb, 3, none⟩ = some (.bool false) := (blk_cell BK.out 3).trans rfl
  have hcz4 : w13.cell? ⟨gb, 4, none⟩ = some (.int .i64 0) := (blk_cell BK.out 4).trans rfl
  have hcz5 : w13.cell? ⟨gb, 5, none⟩ = some (.int .i64 0) := (blk_cell BK.out 5).trans rfl
  have hfz0 := blk_frozen BK.out 0
  have hfz1 := blk_frozen BK.out 1
  have hfz2 := blk_frozen BK.out 2
  have hfz3 := blk_frozen BK.out 3
  have hfz4 := blk_frozen BK.out 4
  have hfz5 := blk_frozen BK.out 5
  go_wp2
  refine bodyPost_ret (results_ct rfl _ _ gb 36 #[.int .i64 0, .int .i64 0, .string (⟨#[]⟩ : ByteArray), .bool false, .int .i64 0, .int .i64 0] (0, 0) _ rfl (by (with_reducible repeat (first | refine blk_drewN ?_ _ | refine blk_drew ?_ | refine blk_alloc ?_ _)); refine blk_put (cs := #[.int .i64 0, .int .i64 0, .string (⟨#[]⟩ : ByteArray), .bool false, .int .i64 0, .int .i64 0]) ?_ 5 _ rfl; (with_reducible repeat (first | refine blk_drewN ?_ _ | refine blk_drew ?_ | refine blk_alloc ?_ _)); refine blk_put (cs := #[.int .i64 0, .int .i64 0, .string (⟨#[]⟩ : ByteArray), .bool false, .int .i64 0, .int .i64 0]) ?_ 4 _ rfl; (with_reducible repeat (first | refine blk_drewN ?_ _ | refine blk_drew ?_ | refine blk_alloc ?_ _)); refine blk_put (cs := #[.int .i64 0, .int .i64 0, .string (⟨#[]⟩ : ByteArray), .bool false, .int .i64 0, .int .i64 0]) ?_ 3 _ rfl; (with_reducible repeat (first | refine blk_drewN ?_ _ | refine blk_drew ?_ | refine blk_alloc ?_ _)); refine blk_put (cs := #[.int .i64 0, .int .i64 0, .string (⟨#[]⟩ : ByteArray), .bool false, .int .i64 0, .int .i64 0]) ?_ 2 _ rfl; (with_reducible repeat (first | refine blk_drewN ?_ _ | refine blk_drew ?_ | refine blk_alloc ?_ _)); refine blk_put (cs := #[.int .i64 0, .int .i64 0, .string (⟨#[]⟩ : ByteArray), .bool false, .int .i64 0, .int .i64 0]) ?_ 1 _ rfl; (with_reducible repeat (first | refine blk_drewN ?_ _ | refine blk_drew ?_ | refine blk_alloc ?_ _)); refine blk_put (cs := #[.int .i64 0, .int .i64 0, .string (⟨#[]⟩ : ByteArray), .bool false, .int .i64 0, .int .i64 0]) ?_ 0 _ rfl; (with_reducible repeat (first | refine blk_drewN ?_ _ | refine blk_drew ?_ | refine blk_alloc ?_ _)); exact BK.out) Tryz.underlying36 rfl (by kernel_rfl)) rfl ?_
  exact ⟨by first | rfl | (simp [*] <;> rfl), (by repeat (first | (with_reducible first | exact HB.out | apply below_alloc | apply pw_below_drewN | apply below_drew1 | refine below_set ?_ GE.out) | exact HB.out))⟩
theorem atoi_range (s : ByteArray) (w : World) (hg_ : LaidW w) (h : s.size ≤ 1000 ∧ Lib.atoiAll s.data.toList = Lib.NumEnd.range) :
  Calls Tryz.prog 57 #[.string s] w fun e w' => ∃ (x : Int) (N : Nat), e = .returned (.tuple #[.int .i64 x, .iface 124 (.pointer (some ⟨N, 0, none⟩))]) ∧ Below w.heap.size w w' := by
 obtain ⟨ev, he, hv⟩ := hg_.rng
 refine (Tryz.strconv_Atoi_range s (by omega) h.2 ev w he hv).mono fun e w' hh => ?_
 obtain ⟨N, h1, _, _, h4⟩ := hh
 exact ⟨_, N, h1, h4⟩
set_option maxHeartbeats 8000000 in
set_option maxRecDepth 100000 in
theorem lex_duration.range (s : ByteArray) (n : Int) (w : World) (hg_ : LaidW w) (h0 : 0 ≤ n) (h1 : n ≤ (s.size : Int)) (hs : 0 < s.size) (hm : (s.size : Int) ≤ 1000)
  (ha : (s.extract 0 n.toNat).size ≤ 1000 ∧ Lib.atoiAll (s.extract 0 n.toNat).data.toList = Lib.NumEnd.range) :
  Calls Tryz.prog 43 #[.string s, .int .i64 n] w fun e w' => e = .returned (.tuple #[.agg #[.int .i64 0, .int .i64 0, .string ⟨#[]⟩, .bool false, .int .i64 0, .int .i64 0], .int .i64 0]) ∧ Below w.heap.size w w' := by
 have HA := Aside0.mk ha
 have HB := Aside0.mk (Below.refl w.heap.size w)
 have HLW := Aside0.mk hg_
 have p3 : 0 ≤ (0 : Int) := by omega
 have q3 : 0 < s.size := hs
 have hx3 : ∀ h : 0 < s.size, ((s[0]'h).toNat : Int) = bt s 0 := bt_at s 0
 have qi3 : (0 < (s.size : Int)) = True := eq_true (by omega)
 replace q3 := eq_true q3
 have c6 := eq_true h0
 have c7 := eq_true h1
 clear ha hm hg_ p3 hs h0 h1
 go_enter Tryz.func43, Tryz.ntmps43
 go_wp2_with (first | ((with_reducible refine gate_dst (N := 4) rfl ?_); refine box_event ?hg (N := 4) ?hd (cs := #[.int .i64 0, .int .i64 0, .string (⟨#[]⟩ : ByteArray), .bool false, .int .i64 0, .int .i64 0]) (t := 36) ?hr ?_; (case hd => rfl); (case hg => rfl); (case hr => first | (go_simp; done) | (go_simp; rfl)); intro gb hg w4 hbox hb; have n0_ := Aside0.mk (below_step (by repeat (first | (with_reducible first | exact HB.out | apply below_alloc | apply pw_below_drewN | apply below_drew1) | exact HB.out)) hb); have n1_ := Aside0.mk (hbox); have n2_ := Aside0.mk ((by rw [hg]; exact (below_size (by repeat (first | (with_reducible first | exact HB.out | apply below_alloc | apply pw_below_drewN | apply below_drew1) | exact HB.out))) : w.heap.size ≤ gb)); have n3_ := Aside0.mk ((by rw [hg]; exact (below_size (by repeat (first | (with_reducible first | exact HB.out | apply below_alloc | apply pw_below_drewN | apply below_drew1) | exact HB.out))) : w.heap.size ≤ gb)); clear HB; have HB := n0_; have BK := n1_; have GW := n2_; have GE := n3_; clear n0_ n1_ n2_ n3_; clear hb hbox hg))
 refine (atoi_range (s.extract 0 n.toNat) _ (LaidW.below HLW.out HB.out) HA.out).mono ?_
 rintro e w13 ⟨x, N, rfl, hb⟩
 have n0_ := Aside0.mk (blk_below (g := gb) (o := .cells #[.int .i64 0, .int .i64 0, .string (⟨#[]⟩ : ByteArray), .bool false, .int .i64 0, .int .i64 0] 36 (0, 0)) (by (with_reducible repeat (first | refine blk_drewN ?_ _ | refine blk_drew ?_ | refine blk_alloc ?_ _)); exact BK.out) hb)
 have n1_ := Aside0.mk (below_step (by repeat (first | (with_reducible first | exact HB.out | apply below_alloc | apply pw_below_drewN | apply below_drew1 | refine below_set ?_ GE.out) | exact HB.out)) hb)
 clear BK
 clear HB
 have BK := n0_
 have HB := n1_
 clear n0_ n1_
 clear hb
 have hcz0 : w13.cell? ⟨gb, 0, none⟩ = some (.int .i64 0) := (blk_cell BK.out 0).trans rfl
 have hcz1 : w13.cell? ⟨gb, 1, none⟩ = some (.int .i64 0) := (blk_cell BK.out 1).trans rfl
 have hcz2 : w13.cell? ⟨gb, 2, none⟩ = some (.string (⟨#[]⟩ : ByteArray)) := (blk_cell BK.out 2).trans rfl
 have hcz3 : w13.cell? ⟨gb, 3, none⟩ = some (.bool false) := (blk_cell BK.out 3).trans rfl
 have hcz4 : w13.cell? ⟨gb, 4, none⟩ = some (.int .i64 0) := (blk_cell BK.out 4).trans rfl
 have hcz5 : w13.cell? ⟨gb, 5, none⟩ = some (.int .i64 0) := (blk_cell BK.out 5).trans rfl
 have hfz0 := blk_frozen BK.out 0
 have hfz1 := blk_frozen BK.out 1
 have hfz2 := blk_frozen BK.out 2
 have hfz3 := blk_frozen BK.out 3
 have hfz4 := blk_frozen BK.out 4
 have hfz5 := blk_frozen BK.out 5
 go_wp2
 refine bodyPost_ret (results_ct rfl _ _ gb 36 #[.int .i64 0, .int .i64 0, .string (⟨#[]⟩ : ByteArray), .bool false, .int .i64 0, .int .i64 0] (0, 0) _ rfl (by (with_reducible repeat (first | refine blk_drewN ?_ _ | refine blk_drew ?_ | refine blk_alloc ?_ _)); refine blk_put (cs := #[.int .i64 0, .int .i64 0, .string (⟨#[]⟩ : ByteArray), .bool false, .int .i64 0, .int .i64 0]) ?_ 5 _ rfl; (with_reducible repeat (first | refine blk_drewN ?_ _ | refine blk_drew ?_ | refine blk_alloc ?_ _)); refine blk_put (cs := #[.int .i64 0, .int .i64 0, .string (⟨#[]⟩ : ByteArray), .bool false, .int .i64 0, .int .i64 0]) ?_ 4 _ rfl; (with_reducible repeat (first | refine blk_drewN ?_ _ | refine blk_drew ?_ | refine blk_alloc ?_ _)); refine blk_put (cs := #[.int .i64 0, .int .i64 0, .string (⟨#[]⟩ : ByteArray), .bool false, .int .i64 0, .int .i64 0]) ?_ 3 _ rfl; (with_reducible repeat (first | refine blk_drewN ?_ _ | refine blk_drew ?_ | refine blk_alloc ?_ _)); refine blk_put (cs := #[.int .i64 0, .int .i64 0, .string (⟨#[]⟩ : ByteArray), .bool false, .int .i64 0, .int .i64 0]) ?_ 2 _ rfl; (with_reducible repeat (first | refine blk_drewN ?_ _ | refine blk_drew ?_ | refine blk_alloc ?_ _)); refine blk_put (cs := #[.int .i64 0, .int .i64 0, .string (⟨#[]⟩ : ByteArray), .bool false, .int .i64 0, .int .i64 0]) ?_ 1 _ rfl; (with_reducible repeat (first | refine blk_drewN ?_ _ | refine blk_drew ?_ | refine blk_alloc ?_ _)); refine blk_put (cs := #[.int .i64 0, .int .i64 0, .string (⟨#[]⟩ : ByteArray), .bool false, .int .i64 0, .int .i64 0]) ?_ 0 _ rfl; (with_reducible repeat (first | refine blk_drewN ?_ _ | refine blk_drew ?_ | refine blk_alloc ?_ _)); exact BK.out) Tryz.underlying36 rfl (by kernel_rfl)) rfl ?_
 exact ⟨by first | rfl | (simp [*] <;> rfl), (by repeat (first | (with_reducible first | exact HB.out | apply below_alloc | apply pw_below_drewN | apply below_drew1 | refine below_set ?_ GE.out) | exact HB.out))⟩
def lex_duration.f (s : ByteArray) (n : Int) : Option (Int × Int × ByteArray × Bool × Int × Int × Int) :=
 if 0 ≤ n ∧ n ≤ (s.size : Int) ∧ 0 < s.size ∧ (s.size : Int) ≤ 1000 then
  match Lib.atoiAll (s.extract 0 n.toNat).data.toList with
  | .ok v => if durBad n (bt s 0) v then some (0, 0, ⟨#[]⟩, false, 0, 0, 0) else some (3, 0, ⟨#[]⟩, false, 0, v, wrap64 (n + 1))
  | .range => some (0, 0, ⟨#[]⟩, false, 0, 0, 0)
  | _ => none
 else none
theorem lex_duration.calls (s : ByteArray) (n r1 r2 : Int) (r3 : ByteArray) (r4 : Bool) (r5 r6 r7 : Int) (w : World) (hg_ : LaidW w) (h : lex_duration.f s n = some (r1, r2, r3, r4, r5, r6, r7)) :
  Calls Tryz.prog 43 #[.string s, .int .i64 n] w fun e w' => e = .returned (.tuple #[.agg #[.int .i64 r1, .int .i64 r2, .string r3, .bool r4, .int .i64 r5, .int .i64 r6], .int .i64 r7]) ∧ Below w.heap.size w w' := by
 unfold lex_duration.f at h
 by_cases g : 0 ≤ n ∧ n ≤ (s.size : Int) ∧ 0 < s.size ∧ (s.size : Int) ≤ 1000
 ·rw [if_pos g] at h
  obtain ⟨g1, g2, g3, g4⟩ := g
  have hsz : (s.extract 0 n.toNat).size ≤ 1000 := by
   rw [ByteArray.size_extract]
   omega
  split at h
  ·rename_i v hv
   by_cases hb : durBad n (bt s 0) v
   ·rw [if_pos hb] at h
    simp only [Option.some.injEq, Prod.mk.injEq] at h
    obtain ⟨rfl, rfl, rfl, rfl, rfl, rfl, rfl⟩ := h
    exact lex_duration.bad s n v w hg_ g1 g2 g3 g4 ⟨hsz, hv⟩ hb
   ·rw [if_neg hb] at h
    simp only [Option.some.injEq, Prod.mk.injEq] at h
    obtain ⟨rfl, rfl, rfl, rfl, rfl, rfl, rfl⟩ := h
    exact lex_duration.good s n v w hg_ g1 g2 g3 g4 ⟨hsz, hv⟩ hb
  ·rename_i hv
   simp only [Option.some.injEq, Prod.mk.injEq] at h
   obtain ⟨rfl, rfl, rfl, rfl, rfl, rfl, rfl⟩ := h
   exact lex_duration.range s n w hg_ g1 g2 g3 g4 ⟨hsz, hv⟩
  ·exact absurd h (by simp)
 ·rw [if_neg g] at h
  exact absurd h (by simp)
end Go.Proofs.YtnjobjogddjelaaGreatDoor.Print
end
