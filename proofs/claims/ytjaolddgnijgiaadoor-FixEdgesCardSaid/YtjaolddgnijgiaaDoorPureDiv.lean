import Derived.Test.YtjaolddgnijgiaaDoorPrint15
import Derived.Lib.ItoaNum
namespace Go.Proofs.YtjaolddgnijgiaaDoor.Pure
open Go.RowKit Go.Proofs.YtjaolddgnijgiaaDoor.Print Go.Proofs.YtjaolddgnijgiaaDoorW.PrintWords Go.Proofs.YtjaolddgnijgiaaDoorW.PrintLast Go.Proofs.YtjaolddgnijgiaaDoorW.PrintMore
set_option linter.unusedVariables false
set_option linter.unusedSimpArgs false

/-! Division of two words by one, after Knuth: math/bits.Div64. -/
theorem kn_test {q y1 y0 u u1 r : Int} (h : q * y1 + r = u) : r * 4294967296 + u1 < q * y0 ↔ u * 4294967296 + u1 < q * (y1 * 4294967296 + y0) := by
  have e : q * (y1 * 4294967296 + y0) = (q * y1) * 4294967296 + q * y0 := by rw [Int.mul_add, Int.mul_assoc]
  rw [e]
  generalize q * y1 = a at *
  generalize q * y0 = c
  omega
theorem kn_gt {q y N : Int} (hy : 0 < y) : N < q * y ↔ N / y < q := (Int.ediv_lt_iff_lt_mul hy).symm
theorem kn_top {u y u1 : Int} (hu0 : 0 ≤ u) (hu : u < y) (h0 : 0 ≤ u1) (h1 : u1 < 4294967296) : 0 ≤ (u * 4294967296 + u1) / y ∧ (u * 4294967296 + u1) / y < 4294967296 :=
  ⟨Int.ediv_nonneg (by omega) (by omega), (Int.ediv_lt_iff_lt_mul (by omega)).2 (by omega)⟩
theorem kn_le {u y1 y0 u1 : Int} (hy1 : 0 < y1) (hy0 : 0 ≤ y0) (hu : 0 ≤ u) (h0 : 0 ≤ u1) (h1 : u1 < 4294967296) : (u * 4294967296 + u1) / (y1 * 4294967296 + y0) ≤ u / y1 := by
  rw [Int.le_ediv_iff_mul_le hy1]
  have hq : 0 ≤ (u * 4294967296 + u1) / (y1 * 4294967296 + y0) := Int.ediv_nonneg (by omega) (by omega)
  have hm := (Int.le_ediv_iff_mul_le (show 0 < y1 * 4294967296 + y0 by omega)).1 (Int.le_refl ((u * 4294967296 + u1) / (y1 * 4294967296 + y0)))
  generalize (u * 4294967296 + u1) / (y1 * 4294967296 + y0) = q at *
  have e : q * (y1 * 4294967296 + y0) = (q * y1) * 4294967296 + q * y0 := by rw [Int.mul_add, Int.mul_assoc]
  rw [e] at hm
  have h2 := Int.mul_nonneg hq hy0
  generalize q * y1 = a at *
  generalize q * y0 = c at *
  omega
theorem kn_hat {u y1 y0 : Int} (hy1 : 2147483648 ≤ y1) (h1 : y0 < 4294967296) (hu : u < y1 * 4294967296 + y0) : u / y1 ≤ 4294967297 := by
  have : u / y1 < 4294967298 := (Int.ediv_lt_iff_lt_mul (by omega)).2 (by omega)
  omega
/-- The test of a round asks whether the digit is still too great. -/
theorem kn_bool {q r u u1 y1 y0 : Int} (hy1 : 2147483648 ≤ y1) (hy0 : 0 ≤ y0) (hy02 : y0 < 4294967296) (hu0 : 0 ≤ u1) (hu1 : u1 < 4294967296) (hr0 : 0 ≤ r) (hr : r < 4294967296) (hq0 : 0 ≤ q) (hq : q < 4294967296) (h : q * y1 + r = u) :
    decide (IntKind.u64.wrap (q * y0) > IntKind.u64.wrap (IntKind.u64.wrap (4294967296 * r) + u1)) = decide ((u * 4294967296 + u1) / (y1 * 4294967296 + y0) < q) := by
  have b1 : q * y0 ≤ 4294967295 * 4294967295 := Int.mul_le_mul (by omega) (by omega) hy0 (by omega)
  have b0 := Int.mul_nonneg hq0 hy0
  have e := (kn_test (y0 := y0) (u1 := u1) h).trans (kn_gt (show 0 < y1 * 4294967296 + y0 by omega))
  rw [IntKind.wrap_u64, IntKind.wrap_u64, IntKind.wrap_u64]
  rw [show q * y0 % 18446744073709551616 = q * y0 by omega, show (4294967296 * r % 18446744073709551616 + u1) % 18446744073709551616 = r * 4294967296 + u1 by omega]
  exact decide_eq_decide.2 e
/-- Where the rest is past one word, the digit isn't too great. -/
theorem kn_end {q r u u1 y1 y0 : Int} (hy1 : 0 < y1) (hy0 : 0 ≤ y0) (hy02 : y0 < 4294967296) (hu0 : 0 ≤ u1) (hr : 4294967296 ≤ r) (hq0 : 0 ≤ q) (hq : q ≤ 4294967296) (h : q * y1 + r = u) : q ≤ (u * 4294967296 + u1) / (y1 * 4294967296 + y0) := by
  have e := (kn_test (y0 := y0) (u1 := u1) h).trans (kn_gt (show 0 < y1 * 4294967296 + y0 by omega))
  have b1 : q * y0 ≤ 4294967296 * 4294967295 := Int.mul_le_mul hq (by omega) hy0 (by omega)
  have : ¬ (u * 4294967296 + u1) / (y1 * 4294967296 + y0) < q := fun c => by
    have := e.2 c
    omega
  omega
theorem div_l0 (s u u1 y1 y0 un0 : Int) (hy1 : 2147483648 ≤ y1) (hy12 : y1 < 4294967296) (hy0 : 0 ≤ y0) (hy02 : y0 < 4294967296) (hu : 0 ≤ u) (hu2 : u < y1 * 4294967296 + y0) (hu0 : 0 ≤ u1) (hu1 : u1 < 4294967296) (d : Nat) :
    ∀ (k : Nat) (q r : Int), 4294967296 ≤ r + d * 2147483648 → 0 ≤ r → r < 4294967296 → q * y1 + r = u → (u * 4294967296 + u1) / (y1 * 4294967296 + y0) ≤ q → q ≤ 4294967297 → 2 * d < k →
      ∃ m, k ≤ m + 2 * d ∧ bits_Div64.l0 k (y1 * 4294967296 + y0) s y1 y0 u u1 un0 q r = bits_Div64.j2 m (y1 * 4294967296 + y0) s y1 y0 u u1 un0 ((u * 4294967296 + u1) / (y1 * 4294967296 + y0)) := by
  induction d with
  | zero => intro k q r h1 h2 h3; omega
  | succ d ih =>
    intro k q r h1 h2 h3 h4 h5 h6 hk
    obtain ⟨k, rfl⟩ : ∃ m, k = m + 2 := ⟨k - 2, by omega⟩
    have ht := kn_top hu hu2 hu0 hu1
    have ke := fun (hc : (u * 4294967296 + u1) / (y1 * 4294967296 + y0) < q) c => kn_end (q := q - 1) (r := r + y1) (u := u) (u1 := u1) (y1 := y1) (y0 := y0) (by omega) hy0 hy02 hu0 c (by omega) (by omega) (by rw [Int.sub_mul]; omega)
    have e1 : bits_Div64.l0 (k + 2) (y1 * 4294967296 + y0) s y1 y0 u u1 un0 q r = bits_Div64.j1 (k + 1) (y1 * 4294967296 + y0) s y1 y0 u u1 un0 q r (decide ((u * 4294967296 + u1) / (y1 * 4294967296 + y0) < q)) := by
      simp only [bits_Div64.l0]
      by_cases c : q ≥ 4294967296
      · rw [if_pos c, show decide ((u * 4294967296 + u1) / (y1 * 4294967296 + y0) < q) = true from decide_eq_true (by omega)]
      · rw [if_neg c, kn_bool hy1 hy0 hy02 hu0 hu1 h2 h3 (by omega) (by omega) h4]
    rw [e1]
    generalize (u * 4294967296 + u1) / (y1 * 4294967296 + y0) = Q at *
    simp only [bits_Div64.j1]
    by_cases c : Q < q
    · rw [decide_eq_true c, if_pos rfl]
      have w1 : IntKind.u64.wrap (r + y1) = r + y1 := by rw [IntKind.wrap_u64]; omega
      have w2 : IntKind.u64.wrap (q - 1) = q - 1 := by rw [IntKind.wrap_u64]; omega
      rw [w1, w2]
      by_cases c2 : r + y1 ≥ 4294967296
      · rw [if_pos c2]
        have := ke c c2
        obtain rfl : q = Q + 1 := by omega
        exact ⟨k, by omega, by rw [show Q + 1 - 1 = Q by omega]⟩
      · rw [if_neg c2]
        obtain ⟨m, hm, e⟩ := ih k (q - 1) (r + y1) (by omega) (by omega) (by omega) (by rw [Int.sub_mul]; omega) (by omega) (by omega) (by omega)
        exact ⟨m, by omega, e⟩
    · rw [decide_eq_false c, if_neg (by simp)]
      obtain rfl : q = Q := by omega
      exact ⟨k, by omega, rfl⟩
theorem div_l1 (s u u1 y1 y0 q1 : Int) (hs : 0 ≤ s) (hy1 : 2147483648 ≤ y1) (hy12 : y1 < 4294967296) (hy0 : 0 ≤ y0) (hy02 : y0 < 4294967296) (hu : 0 ≤ u) (hu2 : u < y1 * 4294967296 + y0) (hu0 : 0 ≤ u1) (hu1 : u1 < 4294967296) (d : Nat) :
    ∀ (k : Nat) (q r : Int), 4294967296 ≤ r + d * 2147483648 → 0 ≤ r → r < 4294967296 → q * y1 + r = u → (u * 4294967296 + u1) / (y1 * 4294967296 + y0) ≤ q → q ≤ 4294967297 → 2 * d < k →
      ∃ rem, bits_Div64.l1 k (y1 * 4294967296 + y0) s y1 y0 u1 q1 r u q = some (IntKind.u64.wrap (IntKind.u64.wrap (q1 * 4294967296) + (u * 4294967296 + u1) / (y1 * 4294967296 + y0)), rem) := by
  induction d with
  | zero => intro k q r h1 h2 h3; omega
  | succ d ih =>
    intro k q r h1 h2 h3 h4 h5 h6 hk
    obtain ⟨k, rfl⟩ : ∃ m, k = m + 2 := ⟨k - 2, by omega⟩
    have ht := kn_top hu hu2 hu0 hu1
    have ke := fun (hc : (u * 4294967296 + u1) / (y1 * 4294967296 + y0) < q) c => kn_end (q := q - 1) (r := r + y1) (u := u) (u1 := u1) (y1 := y1) (y0 := y0) (by omega) hy0 hy02 hu0 c (by omega) (by omega) (by rw [Int.sub_mul]; omega)
    have e1 : bits_Div64.l1 (k + 2) (y1 * 4294967296 + y0) s y1 y0 u1 q1 r u q = bits_Div64.j4 (k + 1) (y1 * 4294967296 + y0) s y1 y0 u1 q1 r u q (decide ((u * 4294967296 + u1) / (y1 * 4294967296 + y0) < q)) := by
      simp only [bits_Div64.l1]
      by_cases c : q ≥ 4294967296
      · rw [if_pos c, show decide ((u * 4294967296 + u1) / (y1 * 4294967296 + y0) < q) = true from decide_eq_true (by omega)]
      · rw [if_neg c, kn_bool hy1 hy0 hy02 hu0 hu1 h2 h3 (by omega) (by omega) h4]
    rw [e1]
    have ih := ih k (q - 1) (r + y1)
    generalize (u * 4294967296 + u1) / (y1 * 4294967296 + y0) = Q at *
    simp only [bits_Div64.j4]
    by_cases c : Q < q
    · rw [decide_eq_true c, if_pos rfl]
      have w1 : IntKind.u64.wrap (r + y1) = r + y1 := by rw [IntKind.wrap_u64]; omega
      have w2 : IntKind.u64.wrap (q - 1) = q - 1 := by rw [IntKind.wrap_u64]; omega
      rw [w1, w2]
      by_cases c2 : r + y1 ≥ 4294967296
      · rw [if_pos c2, if_pos hs]
        have := ke c c2
        obtain rfl : q = Q + 1 := by omega
        exact ⟨_, by rw [show Q + 1 - 1 = Q by omega]⟩
      · rw [if_neg c2]
        exact ih (by omega) (by omega) (by omega) (by rw [Int.sub_mul]; omega) (by omega) (by omega) (by omega)
    · rw [decide_eq_false c, if_neg (by simp), if_pos hs]
      obtain rfl : q = Q := by omega
      exact ⟨_, rfl⟩
/-- Both digits. -/
theorem div_two (k : Nat) (s u u1 u0 y1 y0 : Int) (hk : 20 < k) (hs : 0 ≤ s) (hy1 : 2147483648 ≤ y1) (hy12 : y1 < 4294967296) (hy0 : 0 ≤ y0) (hy02 : y0 < 4294967296) (hu : 0 ≤ u) (hu2 : u < y1 * 4294967296 + y0) (hu10 : 0 ≤ u1) (hu1 : u1 < 4294967296) (hu00 : 0 ≤ u0) (hu0 : u0 < 4294967296) :
    ∃ rem, bits_Div64.l0 k (y1 * 4294967296 + y0) s y1 y0 u u1 u0 (IntKind.u64.wrap (Int.tdiv u y1)) (IntKind.u64.wrap (u - IntKind.u64.wrap (IntKind.u64.wrap (Int.tdiv u y1) * y1))) =
      some ((u * 18446744073709551616 + u1 * 4294967296 + u0) / (y1 * 4294967296 + y0), rem) := by
  have start : ∀ u, 0 ≤ u → u < y1 * 4294967296 + y0 → IntKind.u64.wrap (Int.tdiv u y1) = u / y1 ∧ IntKind.u64.wrap (u - IntKind.u64.wrap (u / y1 * y1)) = u % y1 ∧ u / y1 * y1 + u % y1 = u ∧ 0 ≤ u % y1 ∧ u % y1 < y1 := by
    intro u hu hu2
    have h1 := kn_hat hy1 hy02 hu2
    have h0 : 0 ≤ u / y1 := Int.ediv_nonneg hu (by omega)
    have e := Int.mul_ediv_add_emod u y1
    have m0 := Int.emod_nonneg u (show y1 ≠ 0 by omega)
    have m1 := Int.emod_lt_of_pos u (show 0 < y1 by omega)
    rw [Int.mul_comm] at e
    have h2 := Int.mul_nonneg h0 (show 0 ≤ y1 by omega)
    rw [Int.tdiv_eq_ediv_of_nonneg hu, IntKind.wrap_u64, IntKind.wrap_u64, IntKind.wrap_u64]
    generalize u / y1 * y1 = p at *
    generalize u / y1 = a at *
    generalize u % y1 = b at *
    refine ⟨by omega, by omega, by omega, by omega, by omega⟩
  obtain ⟨a1, a2, a3, a4, a5⟩ := start u hu hu2
  rw [a1, a2]
  obtain ⟨m, hm, e⟩ := div_l0 s u u1 y1 y0 u0 hy1 hy12 hy0 hy02 hu hu2 hu10 hu1 2 k (u / y1) (u % y1) (by omega) a4 (by omega) a3 (kn_le (by omega) hy0 hu hu10 hu1) (kn_hat hy1 hy02 hu2) (by omega)
  rw [e]
  have ht := kn_top hu hu2 hu10 hu1
  have hme := Int.mul_ediv_add_emod (u * 4294967296 + u1) (y1 * 4294967296 + y0)
  have m0 := Int.emod_nonneg (u * 4294967296 + u1) (show y1 * 4294967296 + y0 ≠ 0 by omega)
  have m1 := Int.emod_lt_of_pos (u * 4294967296 + u1) (show 0 < y1 * 4294967296 + y0 by omega)
  obtain ⟨Q, hQ⟩ : ∃ Q, (u * 4294967296 + u1) / (y1 * 4294967296 + y0) = Q := ⟨_, rfl⟩
  obtain ⟨v, hv⟩ : ∃ v, (u * 4294967296 + u1) % (y1 * 4294967296 + y0) = v := ⟨_, rfl⟩
  rw [hQ] at ht hme ⊢
  rw [hv] at hme m0 m1
  obtain ⟨m, rfl⟩ : ∃ n, m = n + 1 := ⟨m - 1, by omega⟩
  simp only [bits_Div64.j2]
  rw [if_neg (by omega)]
  have hyy : y1 * 4294967296 + y0 < 18446744073709551616 := by omega
  have g : IntKind.u64.wrap (IntKind.u64.wrap (IntKind.u64.wrap (u * 4294967296) + u1) - IntKind.u64.wrap (Q * (y1 * 4294967296 + y0))) = v := by
    rw [IntKind.wrap_u64, IntKind.wrap_u64, IntKind.wrap_u64, IntKind.wrap_u64]
    rw [Int.mul_comm] at hme
    generalize Q * (y1 * 4294967296 + y0) = p at *
    omega
  rw [g]
  obtain ⟨b1, b2, b3, b4, b5⟩ := start v m0 m1
  rw [b1, b2]
  obtain ⟨rem, e2⟩ := div_l1 s v u0 y1 y0 Q hs hy1 hy12 hy0 hy02 m0 m1 hu00 hu0 2 m (v / y1) (v % y1) (by omega) b4 (by omega) b3 (kn_le (by omega) hy0 m0 hu00 hu0) (kn_hat hy1 hy02 m1) (by omega)
  refine ⟨rem, ?_⟩
  rw [e2]
  congr 2
  have ht2 := kn_top m0 m1 hu00 hu0
  have fin : (u * 18446744073709551616 + u1 * 4294967296 + u0) / (y1 * 4294967296 + y0) = Q * 4294967296 + (v * 4294967296 + u0) / (y1 * 4294967296 + y0) := by
    have : u * 18446744073709551616 + u1 * 4294967296 + u0 = (v * 4294967296 + u0) + (Q * 4294967296) * (y1 * 4294967296 + y0) := by
      have e3 : (Q * 4294967296) * (y1 * 4294967296 + y0) = ((y1 * 4294967296 + y0) * Q) * 4294967296 := by rw [Int.mul_right_comm, Int.mul_comm Q]
      rw [e3]
      generalize (y1 * 4294967296 + y0) * Q = p at *
      omega
    rw [this, Int.add_mul_ediv_right _ _ (by omega)]
    omega
  rw [fin, IntKind.wrap_u64, IntKind.wrap_u64]
  generalize (v * 4294967296 + u0) / (y1 * 4294967296 + y0) = b at *
  omega
theorem and_mask {n : Int} (h1 : 0 ≤ n) (h2 : n < 18446744073709551616) : Go.bits .and .u64 n 4294967295 = n % 4294967296 := by
  have e2 : BitVec.ofInt 64 4294967295 = BitVec.ofNat 64 4294967295 := by decide
  have hz : (BitVec.ofInt 64 n &&& BitVec.ofNat 64 4294967295).toNat = (n % 18446744073709551616).toNat % 4294967296 := by
    rw [BitVec.toNat_and, BitVec.toNat_ofInt, BitVec.toNat_ofNat, show 4294967295 % 2 ^ 64 = 2 ^ 32 - 1 from rfl, Nat.and_two_pow_sub_one_eq_mod]
    rfl
  show IntKind.u64.wrap (((BitVec.ofInt 64 n &&& BitVec.ofInt 64 4294967295).toNat : Nat) : Int) = _
  rw [e2, hz, IntKind.wrap_u64]
  omega
theorem or_disj {a b : Nat} (s : Nat) (ha : a * 2 ^ s < 18446744073709551616) (hb : b < 2 ^ s) (hb2 : b < 18446744073709551616) (hs : a * 2 ^ s + b < 18446744073709551616) :
    Go.bits .or .u64 ((a * 2 ^ s : Nat) : Int) (b : Int) = ((a * 2 ^ s + b : Nat) : Int) := by
  have hz : (BitVec.ofInt 64 ((a * 2 ^ s : Nat) : Int) ||| BitVec.ofInt 64 (b : Int)).toNat = a * 2 ^ s + b := by
    rw [BitVec.toNat_or, BitVec.toNat_ofInt, BitVec.toNat_ofInt]
    have a1 : (((a * 2 ^ s : Nat) : Int) % ((2 ^ 64 : Nat) : Int)).toNat = a <<< s := by rw [Nat.shiftLeft_eq]; omega
    have a2 : ((b : Int) % ((2 ^ 64 : Nat) : Int)).toNat = b := by omega
    rw [a1, a2, ← Nat.shiftLeft_add_eq_or_of_lt hb, Nat.shiftLeft_eq]
  show IntKind.u64.wrap (((BitVec.ofInt 64 ((a * 2 ^ s : Nat) : Int) ||| BitVec.ofInt 64 (b : Int)).toNat : Nat) : Int) = _
  rw [hz, IntKind.wrap_u64]
  omega
theorem shl_nat (x s : Nat) (hs : s ≤ 64) : shl .u64 (x : Int) (s : Int) = ((x * 2 ^ s % 18446744073709551616 : Nat) : Int) := by
  unfold shl
  rw [IntKind.wrap_u64, Int.toNat_natCast, show IntKind.u64.bits = 64 from rfl, Nat.min_eq_left hs, Int.natCast_emod, Int.natCast_mul, Int.natCast_pow]
  rfl
theorem shr_nat (x s : Nat) (hs : s ≤ 64) : shr .u64 (x : Int) (s : Int) = ((x / 2 ^ s : Nat) : Int) := by
  unfold shr
  rw [Int.toNat_natCast, show IntKind.u64.bits = 64 from rfl, Nat.min_eq_left hs, Int.natCast_ediv, Int.natCast_pow]
  rfl
theorem div64 (k : Nat) (hi lo c : Int) (hk : 20 < k) (h0 : 0 ≤ hi) (h1 : hi < c) (c1 : c < 18446744073709551616) (l0 : 0 ≤ lo) (l1 : lo < 18446744073709551616) :
    ∃ rem, bits_Div64.f k hi lo c = some ((hi * 18446744073709551616 + lo) / c, rem) := by
  unfold bits_Div64.f
  rw [if_neg (by omega), if_neg (by omega)]
  by_cases z : hi = 0
  · rw [if_pos z, z]
    refine ⟨Int.tmod lo c, ?_⟩
    congr 2
    rw [Int.tdiv_eq_ediv_of_nonneg l0, IntKind.wrap_u64]
    have a := Int.ediv_nonneg l0 (show 0 ≤ c by omega)
    have b : lo / c ≤ lo := Int.ediv_le_self _ l0
    rw [show (0 : Int) * 18446744073709551616 + lo = lo by omega]
    omega
  · rw [if_neg z]
    unfold bits_LeadingZeros64.f
    rw [if_pos ⟨by omega, by omega⟩, Option.bind_some]
    obtain ⟨hi, rfl⟩ : ∃ n : Nat, hi = n := ⟨hi.toNat, by omega⟩
    obtain ⟨lo, rfl⟩ : ∃ n : Nat, lo = n := ⟨lo.toNat, by omega⟩
    obtain ⟨c, rfl⟩ : ∃ n : Nat, c = n := ⟨c.toNat, by omega⟩
    rw [Int.toNat_natCast]
    have hb : 1 ≤ Lib.bitLen c ∧ 2 ^ (Lib.bitLen c - 1) ≤ c ∧ c < 2 ^ Lib.bitLen c := Lib.bitLenAux_bounds 64 c (by omega) (by omega)
    have hb2 : Lib.bitLen c ≤ 64 := Lib.bitLen_le c 64 (by omega) (by omega)
    obtain ⟨b, hbb⟩ : ∃ b, Lib.bitLen c = b := ⟨_, rfl⟩
    rw [hbb] at hb hb2 ⊢
    obtain ⟨s, hs⟩ : ∃ s : Nat, s = 64 - b := ⟨_, rfl⟩
    have w1 : IntKind.u64.wrap (64 - (b : Int)) = (s : Int) := by rw [IntKind.wrap_u64]; omega
    have w2 : IntKind.u64.wrap (64 - (s : Int)) = (b : Int) := by rw [IntKind.wrap_u64]; omega
    rw [w1, w2, if_pos (by omega), if_pos (by omega), shl_nat c s (by omega), shl_nat hi s (by omega), shl_nat lo s (by omega), shr_nat lo b (by omega)]
    obtain ⟨hb0, hb1, hb3⟩ := hb
    have hP : 2 ^ b * 2 ^ s = 18446744073709551616 := by
      rw [← Nat.pow_add, show b + s = 64 by omega]
    have hP2 : 2 ^ (b - 1) * 2 ^ s = 9223372036854775808 := by
      rw [← Nat.pow_add, show b - 1 + s = 63 by omega]
    have P0 : 0 < 2 ^ s := Nat.two_pow_pos s
    have R0 : 0 < 2 ^ b := Nat.two_pow_pos b
    have m1 : c * 2 ^ s < 18446744073709551616 := by rw [← hP]; exact Nat.mul_lt_mul_of_pos_right hb3 P0
    have m2 : 9223372036854775808 ≤ c * 2 ^ s := by rw [← hP2]; exact Nat.mul_le_mul_right _ hb1
    have m3 : hi * 2 ^ s < c * 2 ^ s := Nat.mul_lt_mul_of_pos_right (by omega) P0
    have m4 : lo / 2 ^ b < 2 ^ s := by
      rw [Nat.div_lt_iff_lt_mul R0, Nat.mul_comm, hP]
      omega
    have m5 : lo * 2 ^ s / 18446744073709551616 = lo / 2 ^ b := by rw [← hP, Nat.mul_div_mul_right _ _ P0]
    have m6 : hi * 2 ^ s + 2 ^ s ≤ c * 2 ^ s := by
      rw [← Nat.succ_mul]
      exact Nat.mul_le_mul_right _ (by omega)
    have m7 : (hi * 18446744073709551616 + lo) / c = ((hi * 18446744073709551616 + lo) * 2 ^ s) / (c * 2 ^ s) := (Nat.mul_div_mul_right _ _ P0).symm
    have m8 : (hi * 18446744073709551616 + lo) * 2 ^ s = hi * 2 ^ s * 18446744073709551616 + lo * 2 ^ s := by
      rw [Nat.add_mul, Nat.mul_right_comm]
    rw [Nat.mod_eq_of_lt m1, Nat.mod_eq_of_lt (show hi * 2 ^ s < 18446744073709551616 by omega), or_disj s (by omega) m4 (by omega) (by omega)]
    have e7 : ((hi : Int) * 18446744073709551616 + (lo : Int)) / (c : Int) = (((hi * 18446744073709551616 + lo) / c : Nat) : Int) := by rw [Int.natCast_ediv, Int.natCast_add, Int.natCast_mul]; rfl
    rw [e7, m7, m8]
    clear e7 m7 m8 hP hP2 hb1 hb3
    generalize c * 2 ^ s = Y at *
    generalize hi * 2 ^ s = H at *
    generalize hL : lo * 2 ^ s = L at *
    generalize lo / 2 ^ b = l at *
    generalize 2 ^ s = P at *
    rw [if_neg (by omega), and_mask (by omega) (by omega), and_mask (by omega) (by omega)]
    have e := div_two k s ((H + l : Nat) : Int) (((L % 18446744073709551616 : Nat) : Int) / 4294967296) (((L % 18446744073709551616 : Nat) : Int) % 4294967296) ((Y : Int) / 4294967296) ((Y : Int) % 4294967296) hk (by omega) (by omega) (by omega) (by omega) (by omega) (by omega) (by omega) (by omega) (by omega) (by omega) (by omega)
    rw [show (Y : Int) / 4294967296 * 4294967296 + (Y : Int) % 4294967296 = (Y : Int) by omega] at e
    obtain ⟨rem, e⟩ := e
    refine ⟨rem, e.trans (congrArg (fun x => some (x, rem)) ?_)⟩
    have : ((H + l : Nat) : Int) * 18446744073709551616 + ((L % 18446744073709551616 : Nat) : Int) / 4294967296 * 4294967296 + ((L % 18446744073709551616 : Nat) : Int) % 4294967296 = ((H * 18446744073709551616 + L : Nat) : Int) := by omega
    rw [this, ← Int.natCast_ediv]
end Go.Proofs.YtjaolddgnijgiaaDoor.Pure
