import Derived.Test.YtjaolddgnijgiaaDoorPrint8
import Derived.Test.YtjaolddgnijgiaaDoorPrint11
namespace Go.Proofs.YtjaolddgnijgiaaDoor.Pure
open Go.RowKit Go.Proofs.YtjaolddgnijgiaaDoor.Print Go.Proofs.YtjaolddgnijgiaaDoorW.PrintWords Go.Proofs.YtjaolddgnijgiaaDoorW.PrintLast Go.Proofs.YtjaolddgnijgiaaDoorW.PrintMore
set_option linter.unusedVariables false
set_option linter.unusedSimpArgs false
theorem wrap_id {n : Int} (h1 : -9223372036854775808 ≤ n) (h2 : n ≤ 9223372036854775807) : wrap64 n = n := by unfold wrap64; omega
theorem u64_mod (n : Int) : IntKind.u64.wrap n = n % 18446744073709551616 := IntKind.wrap_u64 n

/-! The exact sum. -/
def isOver (a : S25) : Bool := a.f0 || a.f1 == -9223372036854775808
def sums (l : List S25) : Int := (l.map fun a => a.f1).sum
def told (s : Int) : Bool × Int := if -9223372036854775808 < s ∧ s < 9223372036854775808 then (false, s) else (true, 0)
def sumS (l : List S25) : Bool × Int := if l.any isOver then (true, 0) else told (sums l)
def I64 (l : List S25) : Prop := ∀ a ∈ l, -9223372036854775808 ≤ a.f1 ∧ a.f1 ≤ 9223372036854775807

theorem over_eq (a : Bool) (n : Int) : fix_over.f a n = some (isOver ⟨a, n⟩) := by
  unfold fix_over.f isOver
  cases a <;> simp
theorem num_eq (S : Int) (h : -170141183460469231731687303715884105728 ≤ S ∧ S < 170141183460469231731687303715884105728) :
    fix_wide_num.f (S / 18446744073709551616 % 18446744073709551616) (S % 18446744073709551616) = some (told S) := by
  unfold fix_wide_num.f fix_of.f fix_held.f fix_ovf.f told
  simp only [Option.bind_some, u64_mod]
  obtain ⟨n, hn⟩ : ∃ n, wrap64 (S % 18446744073709551616) = n := ⟨_, rfl⟩
  rw [hn]
  have e : n = (S % 18446744073709551616 + 9223372036854775808) % 18446744073709551616 - 9223372036854775808 := by rw [← hn]; unfold wrap64; omega
  clear hn
  by_cases c1 : -9223372036854775808 ≤ S ∧ S < 9223372036854775808
  · have f1 : n = S := by omega
    subst f1
    have f2 : (n / 9223372036854775808 % 18446744073709551616 == n / 18446744073709551616 % 18446744073709551616) = true := by rw [beq_iff_eq]; omega
    have f3 : (n % 18446744073709551616 == n % 18446744073709551616) = true := beq_self_eq_true _
    rw [f2, f3]
    simp only [Bool.not_true, Bool.or_self, Bool.false_eq_true, if_false]
    by_cases c2 : n = -9223372036854775808
    · rw [if_pos c2, if_neg (by omega)]
      rfl
    · rw [if_neg c2, if_pos (by omega)]
      rfl
  · have f2 : (!(n / 9223372036854775808 % 18446744073709551616 == S / 18446744073709551616 % 18446744073709551616) || !(n % 18446744073709551616 == S % 18446744073709551616)) = true := by
      by_cases g : n / 9223372036854775808 % 18446744073709551616 = S / 18446744073709551616 % 18446744073709551616
      · exfalso
        obtain ⟨q, hq⟩ : ∃ q, S / 18446744073709551616 = q := ⟨_, rfl⟩
        obtain ⟨lo, hlo⟩ : ∃ lo, S % 18446744073709551616 = lo := ⟨_, rfl⟩
        rw [hq] at g
        rw [hlo] at e
        have s1 : S = q * 18446744073709551616 + lo := by omega
        have s2 : -9223372036854775808 ≤ q ∧ q < 9223372036854775808 := by omega
        have s3 : 0 ≤ lo ∧ lo < 18446744073709551616 := by omega
        clear hq hlo
        by_cases hn0 : 0 ≤ n
        · have : n / 9223372036854775808 = 0 := by omega
          rw [this] at g
          have : q = 0 := by omega
          omega
        · have : n / 9223372036854775808 = -1 := by omega
          rw [this] at g
          have : q = -1 := by omega
          omega
      · rw [beq_eq_false_iff_ne.mpr g]
        rfl
    rw [if_pos f2, if_neg (by omega)]
theorem add_eq (S n : Int) (h1 : -9223372036854775808 ≤ n) (h2 : n ≤ 9223372036854775807) :
    fix_wide_add.f (S / 18446744073709551616 % 18446744073709551616) (S % 18446744073709551616) (n / 9223372036854775808 % 18446744073709551616) (n % 18446744073709551616) =
      some ((S + n) / 18446744073709551616 % 18446744073709551616, (S + n) % 18446744073709551616) := by
  unfold fix_wide_add.f
  rw [if_pos (by omega)]
  have g : (S + n) / 18446744073709551616 = S / 18446744073709551616 + n / 18446744073709551616 + (S % 18446744073709551616 + n % 18446744073709551616) / 18446744073709551616 := by omega
  have g2 : n / 9223372036854775808 = n / 18446744073709551616 := by omega
  have g3 : (S + n) % 18446744073709551616 = (S % 18446744073709551616 + n % 18446744073709551616) % 18446744073709551616 := by omega
  rw [g, g2, g3]
  generalize S / 18446744073709551616 = q
  generalize n / 18446744073709551616 = m
  generalize (S % 18446744073709551616 + n % 18446744073709551616) / 18446744073709551616 = c
  congr 2
  omega
theorem rd_nat (l : List S25) (i : Nat) (h : i < l.length) : rd_T25 l i = l[i] := by
  unfold rd_T25
  rw [Int.toNat_natCast, List.getD_eq_getElem?_getD, List.getElem?_eq_getElem h]
  rfl
theorem sums_bound : ∀ (l : List S25), I64 l → -9223372036854775808 * (l.length : Int) ≤ sums l ∧ sums l ≤ 9223372036854775807 * (l.length : Int)
  | [], _ => by simp [sums]
  | a :: r, h => by
    have ih := sums_bound r (fun b hb => h b (by simp [hb]))
    have ha := h a (by simp)
    simp only [sums, List.map_cons, List.sum_cons, List.length_cons] at ih ⊢
    omega
theorem sum_l0 (l : List S25) (hl : I64 l) (hn : l.length ≤ 1000) (d : Nat) : ∀ (k i : Nat), i + d = l.length → d < k → (l.take i).any isOver = false →
    fix_Sum.l0 k l (l.length : Int) i (sums (l.take i) / 18446744073709551616 % 18446744073709551616) (sums (l.take i) % 18446744073709551616) = some (sumS l) := by
  induction d with
  | zero =>
    intro k i hi hk ho
    obtain ⟨m, rfl⟩ : ∃ m, k = m + 1 := ⟨k - 1, by omega⟩
    obtain rfl : i = l.length := by omega
    rw [List.take_length] at ho ⊢
    simp only [fix_Sum.l0]
    have hb := sums_bound l hl
    rw [if_neg (by omega), num_eq _ (by omega)]
    unfold sumS
    rw [ho]
    rfl
  | succ d ih =>
    intro k i hi hk ho
    obtain ⟨m, rfl⟩ : ∃ m, k = m + 1 := ⟨k - 1, by omega⟩
    have hil : i < l.length := by omega
    have hmem : l[i] ∈ l := List.getElem_mem hil
    have hr := hl _ hmem
    have ht : l.take (i + 1) = l.take i ++ [l[i]] := by rw [List.take_succ_eq_append_getElem hil]
    have hs : sums (l.take (i + 1)) = sums (l.take i) + l[i].f1 := by unfold sums; rw [ht, List.map_append, List.sum_append, List.map_cons, List.map_nil, List.sum_cons, List.sum_nil, Int.add_zero]
    have e2 : wrap64 ((i : Int) + 1) = ((i + 1 : Nat) : Int) := by rw [wrap_id (by omega) (by omega)]; omega
    simp only [fix_Sum.l0]
    rw [if_pos (by omega), if_pos (by omega), if_pos (by omega), rd_nat l i hil, over_eq, Option.bind_some]
    by_cases hov : isOver l[i] = true
    · rw [show (⟨l[i].f0, l[i].f1⟩ : S25) = l[i] from rfl, if_pos hov]
      have : l.any isOver = true := List.any_eq_true.2 ⟨_, hmem, hov⟩
      unfold sumS fix_ovf.f
      rw [this]
      rfl
    · rw [show (⟨l[i].f0, l[i].f1⟩ : S25) = l[i] from rfl, if_neg hov]
      unfold fix_of.f
      simp only [Option.bind_some, u64_mod]
      rw [add_eq _ _ hr.1 hr.2, Option.bind_some, ← hs, e2]
      refine ih m (i + 1) (by omega) (by omega) ?_
      rw [ht, List.any_append, ho]
      simpa using hov
theorem sum_eq (k : Nat) (l : List S25) (hl : I64 l) (hn : l.length ≤ 1000) (hk : 1001 < k) : fix_Sum.f k l = some (sumS l) := by
  have h := sum_l0 l hl hn l.length k 0 (by omega) (by omega) rfl
  exact h

/-! The document's. -/
theorem and_32 {n : Int} (h1 : -9223372036854775808 ≤ n) (h2 : n ≤ 9223372036854775807) : Go.bits .and .i64 n 4294967295 = n % 4294967296 := by
  have e2 : BitVec.ofInt 64 4294967295 = BitVec.ofNat 64 4294967295 := by decide
  have hz : (BitVec.ofInt 64 n &&& BitVec.ofNat 64 4294967295).toNat = (n % 18446744073709551616).toNat % 4294967296 := by
    rw [BitVec.toNat_and, BitVec.toNat_ofInt, BitVec.toNat_ofNat, show 4294967295 % 2 ^ 64 = 2 ^ 32 - 1 from rfl, Nat.and_two_pow_sub_one_eq_mod]
    rfl
  show IntKind.i64.wrap (((BitVec.ofInt 64 n &&& BitVec.ofInt 64 4294967295).toNat : Nat) : Int) = _
  rw [e2, hz, IntKind.wrap_i64]
  omega
theorem or_32 {h l : Int} (h1 : -2147483648 ≤ h) (h2 : h < 2147483648) (l1 : 0 ≤ l) (l2 : l < 4294967296) : Go.bits .or .i64 (wrap64 (h * 4294967296)) l = h * 4294967296 + l := by
  have e1 : wrap64 (h * 4294967296) = h * 4294967296 := wrap_id (by omega) (by omega)
  rw [e1]
  have hz : (BitVec.ofInt 64 (h * 4294967296) ||| BitVec.ofInt 64 l).toNat = (h % 4294967296).toNat * 4294967296 + l.toNat := by
    rw [BitVec.toNat_or, BitVec.toNat_ofInt, BitVec.toNat_ofInt]
    have a1 : (h * 4294967296 % ((2 ^ 64 : Nat) : Int)).toNat = (h % 4294967296).toNat <<< 32 := by rw [Nat.shiftLeft_eq]; omega
    have a2 : (l % ((2 ^ 64 : Nat) : Int)).toNat = l.toNat := by omega
    rw [a1, a2, ← Nat.shiftLeft_add_eq_or_of_lt (show l.toNat < 2 ^ 32 by omega), Nat.shiftLeft_eq]
  show IntKind.i64.wrap (((BitVec.ofInt 64 (h * 4294967296) ||| BitVec.ofInt 64 l).toNat : Nat) : Int) = _
  rw [hz, IntKind.wrap_i64]
  omega
theorem is_eq (a : S25) (h : a.f0 = false) : spillwayref2_Is.f a.f0 a.f1 = some (!isOver a) := by
  unfold spillwayref2_Is.f isOver
  rw [h]
  by_cases c : a.f1 = -9223372036854775808
  · simp [c]
  · simp [c]
theorem ref_l0 (l : List S25) (hl : I64 l) (hn : l.length ≤ 1000) (d : Nat) : ∀ (k i : Nat) (hi lo : Int), i + d = l.length → d < k → (l.take i).any isOver = false → hi * 4294967296 + lo = sums (l.take i) → 0 ≤ lo → lo < 4294967296 →
    spillwayref2_Sum.l0 k l hi lo i = some (sumS l) := by
  induction d with
  | zero =>
    intro k i hi lo hid hk ho he l0 l1
    obtain ⟨m, rfl⟩ : ∃ m, k = m + 1 := ⟨k - 1, by omega⟩
    obtain rfl : i = l.length := by omega
    rw [List.take_length] at ho he
    simp only [spillwayref2_Sum.l0, spillwayref2_Ovf.f, Option.bind_some]
    unfold sumS told
    rw [ho, if_neg (by omega), ← he]
    simp only [Bool.false_eq_true, if_false]
    by_cases c1 : hi < -2147483648
    · rw [if_pos c1, if_neg (by omega)]
    · rw [if_neg c1]
      by_cases c2 : hi ≥ 2147483648
      · rw [if_pos c2, if_neg (by omega)]
      · rw [if_neg c2, or_32 (by omega) (by omega) l0 l1]
        by_cases c3 : hi = -2147483648
        · rw [if_pos c3]
          by_cases c4 : lo = 0
          · rw [if_pos c4, if_neg (by omega)]
          · rw [if_neg c4, if_pos (by omega)]
        · rw [if_neg c3, if_pos (by omega)]
  | succ d ih =>
    intro k i hi lo hid hk ho he l0 l1
    obtain ⟨m, rfl⟩ : ∃ m, k = m + 1 := ⟨k - 1, by omega⟩
    have hil : i < l.length := by omega
    have hmem : l[i] ∈ l := List.getElem_mem hil
    have hr := hl _ hmem
    have ht : l.take (i + 1) = l.take i ++ [l[i]] := by rw [List.take_succ_eq_append_getElem hil]
    have hs : sums (l.take (i + 1)) = sums (l.take i) + l[i].f1 := by unfold sums; rw [ht, List.map_append, List.sum_append, List.map_cons, List.map_nil, List.sum_cons, List.sum_nil, Int.add_zero]
    have hb := sums_bound (l.take i) (fun a ha => hl a (List.mem_of_mem_take ha))
    have hlt : ((l.take i).length : Int) ≤ 1000 := by rw [List.length_take]; omega
    simp only [spillwayref2_Sum.l0]
    rw [if_pos (by omega), if_pos (by omega), rd_nat l i hil]
    have fin : isOver l[i] = true → some ((true, (0 : Int))) = some (sumS l) := by
      intro hov
      have : l.any isOver = true := List.any_eq_true.2 ⟨_, hmem, hov⟩
      unfold sumS
      rw [this]
      rfl
    by_cases c0 : l[i].f0 = true
    · rw [if_pos c0]
      exact fin (by unfold isOver; rw [c0]; rfl)
    · rw [if_neg c0, is_eq _ (by simpa using c0), Option.bind_some]
      by_cases hov : isOver l[i] = true
      · rw [hov, if_neg (by simp)]
        exact fin hov
      · have hov' : isOver l[i] = false := by simpa using hov
        rw [hov', if_pos (by simp)]
        obtain ⟨n, hnn⟩ : ∃ n, l[i].f1 = n := ⟨_, rfl⟩
        rw [hnn] at hr hs ⊢
        obtain ⟨S, hS⟩ : ∃ S, sums (l.take i) = S := ⟨_, rfl⟩
        obtain ⟨L, hL⟩ : ∃ L : Int, ((l.take i).length : Int) = L := ⟨_, rfl⟩
        rw [hS] at hs he hb
        rw [hL] at hb hlt
        have p1 : n % 4294967296 < 4294967296 := by omega
        have p2 : 0 ≤ n % 4294967296 := by omega
        have e0 : (lo + n % 4294967296) % 4294967296 < 4294967296 := by omega
        have e1 : 0 ≤ (lo + n % 4294967296) % 4294967296 := by omega
        have e3 : (hi + n / 4294967296 + (lo + n % 4294967296) / 4294967296) * 4294967296 + (lo + n % 4294967296) % 4294967296 = S + n := by omega
        have q1 : -9223372036854775808 ≤ lo + n % 4294967296 := by omega
        have q2 : lo + n % 4294967296 ≤ 9223372036854775807 := by omega
        have q3 : -9223372036854775808 ≤ hi + n / 4294967296 := by omega
        have q4 : hi + n / 4294967296 ≤ 9223372036854775807 := by omega
        have q5 : -9223372036854775808 ≤ hi + n / 4294967296 + (lo + n % 4294967296) / 4294967296 := by omega
        have q6 : hi + n / 4294967296 + (lo + n % 4294967296) / 4294967296 ≤ 9223372036854775807 := by omega
        have q7 : -9223372036854775808 ≤ (i : Int) + 1 := by omega
        have q8 : (i : Int) + 1 ≤ 9223372036854775807 := by omega
        rw [and_32 hr.1 hr.2, wrap_id q1 q2, and_32 q1 q2, wrap_id q3 q4, wrap_id q5 q6, wrap_id q7 q8]
        refine ih m (i + 1) _ _ (by omega) (by omega) ?_ (by rw [hs]; exact e3) e1 e0
        rw [ht, List.any_append, ho]
        simpa using hov'
theorem ref_sum_eq (k : Nat) (l : List S25) (hl : I64 l) (hn : l.length ≤ 1000) (hk : 1001 < k) : spillwayref2_Sum.f k l = some (sumS l) :=
  ref_l0 l hl hn l.length k 0 0 0 (by omega) (by omega) rfl rfl (by omega) (by omega)
end Go.Proofs.YtjaolddgnijgiaaDoor.Pure
