import Derived.Test.YtjaolddgnijgiaaGreatDoorPureNS
import Derived.Test.YtjaolddgnijgiaaGreatDoorG
namespace Go.Proofs.YtjaolddgnijgiaaGreatDoor.PureN
open Go.RowKit Go.Proofs.YtjaolddgnijgiaaGreatDoor.Print Go.Proofs.YtjaolddgnijgiaaGreatDoor.Pure Go.Proofs.YtjaolddgnijgiaaGreatDoorW.PrintWords Go.Proofs.YtjaolddgnijgiaaGreatDoorW.PrintLast Go.Proofs.YtjaolddgnijgiaaGreatDoorW.PrintMore
set_option linter.unusedVariables false
set_option linter.unusedSimpArgs false

/-! The document's numbers come to the same. -/
theorem ris_eq (a : Bool) (n : Int) : spillwayref2_Is.f a n = fix_Is.f a n := by
  unfold spillwayref2_Is.f fix_Is.f
  cases a
  · by_cases c : n = -9223372036854775808
    · simp [c]
    · simp [c]
  · simp
theorem ris_false (n : Int) : spillwayref2_Is.f false n = some (!over false n) := by
  unfold spillwayref2_Is.f over isOver
  by_cases c : n = -9223372036854775808
  · simp [c]
  · simp [c]
theorem none_eq (a : Bool) (n : Int) (b : Bool) (m : Int) : spillwayref2_none.f a n b m = some (over a n || over b m) := by
  unfold spillwayref2_none.f
  cases a
  · cases b
    · rw [if_neg (by simp), if_neg (by simp), ris_false, Option.bind_some]
      cases h : over false n
      · rw [ris_false]
        simp
      · simp
    · rw [if_neg (by simp), if_pos rfl]
      have : over true m = true := rfl
      rw [this, Bool.or_true]
  · rfl
theorem rsize_eq (n : Int) (h : R n) : spillwayref2_size.f n = some (ab n) := by
  obtain ⟨h1, h2⟩ := h
  unfold spillwayref2_size.f ab
  simp only [u64_mod]
  by_cases c : n < 0
  · rw [if_pos c, if_pos c]
    congr 1
    unfold wrap64
    omega
  · rw [if_neg c, if_neg c]
    congr 1
    omega
theorem rsigned_eq (q : Int) (minus : Bool) (h : 0 ≤ q) : spillwayref2_signed.f q minus = some (sgn minus q) := by
  unfold spillwayref2_signed.f sgn
  by_cases c : q > 9223372036854775807
  · rw [if_pos c, if_pos (by omega)]
    rfl
  · have w1 : wrap64 q = q := wrap_id (by omega) (by omega)
    have w2 : wrap64 (-q) = -q := wrap_id (by omega) (by omega)
    have g2 : ¬ 9223372036854775807 < q := by omega
    rw [if_neg c, if_neg g2, w1, w2]
    cases minus <;> rfl
theorem rover_eq (k : Nat) (a b c : Int) (minus : Bool) (hk : 20 < k) (a0 : 0 ≤ a) (a1 : a < 18446744073709551616) (b0 : 0 ≤ b) (b1 : b < 18446744073709551616) (c0 : 0 < c) (c1 : c < 18446744073709551616) :
    spillwayref2_over.f k a b c minus = some (sgn minus (a * b / c)) := by
  have m0 : 0 ≤ a * b := Int.mul_nonneg a0 b0
  unfold spillwayref2_over.f bits_Mul64.f
  rw [if_pos ⟨a0, a1, b0, b1⟩, Option.bind_some]
  generalize a * b = p at *
  simp only
  by_cases h : p / 18446744073709551616 ≥ c
  · rw [if_pos h]
    have : 18446744073709551616 ≤ p / c := by
      rw [Int.le_ediv_iff_mul_le c0]
      omega
    unfold sgn
    rw [if_pos (by omega)]
    rfl
  · rw [if_neg h]
    obtain ⟨rem, e⟩ := div64 k (p / 18446744073709551616) (p % 18446744073709551616) c hk (by omega) (by omega) c1 (by omega) (by omega)
    rw [e, Option.bind_some, show p / 18446744073709551616 * 18446744073709551616 + p % 18446744073709551616 = p by omega, rsigned_eq _ _ (Int.ediv_nonneg m0 (by omega)), Option.bind_some]
theorem rmul_eq (k : Nat) (a : Bool) (n : Int) (b : Bool) (m : Int) (hk : 21 < k) (hn : R n) (hm : R m) : spillwayref2_Mul.f k a n b m = some (mulS a n b m) := by
  unfold spillwayref2_Mul.f mulS
  rw [none_eq, Option.bind_some]
  cases h : over a n || over b m
  · simp only [Bool.false_eq_true, if_false]
    rw [rsize_eq n hn, Option.bind_some, rsize_eq m hm, Option.bind_some, rover_eq k _ _ _ _ (by omega) (ab_R hn).1 (ab_R hn).2 (ab_R hm).1 (ab_R hm).2 (by omega) (by omega), Option.bind_some]
  · rfl
theorem rdiv_eq (k : Nat) (a : Bool) (n : Int) (b : Bool) (m : Int) (hk : 21 < k) (hn : R n) (hm : R m) : spillwayref2_Div.f k a n b m = some (divS a n b m) := by
  obtain ⟨k, rfl⟩ : ∃ j, k = j + 1 := ⟨k - 1, by omega⟩
  unfold spillwayref2_Div.f divS
  rw [none_eq, Option.bind_some]
  simp only [spillwayref2_Div.j0]
  cases h : over a n || over b m
  · simp only [Bool.false_eq_true, if_false, Bool.false_or]
    cases h3 : (m == 0)
    · simp only [Bool.false_eq_true, if_false]
      have hm0 : m ≠ 0 := by simpa using h3
      have hpos : 0 < ab m := by
        unfold ab
        split <;> omega
      rw [rsize_eq n hn, Option.bind_some, rsize_eq m hm, Option.bind_some, rover_eq k _ _ _ _ (by omega) (ab_R hn).1 (ab_R hn).2 (by omega) (by omega) hpos (ab_R hm).2, Option.bind_some]
    · rfl
  · rfl
theorem rneg_eq (a : Bool) (n : Int) (hn : R n) : spillwayref2_Neg.f a n = some (negS a n) := by
  unfold spillwayref2_Neg.f negS
  cases a
  · rw [ris_false, Option.bind_some]
    cases h : over false n
    · obtain ⟨_, h2⟩ := not_over h
      obtain ⟨n1, n2⟩ := hn
      rw [wrap_id (by omega) (by omega)]
      rfl
    · rfl
  · have ho : over true n = true := rfl
    rw [ho]
    unfold spillwayref2_Is.f
    rw [if_pos rfl, Option.bind_some]
    cases n == 0 <;> rfl
theorem rof_eq (k : Nat) (n : Int) (hk : 21 < k) (hn : R n) : spillwayref2_Of.f k n = fix_Of.f k n := by
  unfold spillwayref2_Of.f
  rw [rmul_eq k false n false _ hk hn (by constructor <;> decide), Option.bind_some, of_eq k n (by omega) hn]
  unfold mulS
  rw [show over false 1000000000000 = false from rfl, show ab 1000000000000 = 1000000000000 from rfl, Int.ediv_one]
  cases h : over false n
  · simp only [Bool.or_self, Bool.false_eq_true, if_false]
    rw [show ab n * 1000000000000 / 1000000 = ab n * 1000000 by omega, show (decide (n < 0) != decide ((1000000000000 : Int) < 0)) = decide (n < 0) by simp]
  · unfold over isOver at h
    simp at h
    subst h
    rfl
theorem radd_eq (a : Bool) (n : Int) (b : Bool) (m : Int) (hn : R n) (hm : R m) : spillwayref2_Add.f a n b m = some (addS a n b m) := by
  unfold spillwayref2_Add.f addS
  rw [none_eq, Option.bind_some]
  cases h : over a n || over b m
  · simp only [Bool.false_eq_true, if_false]
    simp only [Bool.or_eq_false_iff] at h
    obtain ⟨_, n0⟩ := not_over h.1
    obtain ⟨_, m0⟩ := not_over h.2
    obtain ⟨n1, n2⟩ := hn
    obtain ⟨m1, m2⟩ := hm
    have ho : spillwayref2_Ovf.f = some (true, 0) := rfl
    simp only [ho, Option.bind_some]
    obtain ⟨s, hs⟩ : ∃ s, wrap64 (n + m) = s := ⟨_, rfl⟩
    rw [hs]
    have e : s = (n + m + 9223372036854775808) % 18446744073709551616 - 9223372036854775808 := by rw [← hs]; unfold wrap64; omega
    clear hs
    unfold told
    by_cases c1 : n > 0 <;> by_cases c2 : m > 0 <;> by_cases c3 : s ≤ 0 <;> by_cases c4 : n < 0 <;> by_cases c5 : m < 0 <;> by_cases c6 : s ≥ 0 <;> by_cases c7 : s = -9223372036854775808 <;> by_cases c8 : -9223372036854775808 < n + m ∧ n + m < 9223372036854775808 <;>
      first
        | (exfalso; omega)
        | (simp only [c1, c2, c3, c4, c5, c6, c7, c8, if_true, if_false]; done)
        | (simp only [c1, c2, c3, c4, c5, c6, c7, c8, if_true, if_false]; congr 2 <;> omega)
  · rfl
theorem rsub_eq (a : Bool) (n : Int) (b : Bool) (m : Int) (hn : R n) (hm : R m) : spillwayref2_Sub.f a n b m = some (addS a n (negS b m).1 (negS b m).2) := by
  unfold spillwayref2_Sub.f
  rw [rneg_eq b m hm, Option.bind_some, radd_eq a n _ _ hn (neg_R b m hm), Option.bind_some]
/-- Which one is greater. -/
def cmpS (a : Bool) (n : Int) (b : Bool) (m : Int) : Int := if over a n then (if over b m then 0 else 1) else if over b m then -1 else if n < m then -1 else if n > m then 1 else 0
theorem fixcmp_eq (k : Nat) (a : Bool) (n : Int) (b : Bool) (m : Int) : fix_Cmp.f (k + 1) a n b m = some (cmpS a n b m) := by
  unfold fix_Cmp.f cmpS over
  simp only [fix_Cmp.j0, over_eq, Option.bind_some]
  unfold cmp_Compare_int64.f cmp_isNaN_int64.f
  cases h1 : isOver ⟨a, n⟩ <;> cases h2 : isOver ⟨b, m⟩
  · simp only [Bool.false_eq_true, if_false, Option.bind_some, bne_self_eq_false]
    split
    · rfl
    · split <;> rfl
  · simp
  · simp
  · simp
theorem rcmp_eq (k : Nat) (a : Bool) (n : Int) (b : Bool) (m : Int) : spillwayref2_Cmp.f (k + 2) a n b m = some (cmpS a n b m) := by
  have ht : ∀ n, over true n = true := fun _ => rfl
  unfold spillwayref2_Cmp.f cmpS
  simp only [spillwayref2_Cmp.j0, spillwayref2_Cmp.j1]
  cases a <;> cases b
  · simp only [Bool.false_eq_true, if_false, ris_false, Option.bind_some, Bool.not_not]
    cases h1 : over false n <;> cases h2 : over false m
    · simp only [Bool.false_eq_true, if_false]
      split
      · rfl
      · split <;> rfl
    · simp
    · simp
    · simp
  · simp only [Bool.false_eq_true, if_false, if_true, ris_false, Option.bind_some, Bool.not_not, ht]
    cases h1 : over false n <;> simp
  · simp only [Bool.false_eq_true, if_false, if_true, ris_false, Option.bind_some, Bool.not_not, ht]
    cases h1 : over false m <;> simp
  · simp [ht]
theorem str_one (d : Nat) (h : d < 10) : strOfNums [(IntKind.u64.wrap (48 + (d : Int))) % 256] = ⟨[UInt8.ofNat (48 + d)].toArray⟩ := by
  unfold strOfNums
  have : (IntKind.u64.wrap (48 + (d : Int)) % 256).toNat = 48 + d := by
    rw [IntKind.wrap_u64]
    omega
  rw [List.map_cons, List.map_nil, this]
theorem digits_dec : ∀ (k n : Nat) (acc : List UInt8), 1 ≤ k → n < 10 ^ k → n < 18446744073709551616 → acc.length + k ≤ 1000 → spillwayref2_Digits.l0 k (n : Int) ⟨acc.toArray⟩ = some ⟨(Lib.decDigits n ++ acc).toArray⟩
  | 0, _, _, h, _, _, _ => absurd h (by omega)
  | k + 1, n, acc, _, hn, h64, hl => by
    simp only [spillwayref2_Digits.l0]
    have e1 : Int.tmod (n : Int) 10 = ((n % 10 : Nat) : Int) := by rw [Int.tmod_eq_emod_of_nonneg (by omega)]; omega
    have e2 : IntKind.u64.wrap (Int.tdiv (n : Int) 10) = ((n / 10 : Nat) : Int) := by rw [Int.tdiv_eq_ediv_of_nonneg (by omega), IntKind.wrap_u64]; omega
    rw [e1, e2, Option.bind_some, str_one _ (by omega), app_list, size_list, size_list, if_pos (by rw [List.length_singleton]; omega)]
    rw [Lib.decDigits]
    by_cases c : n < 10
    · rw [if_pos (by omega), dif_pos c, show n % 10 = n by omega]
    · rw [if_neg (by omega), dif_neg c]
      have hk : 1 ≤ k := by
        rcases Nat.eq_zero_or_pos k with rfl | h'
        · simp at hn
          omega
        · exact h'
      rw [Nat.pow_succ] at hn
      rw [digits_dec k (n / 10) _ hk (by omega) (by omega) (by simp; omega), List.append_assoc]
theorem rdigits_eq (k n : Nat) (hk : 25 < k) (hk2 : k ≤ 900) (h : n < 18446744073709551616) : spillwayref2_Digits.f k (n : Int) = some ⟨(Lib.decDigits n).toArray⟩ := by
  unfold spillwayref2_Digits.f
  have hp : 10 ^ 20 ≤ 10 ^ k := Nat.pow_le_pow_right (by omega) (by omega)
  have := digits_dec k n [] (by omega) (by omega) h (by simp; omega)
  rw [List.append_nil] at this
  exact this
theorem trim_snoc (Q : List UInt8) (c : UInt8) : Lib.trimRightB (Q ++ [c]) 48 = if c = 48 then Lib.trimRightB Q 48 else Q ++ [c] := by
  unfold Lib.trimRightB
  rw [List.reverse_append, List.reverse_singleton, List.singleton_append, List.dropWhile_cons]
  by_cases h : c = 48
  · rw [if_pos h, if_pos (by simpa using h)]
  · rw [if_neg h, if_neg (by simpa using h)]
    simp
theorem rprint_l0 (x4 : ByteArray) (a : Bool) (n : Int) : ∀ (d : Nat) (P : List UInt8) (k : Nat), P.length = d → d ≤ 100 → d < k → ∃ m, k ≤ m + d + 1 ∧ spillwayref2_Print.l0 k x4 ⟨P.toArray⟩ a n = spillwayref2_Print.j2 m x4 ⟨(Lib.trimRightB P 48).toArray⟩ a n := by
  intro d
  induction d with
  | zero =>
    intro P k hP hd hk
    obtain ⟨m, rfl⟩ : ∃ m, k = m + 1 := ⟨k - 1, by omega⟩
    obtain rfl := List.eq_nil_of_length_eq_zero hP
    refine ⟨m, by omega, ?_⟩
    simp only [spillwayref2_Print.l0]
    rw [size_list, if_neg (by simp)]
    rfl
  | succ d ih =>
    intro P k hP hd hk
    obtain ⟨m, rfl⟩ : ∃ m, k = m + 1 := ⟨k - 1, by omega⟩
    have hne : P ≠ [] := by rintro rfl; simp at hP
    obtain ⟨Q, c, rfl⟩ : ∃ Q c, P = Q ++ [c] := ⟨P.dropLast, P.getLast hne, (List.dropLast_concat_getLast hne).symm⟩
    have hQ : Q.length = d := by simpa using hP
    have e5 : wrap64 (((d + 1 : Nat) : Int) - 1) = (d : Int) := by rw [wrap_id (by omega) (by omega)]; omega
    simp only [spillwayref2_Print.l0]
    rw [size_list, hP, if_pos (by omega), e5, if_pos (by omega), if_pos (by omega), bt_list _ d (by omega), trim_snoc]
    have hc : (Q ++ [c])[d]'(by omega) = c := by
      rw [List.getElem_append_right (by omega)]
      simp
    rw [hc]
    by_cases g : c = 48
    · subst g
      rw [if_pos (by rfl), if_pos rfl, if_pos (by omega)]
      have ex : (⟨(Q ++ [48]).toArray⟩ : ByteArray).extract 0 ((d : Int).toNat) = ⟨Q.toArray⟩ := by
        rw [ByteArray.extract_mk]
        congr 1
        apply Array.toList_inj.1
        simp only [List.extract_toArray, List.extract_eq_take_drop, Int.toNat_natCast, List.drop_zero, Nat.sub_zero]
        rw [← hQ, List.take_left]
      rw [ex]
      obtain ⟨m', h1, h2⟩ := ih Q m hQ (by omega) (by omega)
      exact ⟨m', by omega, h2⟩
    · have : ¬ (c.toNat : Int) = 48 := by
        intro h
        apply g
        apply UInt8.toNat_inj.1
        have : (48 : UInt8).toNat = 48 := rfl
        omega
      rw [if_neg this, if_neg g]
      exact ⟨m, by omega, rfl⟩
theorem frac_none (N : Nat) (h : N % 1000000 = 0) : Lib.trimRightB ((Lib.decDigits (N % 1000000 + 1000000)).drop 1) 48 = [] := by
  obtain ⟨P, e, hl, ha, hv⟩ := frac (N % 1000000) (by omega)
  rw [e, List.drop_one, List.tail_cons]
  have ht := trim_app P 48
  have hlast := trim_last P 48
  obtain ⟨p, hp⟩ : ∃ p, Lib.trimRightB P 48 = p := ⟨_, rfl⟩
  rw [hp] at ht hlast ⊢
  by_cases hne : p = []
  · exact hne
  · exfalso
    obtain ⟨q, c, rfl⟩ : ∃ q c, p = q ++ [c] := ⟨p.dropLast, p.getLast hne, (List.dropLast_concat_getLast hne).symm⟩
    have hc : c ≠ 48 := hlast c (by simp)
    have hcd : isD c = true := by
      have := List.all_eq_true.1 ha c (by rw [ht]; simp)
      exact this
    have h1 : 48 ≤ c.toNat ∧ c.toNat ≤ 57 := by
      unfold isD at hcd
      simpa using hcd
    have h2 : c.toNat ≠ 48 := fun h => hc (UInt8.toNat_inj.1 h)
    have hv2 : valN P = valN (q ++ [c]) * 10 ^ (P.length - (q ++ [c]).length) := by
      conv => lhs; rw [ht]
      rw [valN_append, valN_zeros, List.length_replicate, Nat.add_zero]
    rw [hv, h, valN_append, val_one] at hv2
    have hp10 : 0 < 10 ^ (P.length - (q ++ [c]).length) := Nat.pow_pos (by omega)
    have h3 : 0 < valN q * 10 ^ [c].length + (c.toNat - 48) := by omega
    have := Nat.mul_pos h3 hp10
    omega
theorem rprint_eq (a : Bool) (n : Int) (hn : R n) : spillwayref2_Print.f 300 a n = some ⟨(printS a n).toArray⟩ := by
  have hj : ∀ b, spillwayref2_Print.j0 300 true b n = some ⟨[111, 118, 102].toArray⟩ := fun b => rfl
  unfold spillwayref2_Print.f printS
  cases a
  · rw [if_neg (by simp), ris_false, Option.bind_some, Bool.not_not]
    cases h : over false n
    · have hr := ab_R hn
      obtain ⟨N, hN⟩ : ∃ N : Nat, ab n = N := ⟨(ab n).toNat, by omega⟩
      obtain ⟨J, hJ⟩ : ∃ J : Nat, J = 299 := ⟨_, rfl⟩
      rw [show (300 : Nat) = J + 1 by omega]
      simp only [spillwayref2_Print.j0, Bool.false_eq_true, if_false]
      rw [rsize_eq n hn, Option.bind_some, hN, Int.toNat_natCast]
      rw [hN] at hr
      have e1 : IntKind.u64.wrap (Int.tdiv (N : Int) 1000000) = ((N / 1000000 : Nat) : Int) := by
        rw [Int.tdiv_eq_ediv_of_nonneg (by omega), IntKind.wrap_u64]
        omega
      have e0 : Int.tmod (N : Int) 1000000 = ((N % 1000000 : Nat) : Int) := by
        rw [Int.tmod_eq_emod_of_nonneg (by omega)]
        omega
      have e2 : IntKind.u64.wrap (((N % 1000000 : Nat) : Int) + 1000000) = ((N % 1000000 + 1000000 : Nat) : Int) := by
        rw [IntKind.wrap_u64]
        omega
      rw [e1, e0, e2, rdigits_eq J _ (by omega) (by omega) (by omega), Option.bind_some, rdigits_eq J _ (by omega) (by omega) (by omega), Option.bind_some]
      have l1 := dec_len (N / 1000000) 20 (by omega) (by omega)
      have l2 := dec_pos (N % 1000000 + 1000000)
      have l3 := dec_len (N % 1000000 + 1000000) 20 (by omega) (by omega)
      rw [size_list, if_pos (by omega), extract_list]
      obtain ⟨m, hm, e⟩ := rprint_l0 ⟨(Lib.decDigits (N / 1000000)).toArray⟩ false n _ ((Lib.decDigits (N % 1000000 + 1000000)).drop 1) J rfl (by rw [List.length_drop]; omega) (by rw [List.length_drop]; omega)
      rw [e]
      rw [List.length_drop] at hm
      obtain ⟨m, rfl⟩ : ∃ x, m = x + 1 := ⟨m - 1, by omega⟩
      simp only [spillwayref2_Print.j2]
      rw [toList_list]
      unfold bodyS
      by_cases c : 0 < N % 1000000
      · obtain ⟨p, ep, hp, hv, _, hpl, hpne⟩ := frac_trim (N % 1000000) (by omega) c
        rw [ep, if_neg hpne, if_pos c, size_list, if_pos (by omega), show (⟨(Lib.decDigits (N / 1000000)).toArray⟩ ++ (⟨#[46]⟩ : ByteArray)) = ⟨(Lib.decDigits (N / 1000000) ++ [46]).toArray⟩ from app_list _ [46], size_list, size_list, List.length_append, List.length_singleton, if_pos (by omega), app_list, List.append_assoc, List.singleton_append]
        by_cases s : n < 0
        · rw [if_pos s, if_pos s, size_list, List.length_append, List.length_cons, if_pos (by omega)]
          exact congrArg some (app_list [45] _)
        · rw [if_neg s, if_neg s]
      · rw [frac_none N (by omega), if_pos rfl, if_neg c, List.append_nil]
        by_cases s : n < 0
        · rw [if_pos s, if_pos s, size_list, if_pos (by omega)]
          exact congrArg some (app_list [45] _)
        · rw [if_neg s, if_neg s]
    · exact hj false
  · rw [if_pos rfl]
    exact hj true
theorem up_k {α : Type} {f : Nat → Option α} (h : ∀ k, LeO (f k) (f (k + 1))) {k : Nat} {r : α} (e : f k = some r) : ∀ j, f (k + j) = some r
  | 0 => e
  | j + 1 => h (k + j) r (up_k h e j)
theorem FixTells (a : Bool) (n : Int) (b : Bool) (m z : Int) (hn : R n) (hm : R m) (hz : R z) : G.spillwaylaw2_FixTells.f 1200 a n b m z = some true := by
  have hmono : spillwayref2_Print.f 1200 a n = some ⟨(printS a n).toArray⟩ := up_k (f := fun k => spillwayref2_Print.f k a n) (fun k => spillwayref2_Print.mono a n k) (rprint_eq a n hn) 900
  unfold G.spillwaylaw2_FixTells.f Print.spillwaylaw2_known.f
  rw [Option.bind_some, if_pos rfl, ris_eq, show fix_Is.f a n = some (if a = true then n == 0 else n != -9223372036854775808) from rfl, Option.bind_some, Option.bind_some, if_pos (by simp)]
  rw [rof_eq 1200 z (by omega) hz, of_eq 1200 z (by omega) hz, Option.bind_some, Option.bind_some, if_pos (by simp)]
  rw [add_eq2 1200 a n b m (by omega) hn hm, Option.bind_some, radd_eq a n b m hn hm, Option.bind_some, if_pos (by simp)]
  rw [sub_eq 1200 a n b m (by omega) hn hm, Option.bind_some, rsub_eq a n b m hn hm, Option.bind_some, if_pos (by simp)]
  rw [mul_eq 1200 a n b m (by omega) hn hm, Option.bind_some, rmul_eq 1200 a n b m (by omega) hn hm, Option.bind_some, if_pos (by simp)]
  rw [div_eq 1200 a n b m (by omega) hn hm, Option.bind_some, rdiv_eq 1200 a n b m (by omega) hn hm, Option.bind_some, if_pos (by simp)]
  rw [neg_eq a n hn, Option.bind_some, rneg_eq a n hn, Option.bind_some, if_pos (by simp)]
  rw [show (1200 : Nat) = 1198 + 2 from rfl, fixcmp_eq (1198 + 1) a n b m, Option.bind_some, rcmp_eq 1198 a n b m, Option.bind_some, if_pos rfl]
  rw [fixprint_eq a n hn, Option.bind_some, hmono, Option.bind_some]
  simp
end Go.Proofs.YtjaolddgnijgiaaGreatDoor.PureN
