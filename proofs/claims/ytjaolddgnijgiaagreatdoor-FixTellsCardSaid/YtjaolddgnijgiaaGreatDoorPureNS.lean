import Derived.Test.YtjaolddgnijgiaaGreatDoorPureDiv
import Derived.Test.YtjaolddgnijgiaaGreatDoorPureA
import Derived.Test.YtjaolddgnijgiaaGreatDoorPrint29
import Derived.Test.YtjaolddgnijgiaaGreatDoorPrint35
import Derived.Test.YtjaolddgnijgiaaGreatDoorPrint9
import Derived.Test.YtjaolddgnijgiaaGreatDoorPrint31
import Derived.Test.YtjaolddgnijgiaaGreatDoorPrint7
import Derived.Test.YtjaolddgnijgiaaGreatDoorPrint32
import Derived.Test.YtjaolddgnijgiaaGreatDoorIs
import Derived.Test.YtjaolddgnijgiaaGreatDoorPrint15
import Derived.Test.YtjaolddgnijgiaaGreatDoorPrint13
import Derived.Lib.IndexMore
import Derived.Lib.ItoaNum
set_option linter.unusedVariables false
set_option linter.unusedSimpArgs false
section
namespace Go.Proofs.YtjaolddgnijgiaaGreatDoor.PureN
open Go.RowKit Go.Proofs.YtjaolddgnijgiaaGreatDoor.Print Go.Proofs.YtjaolddgnijgiaaGreatDoor.Pure Go.Proofs.YtjaolddgnijgiaaGreatDoorW.PrintWords Go.Proofs.YtjaolddgnijgiaaGreatDoorW.PrintLast Go.Proofs.YtjaolddgnijgiaaGreatDoorW.PrintMore
set_option linter.unusedVariables false
set_option linter.unusedSimpArgs false

/-! What the number functions come to, in whole numbers. -/
def R (n : Int) : Prop := -9223372036854775808 ≤ n ∧ n ≤ 9223372036854775807
def ab (n : Int) : Int := if n < 0 then -n else n
def over (a : Bool) (n : Int) : Bool := isOver ⟨a, n⟩
/-- A quotient cut off, with a sign; overflow, if it is too great. -/
def sgn (neg : Bool) (q : Int) : Bool × Int := if 9223372036854775807 < q then (true, 0) else (false, if neg then -q else q)
def mulS (a : Bool) (n : Int) (b : Bool) (m : Int) : Bool × Int := if over a n || over b m then (true, 0) else sgn (decide (n < 0) != decide (m < 0)) (ab n * ab m / 1000000)
def divS (a : Bool) (n : Int) (b : Bool) (m : Int) : Bool × Int := if over a n || over b m || m == 0 then (true, 0) else sgn (decide (n < 0) != decide (m < 0)) (ab n * 1000000 / ab m)
def negS (a : Bool) (n : Int) : Bool × Int := if over a n then (true, 0) else (false, -n)
def addS (a : Bool) (n : Int) (b : Bool) (m : Int) : Bool × Int := if over a n || over b m then (true, 0) else told (n + m)

theorem scaled_eq (k : Nat) (neg : Bool) (a b c : Int) (hk : 20 < k) (a0 : 0 ≤ a) (a1 : a < 18446744073709551616) (b0 : 0 ≤ b) (b1 : b < 18446744073709551616) (c0 : 0 < c) (c1 : c < 18446744073709551616) :
    fix_scaled.f k neg a b c = some (sgn neg (a * b / c)) := by
  have m0 : 0 ≤ a * b := Int.mul_nonneg a0 b0
  unfold fix_scaled.f bits_Mul64.f
  rw [if_pos ⟨a0, a1, b0, b1⟩, Option.bind_some]
  generalize a * b = p at *
  simp only
  by_cases h : p / 18446744073709551616 ≥ c
  · rw [if_pos h]
    have : 18446744073709551616 ≤ p / c := by
      rw [Int.le_ediv_iff_mul_le c0]
      omega
    unfold sgn
    rw [if_pos (by omega)]
    rfl
  · rw [if_neg h]
    obtain ⟨rem, e⟩ := div64 k (p / 18446744073709551616) (p % 18446744073709551616) c hk (by omega) (by omega) c1 (by omega) (by omega)
    rw [e, Option.bind_some, show p / 18446744073709551616 * 18446744073709551616 + p % 18446744073709551616 = p by omega]
    have q0 : 0 ≤ p / c := Int.ediv_nonneg m0 (by omega)
    generalize p / c = q at *
    unfold sgn
    simp only
    by_cases g : q > 9223372036854775807
    · rw [if_pos g, if_pos (by omega)]
      rfl
    · have w1 : wrap64 q = q := wrap_id (by omega) (by omega)
      have w2 : wrap64 (-q) = -q := wrap_id (by omega) (by omega)
      have g2 : ¬ 9223372036854775807 < q := by omega
      rw [if_neg g, if_neg g2, w1, w2]
      cases neg <;> rfl
theorem size_eq (n : Int) (h : R n) : fix_size.f n = some (ab n) := by
  obtain ⟨h1, h2⟩ := h
  unfold fix_size.f ab
  simp only [u64_mod]
  by_cases c : n < 0
  · rw [if_pos c, if_pos c]
    congr 1
    omega
  · rw [if_neg c, if_neg c]
    congr 1
    omega
theorem ab_R {n : Int} (h : R n) : 0 ≤ ab n ∧ ab n < 18446744073709551616 := by
  obtain ⟨h1, h2⟩ := h
  unfold ab
  split <;> omega
theorem mul_eq (k : Nat) (a : Bool) (n : Int) (b : Bool) (m : Int) (hk : 21 < k) (hn : R n) (hm : R m) : fix_Mul.f k a n b m = some (mulS a n b m) := by
  obtain ⟨k, rfl⟩ : ∃ j, k = j + 1 := ⟨k - 1, by omega⟩
  unfold fix_Mul.f mulS over
  simp only [over_eq, Option.bind_some, fix_Mul.j0]
  cases h1 : isOver ⟨a, n⟩ <;> cases h2 : isOver ⟨b, m⟩
  · simp only [Bool.false_eq_true, if_false, Bool.or_self]
    rw [size_eq n hn, Option.bind_some, size_eq m hm, Option.bind_some, scaled_eq k _ _ _ _ (by omega) (ab_R hn).1 (ab_R hn).2 (ab_R hm).1 (ab_R hm).2 (by omega) (by omega), Option.bind_some]
  · rfl
  · rfl
  · rfl
theorem div_eq (k : Nat) (a : Bool) (n : Int) (b : Bool) (m : Int) (hk : 21 < k) (hn : R n) (hm : R m) : fix_Div.f k a n b m = some (divS a n b m) := by
  obtain ⟨k, rfl⟩ : ∃ j, k = j + 1 := ⟨k - 1, by omega⟩
  unfold fix_Div.f divS over
  simp only [over_eq, Option.bind_some, fix_Div.j0]
  cases h1 : isOver ⟨a, n⟩ <;> cases h2 : isOver ⟨b, m⟩
  · simp only [Bool.false_eq_true, if_false, Bool.or_self, Bool.false_or]
    cases h3 : (m == 0)
    · simp only [Bool.false_eq_true, if_false]
      have hm0 : m ≠ 0 := by simpa using h3
      have hpos : 0 < ab m := by
        unfold ab
        split <;> omega
      rw [size_eq n hn, Option.bind_some, size_eq m hm, Option.bind_some, scaled_eq k _ _ _ _ (by omega) (ab_R hn).1 (ab_R hn).2 (by omega) (by omega) hpos (ab_R hm).2, Option.bind_some]
    · rfl
  · rfl
  · rfl
  · rfl
theorem not_over {a : Bool} {n : Int} (h : over a n = false) : a = false ∧ n ≠ -9223372036854775808 := by
  unfold over isOver at h
  simpa using h
theorem neg_eq (a : Bool) (n : Int) (hn : R n) : fix_Neg.f a n = some (negS a n) := by
  unfold fix_Neg.f negS
  rw [over_eq, Option.bind_some]
  cases h : over a n
  · obtain ⟨_, h2⟩ := not_over h
    unfold over at h
    obtain ⟨n1, n2⟩ := hn
    rw [h, wrap_id (by omega) (by omega)]
    rfl
  · unfold over at h
    rw [h]
    rfl
theorem of_eq (k : Nat) (n : Int) (hk : 20 < k) (hn : R n) : fix_Of.f k n = some (sgn (decide (n < 0)) (ab n * 1000000 / 1)) := by
  unfold fix_Of.f
  rw [size_eq n hn, Option.bind_some, scaled_eq k _ _ _ _ hk (ab_R hn).1 (ab_R hn).2 (by omega) (by omega) (by omega) (by omega), Option.bind_some]
theorem add_sum (a : Bool) (n : Int) (b : Bool) (m : Int) : sumS [⟨a, n⟩, ⟨b, m⟩] = addS a n b m := by
  unfold sumS sums addS over
  simp
theorem add_eq2 (k : Nat) (a : Bool) (n : Int) (b : Bool) (m : Int) (hk : 1001 < k) (hn : R n) (hm : R m) : fix_Add.f k a n b m = some (addS a n b m) := by
  unfold fix_Add.f
  rw [sum_eq k _ (by intro s hs; simp at hs; rcases hs with rfl | rfl <;> assumption) (by simp) hk, Option.bind_some, add_sum]
theorem neg_R (a : Bool) (n : Int) (hn : R n) : R (negS a n).2 := by
  unfold negS
  cases h : over a n
  · obtain ⟨_, h2⟩ := not_over h
    obtain ⟨n1, n2⟩ := hn
    simp only [Bool.false_eq_true, if_false]
    constructor <;> omega
  · simp only [if_true]
    constructor <;> decide
theorem sub_eq (k : Nat) (a : Bool) (n : Int) (b : Bool) (m : Int) (hk : 1001 < k) (hn : R n) (hm : R m) : fix_Sub.f k a n b m = some (addS a n (negS b m).1 (negS b m).2) := by
  unfold fix_Sub.f
  have h2 := neg_R b m hm
  rw [neg_eq b m hm, Option.bind_some, sum_eq k _ (by intro s hs; simp at hs; rcases hs with rfl | rfl <;> assumption) (by simp) hk, Option.bind_some, add_sum]
end Go.Proofs.YtjaolddgnijgiaaGreatDoor.PureN
end

section
namespace Go.Proofs.YtjaolddgnijgiaaGreatDoor.PureN
open Go.RowKit Go.Proofs.YtjaolddgnijgiaaGreatDoor.Print Go.Proofs.YtjaolddgnijgiaaGreatDoor.Pure Go.Proofs.YtjaolddgnijgiaaGreatDoorW.PrintWords Go.Proofs.YtjaolddgnijgiaaGreatDoorW.PrintLast Go.Proofs.YtjaolddgnijgiaaGreatDoorW.PrintMore
set_option linter.unusedVariables false
set_option linter.unusedSimpArgs false

/-! Texts of numbers. -/
def isD (c : UInt8) : Bool := decide (48 ≤ c.toNat) && decide (c.toNat ≤ 57)
def valF (a : Nat) (l : List UInt8) : Nat := l.foldl (fun a c => a * 10 + (c.toNat - 48)) a
def valN (l : List UInt8) : Nat := valF 0 l
def partOk (p : List UInt8) : Bool := p.all isD && decide (1 ≤ p.length) && decide (p.length ≤ 6)
theorem valF_append (a : Nat) (l m : List UInt8) : valF a (l ++ m) = valF (valF a l) m := by
  unfold valF
  rw [List.foldl_append]
theorem valF_lin : ∀ (l : List UInt8) (a : Nat), valF a l = a * 10 ^ l.length + valN l
  | [], a => by simp [valN, valF]
  | c :: l, a => by
    have h1 := valF_lin l (a * 10 + (c.toNat - 48))
    have h2 := valF_lin l (0 * 10 + (c.toNat - 48))
    show valF (a * 10 + (c.toNat - 48)) l = a * 10 ^ (l.length + 1) + valF (0 * 10 + (c.toNat - 48)) l
    rw [h1, h2, Nat.pow_succ, Nat.add_mul, Nat.add_mul]
    have : a * 10 * 10 ^ l.length = a * (10 ^ l.length * 10) := by rw [Nat.mul_assoc, Nat.mul_comm 10]
    rw [this]
    omega
theorem valN_append (l m : List UInt8) : valN (l ++ m) = valN l * 10 ^ m.length + valN m := by
  unfold valN
  rw [valF_append, valF_lin m]
  rfl
theorem valN_zeros (n : Nat) : valN (List.replicate n 48) = 0 := by
  induction n with
  | zero => rfl
  | succ n ih =>
    rw [List.replicate_succ', valN_append, ih]
    rfl
theorem valN_lt (l : List UInt8) (h : l.all isD = true) : valN l < 10 ^ l.length := by
  induction l with
  | nil => simp [valN, valF]
  | cons c l ih =>
    simp only [List.all_cons, Bool.and_eq_true] at h
    have h1 := ih h.2
    have hc : c.toNat ≤ 57 := by
      have := h.1
      unfold isD at this
      simp at this
      omega
    have e := valN_append [c] l
    rw [List.singleton_append] at e
    rw [e, List.length_cons, Nat.pow_succ]
    have : valN [c] ≤ 9 := by
      unfold valN valF
      simp
      omega
    have := Nat.mul_le_mul_right (10 ^ l.length) this
    omega
theorem bt_list (l : List UInt8) (i : Nat) (h : i < l.length) : bt ⟨l.toArray⟩ (i : Int) = (l[i].toNat : Int) := by
  have h2 : ((i : Int).toNat) < (⟨l.toArray⟩ : ByteArray).size := by simpa [ByteArray.size] using h
  rw [← bt_at _ _ h2]
  rfl
theorem size_list (l : List UInt8) : (⟨l.toArray⟩ : ByteArray).size = l.length := rfl
theorem toList_list (l : List UInt8) : (⟨l.toArray⟩ : ByteArray).toList = l := by
  have h := Lib.extract_toList ⟨l.toArray⟩ 0 l.length
  simp at h
  have e : (⟨l.toArray⟩ : ByteArray).extract 0 l.length = ⟨l.toArray⟩ := by
    rw [ByteArray.extract_mk]
    simp
  rw [e] at h
  exact h
theorem app_list (l m : List UInt8) : ((⟨l.toArray⟩ : ByteArray) ++ ⟨m.toArray⟩) = ⟨(l ++ m).toArray⟩ := by
  rw [ByteArray.mk_append_mk]
theorem takeWhile_mem {p : UInt8 → Bool} : ∀ (l : List UInt8), ∀ c ∈ l.takeWhile p, p c = true
  | [], c, h => by simp at h
  | d :: l, c, h => by
    rw [List.takeWhile_cons] at h
    by_cases g : p d = true
    · rw [if_pos g] at h
      rcases List.mem_cons.1 h with rfl | h
      · exact g
      · exact takeWhile_mem l c h
    · rw [if_neg g] at h
      simp at h
theorem dropWhile_head {p : UInt8 → Bool} : ∀ (l : List UInt8) (c : UInt8) (r : List UInt8), l.dropWhile p = c :: r → p c = false
  | [], c, r, h => by simp at h
  | d :: l, c, r, h => by
    rw [List.dropWhile_cons] at h
    by_cases g : p d = true
    · rw [if_pos g] at h
      exact dropWhile_head l c r h
    · rw [if_neg g] at h
      injection h with h1 h2
      subst h1
      simpa using g
end Go.Proofs.YtjaolddgnijgiaaGreatDoor.PureN
end

section
namespace Go.Proofs.YtjaolddgnijgiaaGreatDoor.PureN
open Go.RowKit Go.Proofs.YtjaolddgnijgiaaGreatDoor.Print Go.Proofs.YtjaolddgnijgiaaGreatDoor.Pure Go.Proofs.YtjaolddgnijgiaaGreatDoorW.PrintWords Go.Proofs.YtjaolddgnijgiaaGreatDoorW.PrintLast Go.Proofs.YtjaolddgnijgiaaGreatDoorW.PrintMore
set_option linter.unusedVariables false
set_option linter.unusedSimpArgs false

/-! A number's text. -/
theorem dec_ind {p : Nat → List UInt8 → Prop} (h1 : ∀ u, u < 10 → p u [UInt8.ofNat (48 + u)]) (h2 : ∀ u, 10 ≤ u → p (u / 10) (Lib.decDigits (u / 10)) → p u (Lib.decDigits (u / 10) ++ [UInt8.ofNat (48 + u % 10)])) : ∀ u, p u (Lib.decDigits u) := by
  intro u
  induction u using Nat.strongRecOn with
  | _ u ih =>
    rw [Lib.decDigits]
    by_cases h : u < 10
    · rw [dif_pos h]
      exact h1 u h
    · rw [dif_neg h]
      exact h2 u (by omega) (ih (u / 10) (by omega))
theorem dig_nat (d : Nat) (h : d < 10) : (UInt8.ofNat (48 + d)).toNat = 48 + d := by
  rw [UInt8.toNat_ofNat']
  omega
theorem dig_is (d : Nat) (h : d < 10) : isD (UInt8.ofNat (48 + d)) = true := by
  unfold isD
  rw [dig_nat d h]
  simp
  omega
theorem dec_all : ∀ u, (Lib.decDigits u).all isD = true := by
  refine dec_ind (p := fun u l => l.all isD = true) (fun u h => ?_) (fun u h ih => ?_)
  · simp only [List.all_cons, List.all_nil, Bool.and_true]
    exact dig_is u h
  · rw [List.all_append, ih]
    simp only [List.all_cons, List.all_nil, Bool.and_true, Bool.true_and]
    exact dig_is _ (by omega)
theorem val_one (c : UInt8) : valN [c] = c.toNat - 48 := by
  unfold valN valF
  simp
theorem dec_val : ∀ u, valN (Lib.decDigits u) = u := by
  refine dec_ind (p := fun u l => valN l = u) (fun u h => ?_) (fun u h ih => ?_)
  · rw [val_one, dig_nat u h]
    omega
  · rw [valN_append, ih, val_one, dig_nat _ (by omega)]
    simp only [List.length_singleton, Nat.pow_one]
    omega
theorem dec_pos : ∀ u, 1 ≤ (Lib.decDigits u).length := by
  refine dec_ind (p := fun u l => 1 ≤ l.length) (fun u h => by simp) (fun u h ih => by simp)
theorem dec_len : ∀ u k, 1 ≤ k → u < 10 ^ k → (Lib.decDigits u).length ≤ k := by
  refine dec_ind (p := fun u l => ∀ k, 1 ≤ k → u < 10 ^ k → l.length ≤ k) (fun u h k hk _ => by simpa using hk) (fun u h ih k hk hu => ?_)
  obtain ⟨k, rfl⟩ : ∃ m, k = m + 1 := ⟨k - 1, by omega⟩
  rw [List.length_append, List.length_singleton]
  rw [Nat.pow_succ] at hu
  have hk1 : 1 ≤ k := by
    rcases Nat.eq_zero_or_pos k with rfl | h'
    · simp at hu
      omega
    · exact h'
  have := ih k hk1 (by omega)
  omega
theorem dec_head : ∀ u, 1 ≤ u → ∃ c r, Lib.decDigits u = c :: r ∧ c.toNat ≠ 48 ∧ isD c = true := by
  refine dec_ind (p := fun u l => 1 ≤ u → ∃ c r, l = c :: r ∧ c.toNat ≠ 48 ∧ isD c = true) (fun u h hu => ?_) (fun u h ih hu => ?_)
  · exact ⟨_, [], rfl, by rw [dig_nat u h]; omega, dig_is u h⟩
  · obtain ⟨c, r, e, h1, h2⟩ := ih (by omega)
    exact ⟨c, r ++ [UInt8.ofNat (48 + u % 10)], by rw [e]; rfl, h1, h2⟩
theorem frac (f : Nat) (h : f < 1000000) : ∃ P, Lib.decDigits (f + 1000000) = 49 :: P ∧ P.length = 6 ∧ P.all isD = true ∧ valN P = f := by
  have h1 := dec_len (f + 1000000) 7 (by omega) (by omega)
  have ha := dec_all (f + 1000000)
  have hv := dec_val (f + 1000000)
  have hlt := valN_lt _ ha
  rw [hv] at hlt
  obtain ⟨c, P, e, hc, hd⟩ := dec_head (f + 1000000) (by omega)
  rw [e] at h1 ha hv hlt
  have hl : P.length = 6 := by
    simp only [List.length_cons] at h1 hlt
    rcases Nat.lt_or_ge P.length 6 with g | g
    · have : 10 ^ (P.length + 1) ≤ 10 ^ 6 := Nat.pow_le_pow_right (by omega) (by omega)
      omega
    · omega
  simp only [List.all_cons, Bool.and_eq_true] at ha
  have hv2 := valN_append [c] P
  rw [List.singleton_append, hv, val_one, hl] at hv2
  have hPl := valN_lt P ha.2
  rw [hl] at hPl
  have hcd : 48 ≤ c.toNat ∧ c.toNat ≤ 57 := by
    have := ha.1
    unfold isD at this
    simpa using this
  have hc1 : c.toNat = 49 := by omega
  have : c = 49 := UInt8.toNat_inj.1 hc1
  subst this
  exact ⟨P, e, hl, ha.2, by omega⟩
theorem trim_app (l : List UInt8) (c : UInt8) : l = Lib.trimRightB l c ++ List.replicate (l.length - (Lib.trimRightB l c).length) c := by
  unfold Lib.trimRightB
  have hs := List.takeWhile_append_dropWhile (p := (· == c)) (l := l.reverse)
  have hm : ∀ d ∈ l.reverse.takeWhile (· == c), d = c := fun d hd => by
    have := takeWhile_mem (p := (· == c)) l.reverse d hd
    simpa using this
  have ht : l.reverse.takeWhile (· == c) = List.replicate (l.reverse.takeWhile (· == c)).length c := List.eq_replicate_iff.2 ⟨rfl, hm⟩
  have hlen : (l.reverse.takeWhile (· == c)).length = l.length - (l.reverse.dropWhile (· == c)).reverse.length := by
    have := congrArg List.length hs
    rw [List.length_append, List.length_reverse] at this
    rw [List.length_reverse]
    omega
  have := congrArg List.reverse hs
  rw [List.reverse_append, List.reverse_reverse, ht, List.reverse_replicate, hlen] at this
  exact this.symm
theorem trim_last (l : List UInt8) (c : UInt8) : ∀ d, (Lib.trimRightB l c).getLast? = some d → d ≠ c := by
  intro d hd
  unfold Lib.trimRightB at hd
  rw [List.getLast?_reverse] at hd
  cases hr : l.reverse.dropWhile (· == c) with
  | nil => rw [hr] at hd; simp at hd
  | cons x r =>
    have := dropWhile_head (p := (· == c)) l.reverse x r hr
    rw [hr] at hd
    simp only [List.head?_cons, Option.some.injEq] at hd
    subst hd
    simpa using this
/-- The part behind the point. -/
theorem frac_trim (f : Nat) (h : f < 1000000) (h0 : 0 < f) : ∃ p, Lib.trimRightB ((Lib.decDigits (f + 1000000)).drop 1) 48 = p ∧ partOk p = true ∧ valN p * 10 ^ (6 - p.length) = f ∧ (∀ d, p.getLast? = some d → d ≠ 48) ∧ p.length ≤ 6 ∧ p ≠ [] := by
  obtain ⟨P, e, hl, ha, hv⟩ := frac f h
  rw [e, List.drop_one, List.tail_cons]
  have ht := trim_app P 48
  have hlast := trim_last P 48
  obtain ⟨p, hp⟩ : ∃ p, Lib.trimRightB P 48 = p := ⟨_, rfl⟩
  rw [hp] at ht hlast ⊢
  have hpl : p.length ≤ 6 := by
    have := congrArg List.length ht
    rw [List.length_append, List.length_replicate] at this
    omega
  have hval : valN p * 10 ^ (6 - p.length) = f := by
    rw [← hv]
    conv => rhs; rw [ht]
    rw [valN_append, valN_zeros, List.length_replicate, hl, Nat.add_zero]
  have hne : p ≠ [] := by
    rintro rfl
    have : valN [] = 0 := rfl
    rw [this] at hval
    omega
  refine ⟨p, rfl, ?_, hval, hlast, hpl, hne⟩
  unfold partOk
  have hpa : p.all isD = true := by
    rw [ht, List.all_append] at ha
    simp only [Bool.and_eq_true] at ha
    exact ha.1
  have : 1 ≤ p.length := by
    cases p with
    | nil => exact absurd rfl hne
    | cons c p => simp
  rw [hpa, decide_eq_true this, decide_eq_true hpl]
  rfl
def bodyS (N : Nat) : List UInt8 := Lib.decDigits (N / 1000000) ++ if 0 < N % 1000000 then 46 :: Lib.trimRightB ((Lib.decDigits (N % 1000000 + 1000000)).drop 1) 48 else []
def printS (a : Bool) (n : Int) : List UInt8 := if over a n = true then [111, 118, 102] else if n < 0 then 45 :: bodyS (ab n).toNat else bodyS (ab n).toNat
theorem extract_list (l : List UInt8) (k : Nat) : (⟨l.toArray⟩ : ByteArray).extract k l.length = ⟨(l.drop k).toArray⟩ := by
  rw [ByteArray.extract_mk]
  congr 1
  apply Array.toList_inj.1
  simp only [List.extract_toArray, List.extract_eq_take_drop]
  exact List.take_of_length_le (by simp)
theorem fmt_eq (u : Nat) (h : u < 18446744073709551616) : strconv_FormatUint.f (u : Int) 10 = some ⟨(Lib.decDigits u).toArray⟩ := by
  unfold strconv_FormatUint.f
  rw [if_pos ⟨rfl, by omega, by omega⟩, Int.toNat_natCast]
theorem fixprint_eq (a : Bool) (n : Int) (hn : R n) : fix_Print.f a n = some ⟨(printS a n).toArray⟩ := by
  unfold fix_Print.f printS
  rw [over_eq, Option.bind_some]
  cases h : over a n
  · unfold over at h
    rw [h]
    simp only [Bool.false_eq_true, if_false]
    have hr := ab_R hn
    rw [size_eq n hn, Option.bind_some]
    obtain ⟨N, hN⟩ : ∃ N : Nat, ab n = N := ⟨(ab n).toNat, by omega⟩
    rw [hN] at hr ⊢
    rw [Int.toNat_natCast]
    have e1 : IntKind.u64.wrap (Int.tdiv (N : Int) 1000000) = ((N / 1000000 : Nat) : Int) := by
      rw [Int.tdiv_eq_ediv_of_nonneg (by omega), IntKind.wrap_u64]
      omega
    have e0 : Int.tmod (N : Int) 1000000 = ((N % 1000000 : Nat) : Int) := by
      rw [Int.tmod_eq_emod_of_nonneg (by omega)]
      omega
    have e2 : IntKind.u64.wrap (((N % 1000000 : Nat) : Int) + 1000000) = ((N % 1000000 + 1000000 : Nat) : Int) := by
      rw [IntKind.wrap_u64]
      omega
    rw [e1, e0, e2, fmt_eq _ (by omega), Option.bind_some, fmt_eq _ (by omega), Option.bind_some]
    have l1 := dec_len (N / 1000000) 20 (by omega) (by omega)
    have l2 := dec_pos (N % 1000000 + 1000000)
    rw [size_list, size_list, if_pos (by omega)]
    unfold bodyS
    by_cases c : 0 < N % 1000000
    · rw [if_pos (by omega), if_pos c]
      obtain ⟨p, e, hp, hv, _, hpl, _⟩ := frac_trim (N % 1000000) (by omega) c
      unfold strings_TrimRight.f
      rw [extract_list]
      simp only
      rw [if_pos ⟨by decide, by rw [size_list, List.length_drop]; have := dec_len (N % 1000000 + 1000000) 20 (by omega) (by omega); omega⟩, Option.bind_some, e, size_list, if_pos (by omega)]
      rw [show ((⟨#[46]⟩ : ByteArray) ++ ⟨p.toArray⟩) = ⟨(46 :: p).toArray⟩ from app_list [46] p, size_list, List.length_cons, if_pos (by omega)]
      by_cases s : n < 0
      · rw [if_pos s, if_pos s, app_list, size_list, List.length_append, List.length_cons, if_pos (by omega)]
        exact congrArg some (app_list [45] _)
      · rw [if_neg s, if_neg s, app_list]
    · rw [if_neg (by omega), if_neg c, List.append_nil]
      by_cases s : n < 0
      · rw [if_pos s, if_pos s, if_pos (by omega)]
        exact congrArg some (app_list [45] _)
      · rw [if_neg s, if_neg s]
  · unfold over at h
    rw [h]
    rfl
end Go.Proofs.YtjaolddgnijgiaaGreatDoor.PureN
end
