import Derived.Test.YtjaolddgnijgiaaDoorPureText
import Derived.Lib.ItoaNum
namespace Go.Proofs.YtjaolddgnijgiaaDoor.PureN
open Go.RowKit Go.Proofs.YtjaolddgnijgiaaDoor.Print Go.Proofs.YtjaolddgnijgiaaDoor.Pure Go.Proofs.YtjaolddgnijgiaaDoorW.PrintWords Go.Proofs.YtjaolddgnijgiaaDoorW.PrintLast Go.Proofs.YtjaolddgnijgiaaDoorW.PrintMore
set_option linter.unusedVariables false
set_option linter.unusedSimpArgs false

/-! A number's text. -/
theorem dec_ind {p : Nat → List UInt8 → Prop} (h1 : ∀ u, u < 10 → p u [UInt8.ofNat (48 + u)]) (h2 : ∀ u, 10 ≤ u → p (u / 10) (Lib.decDigits (u / 10)) → p u (Lib.decDigits (u / 10) ++ [UInt8.ofNat (48 + u % 10)])) : ∀ u, p u (Lib.decDigits u) := by
  intro u
  induction u using Nat.strongRecOn with
  | _ u ih =>
    rw [Lib.decDigits]
    by_cases h : u < 10
    · rw [dif_pos h]
      exact h1 u h
    · rw [dif_neg h]
      exact h2 u (by omega) (ih (u / 10) (by omega))
theorem dig_nat (d : Nat) (h : d < 10) : (UInt8.ofNat (48 + d)).toNat = 48 + d := by
  rw [UInt8.toNat_ofNat']
  omega
theorem dig_is (d : Nat) (h : d < 10) : isD (UInt8.ofNat (48 + d)) = true := by
  unfold isD
  rw [dig_nat d h]
  simp
  omega
theorem dec_all : ∀ u, (Lib.decDigits u).all isD = true := by
  refine dec_ind (p := fun u l => l.all isD = true) (fun u h => ?_) (fun u h ih => ?_)
  · simp only [List.all_cons, List.all_nil, Bool.and_true]
    exact dig_is u h
  · rw [List.all_append, ih]
    simp only [List.all_cons, List.all_nil, Bool.and_true, Bool.true_and]
    exact dig_is _ (by omega)
theorem val_one (c : UInt8) : valN [c] = c.toNat - 48 := by
  unfold valN valF
  simp
theorem dec_val : ∀ u, valN (Lib.decDigits u) = u := by
  refine dec_ind (p := fun u l => valN l = u) (fun u h => ?_) (fun u h ih => ?_)
  · rw [val_one, dig_nat u h]
    omega
  · rw [valN_append, ih, val_one, dig_nat _ (by omega)]
    simp only [List.length_singleton, Nat.pow_one]
    omega
theorem dec_pos : ∀ u, 1 ≤ (Lib.decDigits u).length := by
  refine dec_ind (p := fun u l => 1 ≤ l.length) (fun u h => by simp) (fun u h ih => by simp)
theorem dec_len : ∀ u k, 1 ≤ k → u < 10 ^ k → (Lib.decDigits u).length ≤ k := by
  refine dec_ind (p := fun u l => ∀ k, 1 ≤ k → u < 10 ^ k → l.length ≤ k) (fun u h k hk _ => by simpa using hk) (fun u h ih k hk hu => ?_)
  obtain ⟨k, rfl⟩ : ∃ m, k = m + 1 := ⟨k - 1, by omega⟩
  rw [List.length_append, List.length_singleton]
  rw [Nat.pow_succ] at hu
  have hk1 : 1 ≤ k := by
    rcases Nat.eq_zero_or_pos k with rfl | h'
    · simp at hu
      omega
    · exact h'
  have := ih k hk1 (by omega)
  omega
theorem dec_head : ∀ u, 1 ≤ u → ∃ c r, Lib.decDigits u = c :: r ∧ c.toNat ≠ 48 ∧ isD c = true := by
  refine dec_ind (p := fun u l => 1 ≤ u → ∃ c r, l = c :: r ∧ c.toNat ≠ 48 ∧ isD c = true) (fun u h hu => ?_) (fun u h ih hu => ?_)
  · exact ⟨_, [], rfl, by rw [dig_nat u h]; omega, dig_is u h⟩
  · obtain ⟨c, r, e, h1, h2⟩ := ih (by omega)
    exact ⟨c, r ++ [UInt8.ofNat (48 + u % 10)], by rw [e]; rfl, h1, h2⟩
theorem dec_zero : Lib.decDigits 0 = [48] := by
  rw [Lib.decDigits, dif_pos (by decide)]
  rfl
theorem dec_ok (u : Nat) (h : u < 10000000000000) : headOk (Lib.decDigits u) = true := by
  unfold headOk
  have h1 := dec_pos u
  have h2 := dec_len u 13 (by omega) (by omega)
  rw [decide_eq_true h1, decide_eq_true h2]
  by_cases z : u = 0
  · subst z
    rw [dec_zero]
    rfl
  · obtain ⟨c, r, e, h3, _⟩ := dec_head u (by omega)
    rw [e]
    have : ((c :: r).head? == some (48 : UInt8)) = false := by
      rw [beq_eq_false_iff_ne]
      simp only [List.head?_cons, ne_eq, Option.some.injEq]
      rintro rfl
      exact h3 rfl
    rw [this]
    simp
theorem frac (f : Nat) (h : f < 1000000) : ∃ P, Lib.decDigits (f + 1000000) = 49 :: P ∧ P.length = 6 ∧ P.all isD = true ∧ valN P = f := by
  have h1 := dec_len (f + 1000000) 7 (by omega) (by omega)
  have ha := dec_all (f + 1000000)
  have hv := dec_val (f + 1000000)
  have hlt := valN_lt _ ha
  rw [hv] at hlt
  obtain ⟨c, P, e, hc, hd⟩ := dec_head (f + 1000000) (by omega)
  rw [e] at h1 ha hv hlt
  have hl : P.length = 6 := by
    simp only [List.length_cons] at h1 hlt
    rcases Nat.lt_or_ge P.length 6 with g | g
    · have : 10 ^ (P.length + 1) ≤ 10 ^ 6 := Nat.pow_le_pow_right (by omega) (by omega)
      omega
    · omega
  simp only [List.all_cons, Bool.and_eq_true] at ha
  have hv2 := valN_append [c] P
  rw [List.singleton_append, hv, val_one, hl] at hv2
  have hPl := valN_lt P ha.2
  rw [hl] at hPl
  have hcd : 48 ≤ c.toNat ∧ c.toNat ≤ 57 := by
    have := ha.1
    unfold isD at this
    simpa using this
  have hc1 : c.toNat = 49 := by omega
  have : c = 49 := UInt8.toNat_inj.1 hc1
  subst this
  exact ⟨P, e, hl, ha.2, by omega⟩
theorem trim_app (l : List UInt8) (c : UInt8) : l = Lib.trimRightB l c ++ List.replicate (l.length - (Lib.trimRightB l c).length) c := by
  unfold Lib.trimRightB
  have hs := List.takeWhile_append_dropWhile (p := (· == c)) (l := l.reverse)
  have hm : ∀ d ∈ l.reverse.takeWhile (· == c), d = c := fun d hd => by
    have := takeWhile_mem (p := (· == c)) l.reverse d hd
    simpa using this
  have ht : l.reverse.takeWhile (· == c) = List.replicate (l.reverse.takeWhile (· == c)).length c := List.eq_replicate_iff.2 ⟨rfl, hm⟩
  have hlen : (l.reverse.takeWhile (· == c)).length = l.length - (l.reverse.dropWhile (· == c)).reverse.length := by
    have := congrArg List.length hs
    rw [List.length_append, List.length_reverse] at this
    rw [List.length_reverse]
    omega
  have := congrArg List.reverse hs
  rw [List.reverse_append, List.reverse_reverse, ht, List.reverse_replicate, hlen] at this
  exact this.symm
theorem trim_last (l : List UInt8) (c : UInt8) : ∀ d, (Lib.trimRightB l c).getLast? = some d → d ≠ c := by
  intro d hd
  unfold Lib.trimRightB at hd
  rw [List.getLast?_reverse] at hd
  cases hr : l.reverse.dropWhile (· == c) with
  | nil => rw [hr] at hd; simp at hd
  | cons x r =>
    have := dropWhile_head (p := (· == c)) l.reverse x r hr
    rw [hr] at hd
    simp only [List.head?_cons, Option.some.injEq] at hd
    subst hd
    simpa using this
/-- The part behind the point. -/
theorem frac_trim (f : Nat) (h : f < 1000000) (h0 : 0 < f) : ∃ p, Lib.trimRightB ((Lib.decDigits (f + 1000000)).drop 1) 48 = p ∧ partOk p = true ∧ valN p * 10 ^ (6 - p.length) = f ∧ (∀ d, p.getLast? = some d → d ≠ 48) ∧ p.length ≤ 6 ∧ p ≠ [] := by
  obtain ⟨P, e, hl, ha, hv⟩ := frac f h
  rw [e, List.drop_one, List.tail_cons]
  have ht := trim_app P 48
  have hlast := trim_last P 48
  obtain ⟨p, hp⟩ : ∃ p, Lib.trimRightB P 48 = p := ⟨_, rfl⟩
  rw [hp] at ht hlast ⊢
  have hpl : p.length ≤ 6 := by
    have := congrArg List.length ht
    rw [List.length_append, List.length_replicate] at this
    omega
  have hval : valN p * 10 ^ (6 - p.length) = f := by
    rw [← hv]
    conv => rhs; rw [ht]
    rw [valN_append, valN_zeros, List.length_replicate, hl, Nat.add_zero]
  have hne : p ≠ [] := by
    rintro rfl
    have : valN [] = 0 := rfl
    rw [this] at hval
    omega
  refine ⟨p, rfl, ?_, hval, hlast, hpl, hne⟩
  unfold partOk
  have hpa : p.all isD = true := by
    rw [ht, List.all_append] at ha
    simp only [Bool.and_eq_true] at ha
    exact ha.1
  have : 1 ≤ p.length := by
    cases p with
    | nil => exact absurd rfl hne
    | cons c p => simp
  rw [hpa, decide_eq_true this, decide_eq_true hpl]
  rfl
def bodyS (N : Nat) : List UInt8 := Lib.decDigits (N / 1000000) ++ if 0 < N % 1000000 then 46 :: Lib.trimRightB ((Lib.decDigits (N % 1000000 + 1000000)).drop 1) 48 else []
def printS (a : Bool) (n : Int) : List UInt8 := if over a n = true then [111, 118, 102] else if n < 0 then 45 :: bodyS (ab n).toNat else bodyS (ab n).toNat
theorem body_split (N : Nat) (hN : N ≤ 9223372036854775807) : (bodyS N).takeWhile isD = Lib.decDigits (N / 1000000) ∧ (bodyS N).dropWhile isD = (if 0 < N % 1000000 then 46 :: Lib.trimRightB ((Lib.decDigits (N % 1000000 + 1000000)).drop 1) 48 else []) := by
  have ha := List.all_eq_true.1 (dec_all (N / 1000000))
  have d46 : isD 46 = false := rfl
  unfold bodyS
  rw [takeWhile_app _ _ ha, dropWhile_app _ _ ha]
  by_cases c : 0 < N % 1000000
  · rw [if_pos c, List.takeWhile_cons, List.dropWhile_cons, d46]
    simp
  · rw [if_neg c]
    simp
theorem parse_body (neg : Bool) (N : Nat) (hN : N ≤ 9223372036854775807) : parseT neg (bodyS N) = (false, if neg then -(N : Int) else (N : Int), 0) := by
  obtain ⟨h1, h2⟩ := body_split N hN
  unfold parseT
  rw [h1, h2, dec_ok _ (by omega), if_pos rfl]
  have fin : okS (sgn neg (N : Int)) = (false, if neg then -(N : Int) else (N : Int), 0) := by
    unfold okS sgn
    rw [if_neg (by omega)]
  by_cases c : 0 < N % 1000000
  · rw [if_pos c]
    obtain ⟨p, e, hp, hv, _⟩ := frac_trim (N % 1000000) (by omega) c
    simp only
    rw [e, if_pos ⟨trivial, hp⟩, hv, dec_val, show N / 1000000 * 1000000 + N % 1000000 = N by omega]
    exact fin
  · rw [if_neg c, dec_val, show N / 1000000 * 1000000 = N by omega]
    exact fin
theorem body_head (N : Nat) : ∃ c r, bodyS N = c :: r ∧ isD c = true := by
  have h := dec_pos (N / 1000000)
  have ha := dec_all (N / 1000000)
  unfold bodyS
  cases e : Lib.decDigits (N / 1000000) with
  | nil => rw [e] at h; simp at h
  | cons c r =>
    rw [e] at ha
    simp only [List.all_cons, Bool.and_eq_true] at ha
    exact ⟨c, _, rfl, ha.1⟩
theorem ab_le2 {n : Int} (hn : R n) (h : n ≠ -9223372036854775808) : ab n ≤ 9223372036854775807 := by
  obtain ⟨n1, n2⟩ := hn
  unfold ab
  split <;> omega
theorem parse_print (a : Bool) (n : Int) (hn : R n) : parseS (printS a n) = if over a n = true then (true, 0, 0) else (false, n, 0) := by
  unfold printS
  cases h : over a n
  · simp only [Bool.false_eq_true, if_false]
    obtain ⟨_, h1⟩ := not_over h
    have h2 := ab_le2 hn h1
    have h0 := ab0 n
    obtain ⟨N, hN⟩ : ∃ N : Nat, ab n = N := ⟨(ab n).toNat, by omega⟩
    rw [hN, Int.toNat_natCast]
    rw [hN] at h2
    obtain ⟨c, r, e, hc⟩ := body_head N
    have hc45 : c ≠ 45 := by rintro rfl; simp [isD] at hc
    have hc111 : c ≠ 111 := by rintro rfl; simp [isD] at hc
    unfold parseS
    by_cases s : n < 0
    · rw [if_pos s, if_neg (by simp), List.head?_cons, if_pos rfl, List.tail_cons, parse_body true N (by omega)]
      unfold ab at hN
      rw [if_pos s] at hN
      simp only [if_true]
      rw [← hN, Int.neg_neg]
    · rw [if_neg s]
      have g1 : bodyS N ≠ [111, 118, 102] := by
        rw [e]
        intro x
        injection x with x1 x2
        exact hc111 x1
      have g2 : ¬ (bodyS N).head? = some 45 := by
        rw [e]
        simpa using hc45
      rw [if_neg g1, if_neg g2, parse_body false N (by omega)]
      unfold ab at hN
      rw [if_neg s] at hN
      rw [hN]
      rfl
  · rfl
theorem extract_list (l : List UInt8) (k : Nat) : (⟨l.toArray⟩ : ByteArray).extract k l.length = ⟨(l.drop k).toArray⟩ := by
  rw [ByteArray.extract_mk]
  congr 1
  apply Array.toList_inj.1
  simp only [List.extract_toArray, List.extract_eq_take_drop]
  exact List.take_of_length_le (by simp)
theorem fmt_eq (u : Nat) (h : u < 18446744073709551616) : strconv_FormatUint.f (u : Int) 10 = some ⟨(Lib.decDigits u).toArray⟩ := by
  unfold strconv_FormatUint.f
  rw [if_pos ⟨rfl, by omega, by omega⟩, Int.toNat_natCast]
theorem fixprint_eq (a : Bool) (n : Int) (hn : R n) : fix_Print.f a n = some ⟨(printS a n).toArray⟩ := by
  unfold fix_Print.f printS
  rw [over_eq, Option.bind_some]
  cases h : over a n
  · unfold over at h
    rw [h]
    simp only [Bool.false_eq_true, if_false]
    have hr := ab_R hn
    rw [size_eq n hn, Option.bind_some]
    obtain ⟨N, hN⟩ : ∃ N : Nat, ab n = N := ⟨(ab n).toNat, by omega⟩
    rw [hN] at hr ⊢
    rw [Int.toNat_natCast]
    have e1 : IntKind.u64.wrap (Int.tdiv (N : Int) 1000000) = ((N / 1000000 : Nat) : Int) := by
      rw [Int.tdiv_eq_ediv_of_nonneg (by omega), IntKind.wrap_u64]
      omega
    have e0 : Int.tmod (N : Int) 1000000 = ((N % 1000000 : Nat) : Int) := by
      rw [Int.tmod_eq_emod_of_nonneg (by omega)]
      omega
    have e2 : IntKind.u64.wrap (((N % 1000000 : Nat) : Int) + 1000000) = ((N % 1000000 + 1000000 : Nat) : Int) := by
      rw [IntKind.wrap_u64]
      omega
    rw [e1, e0, e2, fmt_eq _ (by omega), Option.bind_some, fmt_eq _ (by omega), Option.bind_some]
    have l1 := dec_len (N / 1000000) 20 (by omega) (by omega)
    have l2 := dec_pos (N % 1000000 + 1000000)
    rw [size_list, size_list, if_pos (by omega)]
    unfold bodyS
    by_cases c : 0 < N % 1000000
    · rw [if_pos (by omega), if_pos c]
      obtain ⟨p, e, hp, hv, _, hpl, _⟩ := frac_trim (N % 1000000) (by omega) c
      unfold strings_TrimRight.f
      rw [extract_list]
      simp only
      rw [if_pos ⟨by decide, by rw [size_list, List.length_drop]; have := dec_len (N % 1000000 + 1000000) 20 (by omega) (by omega); omega⟩, Option.bind_some, e, size_list, if_pos (by omega)]
      rw [show ((⟨#[46]⟩ : ByteArray) ++ ⟨p.toArray⟩) = ⟨(46 :: p).toArray⟩ from app_list [46] p, size_list, List.length_cons, if_pos (by omega)]
      by_cases s : n < 0
      · rw [if_pos s, if_pos s, app_list, size_list, List.length_append, List.length_cons, if_pos (by omega)]
        exact congrArg some (app_list [45] _)
      · rw [if_neg s, if_neg s, app_list]
    · rw [if_neg (by omega), if_neg c, List.append_nil]
      by_cases s : n < 0
      · rw [if_pos s, if_pos s, if_pos (by omega)]
        exact congrArg some (app_list [45] _)
      · rw [if_neg s, if_neg s]
  · unfold over at h
    rw [h]
    rfl
end Go.Proofs.YtjaolddgnijgiaaDoor.PureN
