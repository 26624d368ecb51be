import Derived.Test.YtjaolddgnijgiaaDoorPureShow
import Derived.Test.YtjaolddgnijgiaaDoorPrint33
namespace Go.Proofs.YtjaolddgnijgiaaDoor.PureN
open Go.RowKit Go.Proofs.YtjaolddgnijgiaaDoor.Print Go.Proofs.YtjaolddgnijgiaaDoor.Pure Go.Proofs.YtjaolddgnijgiaaDoorW.PrintWords Go.Proofs.YtjaolddgnijgiaaDoorW.PrintLast Go.Proofs.YtjaolddgnijgiaaDoorW.PrintMore
set_option linter.unusedVariables false
set_option linter.unusedSimpArgs false

/-! A number's text is the shortest. -/
def restS (N : Nat) : List UInt8 := if 0 < N % 1000000 then 46 :: Lib.trimRightB ((Lib.decDigits (N % 1000000 + 1000000)).drop 1) 48 else []
theorem body_eq (N : Nat) : bodyS N = Lib.decDigits (N / 1000000) ++ restS N := rfl
theorem one_more (neg : Bool) (N : Nat) (hN : N < 5000000000000000) :
    parseT neg (bodyS N ++ [48]) = errS ∨ (0 < N % 1000000 ∧ parseT neg (bodyS N ++ [48]) = (false, if neg then -(N : Int) else (N : Int), 0)) ∨ (N % 1000000 = 0 ∧ parseT neg (bodyS N ++ [48]) = (false, if neg then -((N * 10 : Nat) : Int) else ((N * 10 : Nat) : Int), 0)) := by
  have hall := dec_all (N / 1000000)
  have ha := List.all_eq_true.1 hall
  have d46 : isD 46 = false := rfl
  have fin : ∀ M : Nat, M ≤ 9223372036854775807 → okS (sgn neg (M : Int)) = (false, if neg then -(M : Int) else (M : Int), 0) := fun M hM => by
    unfold okS sgn
    rw [if_neg (by omega)]
  rw [body_eq]
  unfold restS
  by_cases c : 0 < N % 1000000
  · rw [if_pos c]
    obtain ⟨p, e, hp, hv, hlast, hpl, hne⟩ := frac_trim (N % 1000000) (by omega) c
    rw [e, List.append_assoc, List.cons_append]
    unfold parseT
    rw [takeWhile_app _ _ ha, dropWhile_app _ _ ha, List.takeWhile_cons, List.dropWhile_cons, d46]
    simp only [Bool.false_eq_true, if_false, List.append_nil]
    rw [dec_ok _ (by omega), if_pos rfl]
    by_cases g : partOk (p ++ [48]) = true
    · right
      left
      refine ⟨c, ?_⟩
      rw [if_pos ⟨trivial, g⟩]
      have hl : p.length + 1 ≤ 6 := by
        unfold partOk at g
        simp at g
        omega
      have : valN (p ++ [48]) * 10 ^ (6 - (p ++ [48]).length) = N % 1000000 := by
        rw [valN_append, List.length_append, List.length_singleton, Nat.pow_one, show valN [48] = 0 from rfl, Nat.add_zero, Nat.mul_assoc, ← Nat.pow_succ', show (6 - (p.length + 1)).succ = 6 - p.length by omega]
        exact hv
      rw [this, dec_val, show N / 1000000 * 1000000 + N % 1000000 = N by omega]
      exact fin N (by omega)
    · left
      rw [if_neg (fun h => g h.2)]
  · rw [if_neg c, List.append_nil]
    have ha2 : ∀ d ∈ Lib.decDigits (N / 1000000) ++ [48], isD d = true := by
      intro d hd
      rcases List.mem_append.1 hd with h | h
      · exact ha d h
      · simp at h
        subst h
        rfl
    unfold parseT
    rw [takeWhile_all _ ha2, dropWhile_all _ ha2]
    by_cases g : headOk (Lib.decDigits (N / 1000000) ++ [48]) = true
    · right
      right
      refine ⟨by omega, ?_⟩
      rw [if_pos g]
      simp only
      rw [valN_append, dec_val, show valN [48] = 0 from rfl, List.length_singleton, Nat.pow_one, Nat.add_zero, show N / 1000000 * 10 * 1000000 = N * 10 by omega]
      exact fin (N * 10) (by omega)
    · left
      rw [if_neg g]
theorem one_ahead (N : Nat) : parseT false (48 :: bodyS N) = errS := by
  have hall := dec_all (N / 1000000)
  have hp := dec_pos (N / 1000000)
  have ha : ∀ c ∈ 48 :: Lib.decDigits (N / 1000000), isD c = true := by
    intro c hc
    rcases List.mem_cons.1 hc with rfl | hc
    · rfl
    · exact List.all_eq_true.1 hall c hc
  have d46 : isD 46 = false := rfl
  have ht : ((48 :: Lib.decDigits (N / 1000000)) ++ restS N).takeWhile isD = 48 :: Lib.decDigits (N / 1000000) := by
    rw [takeWhile_app _ _ ha]
    unfold restS
    split
    · rw [List.takeWhile_cons, d46]
      simp
    · simp
  unfold parseT
  rw [body_eq, ← List.cons_append, ht]
  have : headOk (48 :: Lib.decDigits (N / 1000000)) = false := by
    unfold headOk
    have : decide (1 < (48 :: Lib.decDigits (N / 1000000)).length) = true := decide_eq_true (by simp only [List.length_cons]; omega)
    rw [this]
    simp
  rw [this]
  rfl
theorem minus_ahead (l : List UInt8) : parseT false (48 :: 45 :: l) = errS := by
  unfold parseT
  have h1 : isD 48 = true := rfl
  have h2 : isD 45 = false := rfl
  rw [List.takeWhile_cons, h1, List.takeWhile_cons, h2, List.dropWhile_cons, h1]
  simp only [if_true, Bool.false_eq_true, if_false]
  rw [List.dropWhile_cons, h2]
  simp
theorem ab_nat (x : Int) : ∃ N : Nat, ab x = N ∧ (ab x).toNat = N := ⟨(ab x).toNat, by have := ab0 x; omega, rfl⟩
/-- What is asked of the text with a nought behind it, and ahead of it. -/
theorem behind (x : Int) (hx : -5000000000000000 < x ∧ x < 5000000000000000) :
    parseS (printS false x ++ [48]) = errS ∨ (0 < (ab x).toNat % 1000000 ∧ parseS (printS false x ++ [48]) = (false, x, 0)) ∨ ((ab x).toNat % 1000000 = 0 ∧ parseS (printS false x ++ [48]) = (false, x * 10, 0)) := by
  have ho : over false x = false := by
    unfold over isOver
    simp
    omega
  obtain ⟨N, e1, e2⟩ := ab_nat x
  obtain ⟨c, r, e, hc⟩ := body_head N
  have hc45 : c ≠ 45 := by rintro rfl; simp [isD] at hc
  have hc111 : c ≠ 111 := by rintro rfl; simp [isD] at hc
  have hN : N < 5000000000000000 := by
    unfold ab at e1
    split at e1 <;> omega
  unfold printS
  rw [ho, e2]
  simp only [Bool.false_eq_true, if_false]
  unfold parseS
  by_cases s : x < 0
  · rw [if_pos s, List.cons_append, if_neg (by simp), List.head?_cons, if_pos rfl, List.tail_cons]
    unfold ab at e1
    rw [if_pos s] at e1
    rcases one_more true N hN with h | ⟨h1, h⟩ | ⟨h1, h⟩
    · exact .inl h
    · refine .inr (.inl ⟨h1, h.trans ?_⟩)
      simp only [if_true]
      rw [← e1, Int.neg_neg]
    · refine .inr (.inr ⟨h1, h.trans ?_⟩)
      simp only [if_true]
      congr 2
      omega
  · rw [if_neg s]
    have g1 : bodyS N ++ [48] ≠ [111, 118, 102] := by
      rw [e]
      intro x
      injection x with x1 x2
      exact hc111 x1
    have g2 : ¬ (bodyS N ++ [48]).head? = some 45 := by
      rw [e]
      simpa using hc45
    rw [if_neg g1, if_neg g2]
    unfold ab at e1
    rw [if_neg s] at e1
    rcases one_more false N hN with h | ⟨h1, h⟩ | ⟨h1, h⟩
    · exact .inl h
    · refine .inr (.inl ⟨h1, h.trans ?_⟩)
      simp only [Bool.false_eq_true, if_false]
      rw [e1]
    · refine .inr (.inr ⟨h1, h.trans ?_⟩)
      simp only [Bool.false_eq_true, if_false]
      congr 2
      omega
theorem ahead (x : Int) (ho : over false x = false) : parseS (48 :: printS false x) = errS := by
  obtain ⟨N, e1, e2⟩ := ab_nat x
  unfold printS
  rw [ho, e2]
  simp only [Bool.false_eq_true, if_false]
  unfold parseS
  rw [if_neg (by intro h; injection h with h1 h2; exact absurd h1 (by decide)), List.head?_cons, if_neg (by decide)]
  by_cases s : x < 0
  · rw [if_pos s]
    exact minus_ahead _
  · rw [if_neg s]
    exact one_ahead N
theorem any_rest (N : Nat) : (restS N).any (· == 46) = decide (0 < N % 1000000) := by
  unfold restS
  generalize Lib.trimRightB _ 48 = p
  generalize N % 1000000 = F
  by_cases c : 0 < F
  · rw [if_pos c, decide_eq_true c, List.any_cons, show ((46 : UInt8) == 46) = true from rfl, Bool.true_or]
  · rw [if_neg c, decide_eq_false c, List.any_nil]
theorem any_body (N : Nat) : (bodyS N).any (· == 46) = decide (0 < N % 1000000) := by
  have hall := dec_all (N / 1000000)
  have hd : (Lib.decDigits (N / 1000000)).any (· == 46) = false := by
    generalize Lib.decDigits (N / 1000000) = D at hall
    rw [List.any_eq_false]
    intro c hc
    have := isD_dot (List.all_eq_true.1 hall c hc)
    simpa using this
  rw [body_eq, List.any_append, hd, Bool.false_or, any_rest]
theorem any_dot (x : Int) (ho : over false x = false) : (printS false x).any (· == 46) = decide (0 < (ab x).toNat % 1000000) := by
  rw [← any_body]
  unfold printS
  rw [ho]
  simp only [Bool.false_eq_true, if_false]
  by_cases s : x < 0
  · rw [if_pos s, List.any_cons, show ((45 : UInt8) == 46) = false from rfl, Bool.false_or]
  · rw [if_neg s]
theorem last_dot (x : Int) (ho : over false x = false) (h : 0 < (ab x).toNat % 1000000) : ∃ d, (printS false x).getLast? = some d ∧ d ≠ 48 := by
  obtain ⟨p, e, hp, hv, hlast, hpl, hne⟩ := frac_trim ((ab x).toNat % 1000000) (by omega) h
  have hb : (bodyS (ab x).toNat).getLast? = p.getLast? := by
    rw [body_eq]
    unfold restS
    rw [if_pos h, e, List.getLast?_append, List.getLast?_cons]
    cases hq : p.getLast? with
    | none => exact absurd (List.getLast?_eq_none_iff.1 hq) hne
    | some d => simp
  have hs : (printS false x).getLast? = p.getLast? := by
    unfold printS
    rw [ho]
    simp only [Bool.false_eq_true, if_false]
    by_cases s : x < 0
    · rw [if_pos s, List.getLast?_cons, hb]
      cases hq : p.getLast? with
      | none => exact absurd (List.getLast?_eq_none_iff.1 hq) hne
      | some d => simp
    · rw [if_neg s, hb]
  cases hq : p.getLast? with
  | none => exact absurd (List.getLast?_eq_none_iff.1 hq) hne
  | some d => exact ⟨d, hs.trans hq, hlast d hq⟩
theorem print_len (a : Bool) (x : Int) (hx : R x) : (printS a x).length ≤ 40 := by
  have l1 := dec_len ((ab x).toNat / 1000000) 20 (by omega) (by have := ab_R hx; omega)
  have l2 : (restS (ab x).toNat).length ≤ 7 := by
    unfold restS
    split
    · rename_i h
      obtain ⟨p, e, hp, hv, hlast, hpl, hne⟩ := frac_trim ((ab x).toNat % 1000000) (by omega) h
      rw [e, List.length_cons]
      omega
    · simp
  have l3 : (bodyS (ab x).toNat).length ≤ 27 := by
    rw [body_eq, List.length_append]
    omega
  unfold printS
  split
  · simp
  · split
    · rw [List.length_cons]
      omega
    · omega
theorem texts_l0 (x1 : Int) (s : List UInt8) (x10 x12 x14 : Int) (a1 : Bool) (a2 : Int) (b1 : Bool) (b2 : Int) (c1 : Bool) (c2 : Int) (d1 : Bool) (d2 : Int) (hs : s.length ≤ 1000) (d : Nat) : ∀ (k i : Nat), i + d = s.length →
    spillwaylaw2_FixTexts.l0 (k + d) x1 ⟨s.toArray⟩ x10 x12 x14 ((s.take i).any (· == 46)) i a1 a2 b1 b2 c1 c2 d1 d2 = spillwaylaw2_FixTexts.l0 k x1 ⟨s.toArray⟩ x10 x12 x14 (s.any (· == 46)) (s.length : Int) a1 a2 b1 b2 c1 c2 d1 d2 := by
  induction d with
  | zero =>
    intro k i hi
    obtain rfl : i = s.length := by omega
    rw [List.take_length, Nat.add_zero]
  | succ d ih =>
    intro k i hi
    have hil : i < s.length := by omega
    have ht : s.take (i + 1) = s.take i ++ [s[i]] := by rw [List.take_succ_eq_append_getElem hil]
    have e2 : wrap64 ((i : Int) + 1) = ((i + 1 : Nat) : Int) := by rw [wrap_id (by omega) (by omega)]; omega
    rw [show k + (d + 1) = (k + d) + 1 by omega]
    simp only [spillwaylaw2_FixTexts.l0]
    rw [size_list, if_pos (by omega), e2, bt_list s i hil]
    have ih := ih k (i + 1) (by omega)
    rw [ht, List.any_append] at ih
    by_cases c : (s.take i).any (· == 46) = true
    · rw [if_pos c]
      rw [c] at ih
      simpa using ih
    · rw [if_neg c, if_pos (by omega)]
      rw [Bool.eq_false_iff.2 c] at ih
      have e3 : ((s[i].toNat : Int) == 46) = (s[i] == 46) := by
        rw [Bool.eq_iff_iff, beq_iff_eq, beq_iff_eq]
        constructor
        · intro h
          apply UInt8.toNat_inj.1
          have : (46 : UInt8).toNat = 46 := rfl
          omega
        · intro h
          rw [h]
          rfl
      rw [e3]
      simpa using ih
theorem ten : sgn (decide ((10 : Int) < 0)) (ab 10 * 1000000 / 1) = (false, 10000000) := by decide
theorem FixTexts_j0 (x1 : Int) (x : Int) (hx : -5000000000000000 < x ∧ x < 5000000000000000) (h1 : (Int.tmod x1 1000000 != 0) = decide (0 < (ab x).toNat % 1000000)) : spillwaylaw2_FixTexts.j0 1301 x1 false x = some true := by
  have hR : R x := ⟨by omega, by omega⟩
  have ho : over false x = false := by
    unfold over isOver
    simp
    omega
  have hlen := print_len false x hR
  have hdot := any_dot x ho
  have hbe := behind x hx
  have hah := ahead x ho
  have hpp := parse_print false x hR
  rw [ho] at hpp
  simp only [Bool.false_eq_true, if_false] at hpp
  have hld := last_dot x ho
  obtain ⟨K, hK⟩ : ∃ K : Nat, K = 1260 := ⟨_, rfl⟩
  rw [show (1301 : Nat) = K + 40 + 1 by omega]
  simp only [spillwaylaw2_FixTexts.j0]
  rw [fixprint_eq false x hR, Option.bind_some]
  obtain ⟨s, hs⟩ : ∃ s, printS false x = s := ⟨_, rfl⟩
  rw [hs] at hlen hdot hbe hah hpp hld ⊢
  rw [fixparse_eq (K + 40) s (by omega) (by omega), Option.bind_some, size_list, if_pos (by omega), show ((⟨s.toArray⟩ : ByteArray) ++ ⟨#[48]⟩) = ⟨(s ++ [48]).toArray⟩ from app_list s [48],
    fixparse_eq (K + 40) (s ++ [48]) (by omega) (by simp; omega), Option.bind_some, if_pos (by omega), show ((⟨#[48]⟩ : ByteArray) ++ ⟨s.toArray⟩) = ⟨(48 :: s).toArray⟩ from app_list [48] s,
    fixparse_eq (K + 40) (48 :: s) (by omega) (by simp; omega), Option.bind_some, hpp, hah]
  obtain ⟨Y, hY⟩ : ∃ Y, parseS (s ++ [48]) = Y := ⟨_, rfl⟩
  rw [hY] at hbe ⊢
  unfold errS
  simp only
  have hl := texts_l0 x1 s 0 Y.2.2 20 false x Y.1 Y.2.1 false 0 false x (by omega) s.length (K + 40 - s.length) 0 (by omega)
  rw [show K + 40 - s.length + s.length = K + 40 by omega, List.take_zero] at hl
  have hl2 := texts_l0 x1 s 0 Y.2.2 20 false x false x Y.1 Y.2.1 false 0 (by omega) s.length (K + 40 - s.length) 0 (by omega)
  rw [show K + 40 - s.length + s.length = K + 40 by omega, List.take_zero] at hl2
  refine Eq.trans hl2 ?_
  obtain ⟨J, hJ⟩ : ∃ J : Nat, K + 40 - s.length = J + 2 := ⟨K + 38 - s.length, by omega⟩
  rw [hJ]
  simp only [spillwaylaw2_FixTexts.l0]
  rw [size_list, if_neg (by omega), if_pos trivial, if_neg (by simp), if_neg (by decide), hdot, h1, if_neg (by simp)]
  have j2 : spillwaylaw2_FixTexts.j2 (J + 1) Y.2.2 (decide (0 < (ab x).toNat % 1000000)) false false x Y.1 Y.2.1 = some true := by
    simp only [spillwaylaw2_FixTexts.j2, Bool.false_eq_true, if_false]
    rcases hbe with rfl | ⟨h3, rfl⟩ | ⟨h3, rfl⟩
    · rw [if_neg (by decide)]
    · simp only
      rw [if_pos trivial, if_pos (decide_eq_true h3)]
      simp
    · simp only
      rw [if_pos trivial, if_neg (by simp; omega), of_eq J 10 (by omega) (by constructor <;> decide), Option.bind_some, ten, mul_eq J false x _ _ (by omega) hR (by constructor <;> decide), Option.bind_some]
      have e : mulS false x false 10000000 = (false, x * 10) := by
        unfold mulS
        rw [ho, show over false 10000000 = false from rfl, show ab 10000000 = 10000000 from rfl]
        simp only [Bool.or_self, Bool.false_eq_true, if_false]
        have : ab x * 10000000 / 1000000 = ab x * 10 := by omega
        rw [this]
        have h10 : ab x * 10 ≤ 9223372036854775807 := by
          unfold ab
          split <;> omega
        unfold sgn
        rw [if_neg (by omega)]
        unfold ab
        by_cases s : x < 0
        · simp [s]
          omega
        · simp [s]
      rw [e]
      simp
  by_cases c : 0 < (ab x).toNat % 1000000
  · obtain ⟨d, hd1, hd2⟩ := hld c
    have hne : s ≠ [] := by
      rintro rfl
      simp at hd1
    have hpos : 0 < s.length := List.length_pos_iff.2 hne
    have e5 : wrap64 ((s.length : Int) - 1) = ((s.length - 1 : Nat) : Int) := by rw [wrap_id (by omega) (by omega)]; omega
    rw [if_pos (decide_eq_true c), e5, if_pos (by omega), if_pos (by omega), bt_list s (s.length - 1) (by omega)]
    have e6 : s[s.length - 1] = d := by
      rw [List.getLast?_eq_getElem?, List.getElem?_eq_getElem (by omega)] at hd1
      exact Option.some.inj hd1
    have e7 : ((s[s.length - 1].toNat : Int) == 48) = false := by
      rw [e6, beq_eq_false_iff_ne]
      intro h
      apply hd2
      apply UInt8.toNat_inj.1
      have : (48 : UInt8).toNat = 48 := rfl
      omega
    rw [e7]
    exact j2
  · rw [if_neg (by simpa using c)]
    exact j2
theorem FixTexts (a0 a1 : Int) (minus : Bool) (ha : 0 ≤ a0 ∧ a0 ≤ 4294967295) (hb : 0 ≤ a1 ∧ a1 ≤ 4294967295) : spillwaylaw2_FixTexts.f 1301 a0 a1 minus = some true := by
  have t1 : Int.tmod a1 1000000 = a1 % 1000000 := Int.tmod_eq_emod_of_nonneg hb.1
  unfold spillwaylaw2_FixTexts.f Print.spillwaylaw2_known.f
  rw [Option.bind_some, if_pos rfl, t1]
  have e : wrap64 (wrap64 (wrap64 a0 * 1000000) + wrap64 (a1 % 1000000)) = a0 * 1000000 + a1 % 1000000 := by
    rw [wrap_id (n := a0) (by omega) (by omega), wrap_id (n := a0 * 1000000) (by omega) (by omega), wrap_id (n := a1 % 1000000) (by omega) (by omega), wrap_id (by omega) (by omega)]
  rw [e]
  have hm : ∀ x : Int, (x = a0 * 1000000 + a1 % 1000000 ∨ x = -(a0 * 1000000 + a1 % 1000000)) → (Int.tmod a1 1000000 != 0) = decide (0 < (ab x).toNat % 1000000) := by
    intro x hx
    rw [t1, Bool.eq_iff_iff, bne_iff_ne, decide_eq_true_eq]
    have : (ab x).toNat = (a0 * 1000000 + a1 % 1000000).toNat := by
      unfold ab
      rcases hx with rfl | rfl
      · rw [if_neg (by omega)]
      · split <;> omega
    omega
  cases minus
  · rw [if_neg (by decide)]
    exact FixTexts_j0 a1 _ (by omega) (hm _ (.inl rfl))
  · rw [if_pos rfl, neg_eq false _ ⟨by omega, by omega⟩, Option.bind_some]
    have ho : over false (a0 * 1000000 + a1 % 1000000) = false := by
      unfold over isOver
      simp
      omega
    unfold negS
    rw [ho]
    simp only [Bool.false_eq_true, if_false]
    exact FixTexts_j0 a1 _ (by omega) (hm _ (.inr rfl))
end Go.Proofs.YtjaolddgnijgiaaDoor.PureN
