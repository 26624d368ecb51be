import Derived.Test.YtjaolddgnijgiaaDoorPureShow
import Derived.Test.YtjaolddgnijgiaaDoorWalkReads
namespace Go.Proofs.YtjaolddgnijgiaaDoor.PureN
open Go.RowKit Go.Proofs.YtjaolddgnijgiaaDoor.Print Go.Proofs.YtjaolddgnijgiaaDoor.Pure Go.Proofs.YtjaolddgnijgiaaDoorW.PrintWords Go.Proofs.YtjaolddgnijgiaaDoorW.PrintLast Go.Proofs.YtjaolddgnijgiaaDoorW.PrintMore
set_option linter.unusedVariables false
set_option linter.unusedSimpArgs false

/-! The document's reading of a number's text. -/
def refS (r : Bool × Int × Int) : Bool × Int × Bool := (r.1, r.2.1, r.2.2 == 0)
theorem rdigits_l0 (l : List UInt8) (hl : l.length ≤ 1000) (d : Nat) : ∀ (k i : Nat), i + d = l.length → d < k →
    spillwayref2_digits.l0 k ⟨l.toArray⟩ i = some ((i + ((l.drop i).takeWhile isD).length : Nat) : Int) := by
  induction d with
  | zero =>
    intro k i hi hk
    obtain ⟨m, rfl⟩ : ∃ m, k = m + 1 := ⟨k - 1, by omega⟩
    obtain rfl : i = l.length := by omega
    simp only [spillwayref2_digits.l0]
    rw [size_list, if_neg (by omega), List.drop_length]
    rfl
  | succ d ih =>
    intro k i hi hk
    obtain ⟨m, rfl⟩ : ∃ m, k = m + 1 := ⟨k - 1, by omega⟩
    have hil : i < l.length := by omega
    have e2 : wrap64 ((i : Int) + 1) = ((i + 1 : Nat) : Int) := by rw [wrap_id (by omega) (by omega)]; omega
    have ed : l.drop i = l[i] :: l.drop (i + 1) := List.drop_eq_getElem_cons hil
    simp only [spillwayref2_digits.l0]
    rw [size_list, if_pos (by omega), if_pos (by omega), bt_list l i hil, e2, ed, List.takeWhile_cons]
    have no : isD l[i] = false → some ((i : Nat) : Int) = some ((i + (if isD l[i] = true then l[i] :: (l.drop (i + 1)).takeWhile isD else []).length : Nat) : Int) := fun hd => by
      rw [hd]
      simp
    by_cases c1 : (l[i].toNat : Int) ≥ 48
    · rw [if_pos c1]
      by_cases c2 : (l[i].toNat : Int) ≤ 57
      · rw [if_pos c2, ih m (i + 1) (by omega) (by omega)]
        have : isD l[i] = true := by unfold isD; simp; omega
        rw [if_pos this, List.length_cons]
        congr 2
        omega
      · rw [if_neg c2]
        exact no (by unfold isD; simp; omega)
    · rw [if_neg c1]
      exact no (by unfold isD; simp; omega)
theorem rdigits_eq (k : Nat) (l : List UInt8) (hl : l.length ≤ 1000) (hk : 1001 < k) : spillwayref2_digits.f k ⟨l.toArray⟩ = some (((l.takeWhile isD).length : Nat) : Int) := by
  have h := rdigits_l0 l hl l.length k 0 (by omega) (by omega)
  unfold spillwayref2_digits.f
  simpa using h
theorem signed_eq (n : Nat) (minus : Bool) (h : n < 18446744073709551616) : spillwayref2_signed.f (n : Int) minus = some (sgn minus (n : Int)) := by
  unfold spillwayref2_signed.f sgn
  by_cases c : (n : Int) > 9223372036854775807
  · rw [if_pos c, if_pos (by omega)]
    rfl
  · have w1 : wrap64 (n : Int) = n := wrap_id (by omega) (by omega)
    have w2 : wrap64 (-(n : Int)) = -n := wrap_id (by omega) (by omega)
    have g2 : ¬ 9223372036854775807 < (n : Int) := by omega
    rw [if_neg c, if_neg g2, w1, w2]
    cases minus <;> rfl
theorem dig_val (c : UInt8) (h : isD c = true) : ((c.toNat : Int) - 48) % 256 = ((c.toNat - 48 : Nat) : Int) ∧ c.toNat - 48 ≤ 9 := by
  unfold isD at h
  simp at h
  omega
theorem w_add {K i : Nat} (h : K + 1 + i < 1000) : wrap64 (wrap64 ((K : Int) + 1) + (i : Int)) = ((K + 1 + i : Nat) : Int) := by
  rw [wrap_id (n := (K : Int) + 1) (by omega) (by omega), wrap_id (by omega) (by omega)]
  omega
theorem w_add2 {K i : Nat} (h : K + i < 1000) : wrap64 (((K : Nat) : Int) + (i : Int)) = ((K + i : Nat) : Int) := by
  rw [wrap_id (by omega) (by omega)]
  omega
theorem w_succ {i : Nat} (h : i < 1000) : wrap64 ((i : Int) + 1) = ((i + 1 : Nat) : Int) := by
  rw [wrap_id (by omega) (by omega)]
  omega
theorem w_ten {V D : Nat} (hV : V < 10000000000000) (hD : D ≤ 9) : IntKind.u64.wrap (IntKind.u64.wrap ((V : Int) * 10) + (D : Int)) = ((V * 10 + D : Nat) : Int) := by
  rw [IntKind.wrap_u64, IntKind.wrap_u64]
  omega
theorem w_ten0 {V : Nat} (hV : V < 10000000000000) : IntKind.u64.wrap ((V : Int) * 10) = ((V * 10 + 0 : Nat) : Int) := by
  rw [IntKind.wrap_u64]
  omega
theorem w_mil {V v : Nat} (hV : V < 10000000000000) (hD : v < 1000000) : IntKind.u64.wrap (IntKind.u64.wrap ((V : Int) * 1000000) + (v : Int)) = ((V * 1000000 + v : Nat) : Int) := by
  rw [IntKind.wrap_u64, IntKind.wrap_u64]
  omega
theorem w_mil0 {V : Nat} (hV : V < 10000000000000) : IntKind.u64.wrap (IntKind.u64.wrap ((V : Int) * 1000000) + 0) = ((V * 1000000 : Nat) : Int) := by
  rw [IntKind.wrap_u64, IntKind.wrap_u64]
  omega
theorem v_lt13 {l : List UInt8} (h : l.all isD = true) (hl : l.length ≤ 13) : valN l < 10000000000000 := by
  have h1 := valN_lt l h
  have h2 : 10 ^ l.length ≤ 10 ^ 13 := Nat.pow_le_pow_right (by decide) hl
  exact Nat.lt_of_lt_of_le h1 h2
theorem v_part {p : List UInt8} (h : p.all isD = true) (hl : p.length ≤ 6) : valN p * 10 ^ (6 - p.length) < 1000000 := by
  have h1 := valN_lt p h
  have := Nat.mul_lt_mul_of_pos_right h1 (Nat.pow_pos (n := 6 - p.length) (show 0 < 10 by decide))
  rw [← Nat.pow_add, Nat.add_sub_of_le hl] at this
  exact this
theorem val_snoc (l : List UInt8) (c : UInt8) : valN (l ++ [c]) = valN l * 10 + (c.toNat - 48) := by
  rw [valN_append, val_one]
  simp
/-- The whole part, digit by digit. -/
theorem rl0 (l : List UInt8) (K : Nat) (hK : K ≤ 13) (hKl : K ≤ l.length) (hd : (l.take K).all isD = true) (minus : Bool) (d : Nat) : ∀ (k i : Nat), i + d = K →
    spillwayref2_Parse.l0 (k + d) ⟨l.toArray⟩ minus K (valN (l.take i) : Int) i = spillwayref2_Parse.l0 k ⟨l.toArray⟩ minus K (valN (l.take K) : Int) K := by
  induction d with
  | zero =>
    intro k i hi
    obtain rfl : i = K := by omega
    rfl
  | succ d ih =>
    intro k i hi
    have hil : i < l.length := by omega
    have ht : l.take (i + 1) = l.take i ++ [l[i]] := by rw [List.take_succ_eq_append_getElem hil]
    have hmem : l[i] ∈ l.take K := by
      rw [List.mem_take_iff_getElem]
      exact ⟨i, by omega, rfl⟩
    have hdi := List.all_eq_true.1 hd _ hmem
    obtain ⟨v1, v2⟩ := dig_val _ hdi
    have hall : (l.take i).all isD = true := by
      rw [List.all_eq_true] at hd ⊢
      intro c hc
      have hs : l.take i = (l.take K).take i := by rw [List.take_take, Nat.min_eq_left (by omega)]
      rw [hs] at hc
      exact hd c (List.mem_of_mem_take hc)
    have hV := v_lt13 hall (by rw [List.length_take]; omega)
    have h6 : (i : Int) < (K : Int) := by omega
    have h7 : (0 : Int) ≤ (i : Int) := by omega
    have h8 : (i : Int) < (l.length : Int) := by omega
    have h9 : i + 1 + d = K := by omega
    have e2 := w_succ (i := i) (by omega)
    have e6 := w_ten hV v2
    refine Eq.trans ?_ (ih k (i + 1) h9)
    rw [show k + (d + 1) = (k + d) + 1 from rfl]
    conv => lhs; unfold spillwayref2_Parse.l0
    rw [size_list, if_pos h6, if_pos h7, if_pos h8, bt_list l i hil, v1, e2, ht, val_snoc, e6]
set_option maxHeartbeats 4000000 in
/-- The part behind the point, filled with noughts. -/
theorem rl1 (l p : List UInt8) (K : Nat) (hK : K ≤ 13) (hl : l.length = K + 1 + p.length) (hlp : l.drop (K + 1) = p) (hp : p.all isD = true) (hp6 : p.length ≤ 6) (minus : Bool) (x6 : Int) (d : Nat) : ∀ (k i : Nat), i + d = 6 →
    spillwayref2_Parse.l1 (k + d) ⟨l.toArray⟩ minus K x6 (valN ((p ++ List.replicate (6 - p.length) 48).take i) : Int) p.length i = spillwayref2_Parse.l1 k ⟨l.toArray⟩ minus K x6 (valN (p ++ List.replicate (6 - p.length) 48) : Int) p.length 6 := by
  induction d with
  | zero =>
    intro k i hi
    obtain rfl : i = 6 := by omega
    rw [List.take_of_length_le (by simp; omega), Nat.add_zero, show ((6 : Nat) : Int) = 6 from rfl]
  | succ d ih =>
    intro k i hi
    have hi6 : (i : Int) < 6 := by omega
    obtain ⟨P, hP⟩ : ∃ P, p ++ List.replicate (6 - p.length) 48 = P := ⟨_, rfl⟩
    have hPl : P.length = 6 := by rw [← hP]; simp; omega
    have hPa : P.all isD = true := by
      rw [← hP, List.all_append, hp]
      simp [isD]
    rw [hP] at ih ⊢
    have hiP : i < P.length := by omega
    have ht : P.take (i + 1) = P.take i ++ [P[i]] := by rw [List.take_succ_eq_append_getElem hiP]
    have hdi := List.all_eq_true.1 hPa _ (List.getElem_mem hiP)
    obtain ⟨v1, v2⟩ := dig_val _ hdi
    have hall : (P.take i).all isD = true := by
      rw [List.all_eq_true] at hPa ⊢
      exact fun c hc => hPa c (List.mem_of_mem_take hc)
    have hV := v_lt13 hall (by rw [List.length_take]; omega)
    have h9 : i + 1 + d = 6 := by omega
    have hb : ∀ h : i < p.length, K + 1 + i < l.length ∧ K + 1 + i < 1000 := by omega
    have e2 := w_succ (i := i) (by omega)
    have e6 := w_ten hV v2
    refine Eq.trans ?_ (ih k (i + 1) h9)
    rw [show k + (d + 1) = (k + d) + 1 from rfl]
    conv => lhs; unfold spillwayref2_Parse.l1
    rw [if_pos hi6, e2, ht, val_snoc]
    by_cases c : (i : Int) < (p.length : Int)
    · have hip : i < p.length := Int.ofNat_lt.1 c
      obtain ⟨hil, h10⟩ := hb hip
      have e3 := w_add h10
      have h7 : (0 : Int) ≤ ((K + 1 + i : Nat) : Int) := Int.natCast_nonneg _
      have h8 : ((K + 1 + i : Nat) : Int) < (l.length : Int) := Int.ofNat_lt.2 hil
      have e4 : l[K + 1 + i] = P[i] := by
        have h1 : (l.drop (K + 1))[i]? = p[i]? := by rw [hlp]
        rw [List.getElem?_drop, List.getElem?_eq_getElem hil, List.getElem?_eq_getElem hip] at h1
        have h2 : (p ++ List.replicate (6 - p.length) 48)[i]? = P[i]? := by rw [hP]
        rw [List.getElem?_append_left hip, List.getElem?_eq_getElem hip, List.getElem?_eq_getElem hiP] at h2
        exact (Option.some.inj h1).trans (Option.some.inj h2)
      rw [if_pos c, size_list, e3, if_pos h7, if_pos h8, bt_list l (K + 1 + i) hil, e4, v1, e6]
    · have e4 : P[i] = 48 := by
        subst hP
        rw [List.getElem_append_right (Nat.not_lt.1 (fun h => c (Int.ofNat_lt.2 h))), List.getElem_replicate]
      have e5 : P[i].toNat - 48 = 0 := by rw [e4]; rfl
      have e7 := w_ten0 hV
      rw [if_neg c, e5, e7]
theorem ref_err : (some (false, (0 : Int), false)) = some (refS errS) := rfl
theorem j2_err (k : Nat) (s : ByteArray) (m : Bool) (t : Int) (hk : 0 < k) : spillwayref2_Parse.j2 k s m t true = some (refS errS) := by
  obtain ⟨k, rfl⟩ : ∃ m, k = m + 1 := ⟨k - 1, by omega⟩
  simp only [spillwayref2_Parse.j2, if_true]
  rfl
theorem j4_err (k : Nat) (s : ByteArray) (m : Bool) (a b c d : Int) (hk : 0 < k) : spillwayref2_Parse.j4 k s m a b c d true = some (refS errS) := by
  obtain ⟨k, rfl⟩ : ∃ m, k = m + 1 := ⟨k - 1, by omega⟩
  simp only [spillwayref2_Parse.j4, if_true]
  rfl
theorem ref_ok (minus : Bool) (n : Nat) (h : n < 18446744073709551616) : ((spillwayref2_signed.f (n : Int) minus).bind fun bt => some (bt.1, bt.2, true)) = some (refS (okS (sgn minus (n : Int)))) := by
  rw [signed_eq n minus h]
  rfl
def tailS (neg : Bool) (D r : List UInt8) : Bool × Int × Int :=
  match r with
  | [] => okS (sgn neg ((valN D * 1000000 : Nat) : Int))
  | c :: p => if c = 46 ∧ partOk p = true then okS (sgn neg ((valN D * 1000000 + valN p * 10 ^ (6 - p.length) : Nat) : Int)) else errS
theorem parseT_eq (neg : Bool) (t : List UInt8) : parseT neg t = if headOk (t.takeWhile isD) = true then tailS neg (t.takeWhile isD) (t.dropWhile isD) else errS := by
  unfold parseT tailS
  cases t.dropWhile isD <;> rfl
set_option maxHeartbeats 8000000 in
theorem rj1 (k : Nat) (minus : Bool) (l : List UInt8) (hl : l.length ≤ 500) (hk : 1500 < k) : spillwayref2_Parse.j1 k ⟨l.toArray⟩ minus = some (refS (parseT minus l)) := by
  obtain ⟨k, rfl⟩ : ∃ m, k = m + 4 := ⟨k - 4, by omega⟩
  have hs := List.takeWhile_append_dropWhile (p := isD) (l := l)
  have hm := List.all_eq_true.2 (takeWhile_mem (p := isD) l)
  simp only [spillwayref2_Parse.j1]
  rw [rdigits_eq (k + 3) l (by omega) (by omega), Option.bind_some]
  rw [parseT_eq]
  obtain ⟨D, hD⟩ : ∃ D, l.takeWhile isD = D := ⟨_, rfl⟩
  obtain ⟨r, hr⟩ : ∃ r, l.dropWhile isD = r := ⟨_, rfl⟩
  rw [hD, hr] at hs
  rw [hD] at hm ⊢
  rw [hr]
  have hlen : D.length + r.length = l.length := by rw [← hs, List.length_append]
  unfold headOk
  by_cases c1 : (D.length : Int) < 1
  · rw [if_pos c1, j2_err _ _ _ _ (by omega), decide_eq_false (show ¬ 1 ≤ D.length by omega)]
    rfl
  rw [if_neg c1, decide_eq_true (show 1 ≤ D.length by omega)]
  by_cases c2 : (D.length : Int) > 13
  · rw [if_pos c2, j2_err _ _ _ _ (by omega), decide_eq_false (show ¬ D.length ≤ 13 by omega)]
    rfl
  rw [if_neg c2, decide_eq_true (show D.length ≤ 13 by omega)]
  have htake : l.take D.length = D := by rw [← hs, List.take_left]
  have hdrop : l.drop D.length = r := by rw [← hs, List.drop_left]
  have hDl : D.length ≤ 13 := by omega
  have hDV := v_lt13 hm hDl
  have tail : spillwayref2_Parse.j2 (k + 3) ⟨l.toArray⟩ minus (D.length : Int) false = some (refS (tailS minus D r)) := by
    unfold tailS
    simp only [spillwayref2_Parse.j2, Bool.false_eq_true, if_false]
    have h0 := rl0 l D.length (by omega) (by omega) (by rw [htake]; exact hm) minus D.length (k + 2 - D.length) 0 (by omega)
    rw [show k + 2 - D.length + D.length = k + 2 by omega, htake, List.take_zero] at h0
    refine Eq.trans h0 ?_
    obtain ⟨J, hJ⟩ : ∃ J : Nat, k + 2 - D.length = J + 8 := ⟨k - 6 - D.length, by omega⟩
    rw [hJ]
    unfold spillwayref2_Parse.l0
    rw [size_list, if_neg (by omega)]
    cases r with
    | nil =>
      simp only [List.length_nil] at hlen
      have hb : valN D * 1000000 < 18446744073709551616 := by omega
      rw [if_neg (by omega), w_mil0 hDV]
      exact ref_ok minus _ hb
    | cons c p =>
      simp only [List.length_cons] at hlen
      have hpd : l.drop (D.length + 1) = p := by rw [← List.drop_drop, hdrop]; rfl
      have hlt : D.length < l.length := by omega
      have hc : l[D.length] = c := by
        have := List.drop_eq_getElem_cons hlt
        rw [hdrop] at this
        injection this with h1 h2
        exact h1.symm
      have hp500 : p.length ≤ 1000 := by omega
      have hJ7 : 1001 < J + 7 := by omega
      have f1 : (l.length : Int) > (D.length : Int) := by omega
      have f2 : (0 : Int) ≤ ((D.length + 1 : Nat) : Int) := by omega
      have f3 : ((D.length + 1 : Nat) : Int) ≤ (l.length : Int) := by omega
      have f4 : (0 : Int) ≤ (D.length : Int) := by omega
      have f5 : (D.length : Int) < (l.length : Int) := by omega
      have e1 := w_succ (i := D.length) (by omega)
      rw [if_pos f1, e1, if_pos f2, if_pos f3, Int.toNat_natCast, extract_list, hpd, rdigits_eq (J + 7) p hp500 hJ7, Option.bind_some, if_pos f4, if_pos f5, bt_list l D.length hlt, hc]
      clear e1
      simp only
      by_cases g : c = 46
      · subst g
        rw [if_pos (by rfl)]
        have hps := List.takeWhile_append_dropWhile (p := isD) (l := p)
        have hpl := congrArg List.length hps
        rw [List.length_append] at hpl
        have hpall : (p.takeWhile isD).length = p.length ↔ p.all isD = true := by
          constructor
          · intro h
            have : p.dropWhile isD = [] := List.eq_nil_of_length_eq_zero (by omega)
            rw [this, List.append_nil] at hps
            rw [← hps]
            exact List.all_eq_true.2 (takeWhile_mem (p := isD) p)
          · intro h
            rw [takeWhile_all p (List.all_eq_true.1 h)]
        unfold partOk
        by_cases g1 : ((p.takeWhile isD).length : Int) < 1
        · rw [if_pos g1, j4_err _ _ _ _ _ _ _ (by omega)]
          have : ¬ (p.all isD && decide (1 ≤ p.length) && decide (p.length ≤ 6)) = true := by
            intro h
            simp only [Bool.and_eq_true, decide_eq_true_eq] at h
            have := hpall.2 h.1.1
            omega
          rw [if_neg (fun h => this h.2)]
        rw [if_neg g1]
        by_cases g2 : ((p.takeWhile isD).length : Int) > 6
        · rw [if_pos g2, j4_err _ _ _ _ _ _ _ (by omega)]
          have : ¬ (p.all isD && decide (1 ≤ p.length) && decide (p.length ≤ 6)) = true := by
            intro h
            simp only [Bool.and_eq_true, decide_eq_true_eq] at h
            have := hpall.2 h.1.1
            omega
          rw [if_neg (fun h => this h.2)]
        rw [if_neg g2]
        rw [w_add2 (K := D.length + 1) (i := (p.takeWhile isD).length) (by omega)]
        by_cases g3 : (p.takeWhile isD).length = p.length
        · have hpa := hpall.1 g3
          rw [g3, show (((D.length + 1 + p.length : Nat) : Int) != (l.length : Int)) = false by rw [bne_eq_false_iff_eq]; omega]
          rw [g3] at g1 g2
          have : (p.all isD && decide (1 ≤ p.length) && decide (p.length ≤ 6)) = true := by
            rw [hpa, decide_eq_true (show 1 ≤ p.length by omega), decide_eq_true (show p.length ≤ 6 by omega)]
            rfl
          rw [if_pos ⟨rfl, this⟩]
          simp only [spillwayref2_Parse.j4, Bool.false_eq_true, if_false]
          have h1 := rl1 l p D.length (by omega) (by omega) hpd hpa (by omega) minus (valN D : Int) 6 J 0 (by omega)
          rw [List.take_zero] at h1
          refine Eq.trans h1 ?_
          obtain ⟨I, rfl⟩ : ∃ I : Nat, J = I + 1 := ⟨J - 1, by omega⟩
          unfold spillwayref2_Parse.l1
          rw [if_neg (by omega), valN_append, valN_zeros, List.length_replicate, Nat.add_zero]
          have hb := v_part hpa (by omega)
          generalize valN p * 10 ^ (6 - p.length) = v at *
          have hbb : valN D * 1000000 + v < 18446744073709551616 := by omega
          rw [w_mil hDV hb]
          exact ref_ok minus _ hbb
        · rw [show (((D.length + 1 + (p.takeWhile isD).length : Nat) : Int) != (l.length : Int)) = true by rw [bne_iff_ne]; omega, j4_err _ _ _ _ _ _ _ (by omega)]
          have : ¬ (p.all isD && decide (1 ≤ p.length) && decide (p.length ≤ 6)) = true := by
            intro h
            simp only [Bool.and_eq_true, decide_eq_true_eq] at h
            exact g3 (hpall.2 h.1.1)
          rw [if_neg (fun h => this h.2)]
      · have : ¬ ((c.toNat : Int) = 46) := by
          intro h
          apply g
          apply UInt8.toNat_inj.1
          have : (46 : UInt8).toNat = 46 := rfl
          omega
        rw [if_neg this, j4_err _ _ _ _ _ _ _ (by omega), if_neg (fun h => g h.1)]
  by_cases c3 : (D.length : Int) > 1
  · have hhead : (bt ⟨l.toArray⟩ 0 = 48) ↔ D.head? = some 48 := by
      rw [head_bt l (by omega), ← hs]
      cases D with
      | nil => simp at c3
      | cons c D => simp
    rw [if_pos c3, size_list, if_pos (by omega), decide_eq_true (show 1 < D.length by omega)]
    by_cases g : bt ⟨l.toArray⟩ 0 = 48
    · rw [show (bt ⟨l.toArray⟩ 0 == 48) = true from beq_iff_eq.2 g, j2_err _ _ _ _ (by omega), hhead.1 g]
      rfl
    · have : (D.head? == some 48) = false := beq_eq_false_iff_ne.2 (fun e => g (hhead.2 e))
      rw [show (bt ⟨l.toArray⟩ 0 == 48) = false from beq_eq_false_iff_ne.2 g, this, if_pos (by rfl)]
      exact tail
  · rw [if_neg c3, decide_eq_false (show ¬ 1 < D.length by omega), if_pos (by rfl)]
    exact tail
theorem refparse_eq (k : Nat) (l : List UInt8) (hl : l.length ≤ 500) (hk : 1600 < k) : spillwayref2_Parse.f k ⟨l.toArray⟩ = some (refS (parseS l)) := by
  obtain ⟨k, rfl⟩ : ∃ m, k = m + 1 := ⟨k - 1, by omega⟩
  unfold spillwayref2_Parse.f parseS
  rw [toList_list]
  by_cases h : l = [111, 118, 102]
  · rw [if_pos h, if_pos h]
    rfl
  · rw [if_neg h, if_neg h, size_list]
    cases l with
    | nil =>
      rw [if_neg (by simp)]
      simp only [spillwayref2_Parse.j0, Bool.false_eq_true, if_false]
      rw [rj1 k false [] (by simp) (by omega)]
      rfl
    | cons c r =>
      have hb := bt_list (c :: r) 0 (by simp)
      rw [show (((0 : Nat) : Int)) = 0 from rfl, List.getElem_cons_zero] at hb
      rw [if_pos (by simp only [List.length_cons]; omega), if_pos (by simp only [List.length_cons]; omega), hb, List.head?_cons, List.tail_cons]
      by_cases g : c = 45
      · subst g
        rw [if_pos rfl]
        simp only [spillwayref2_Parse.j0]
        rw [if_pos (by rfl), size_list, if_pos (by simp; omega), extract_list]
        exact rj1 k true r (by simp at hl; omega) (by omega)
      · have : ((c.toNat : Int) == 45) = false := by
          rw [beq_eq_false_iff_ne]
          intro h
          apply g
          apply UInt8.toNat_inj.1
          have : (45 : UInt8).toNat = 45 := rfl
          omega
        rw [this, if_neg (by simpa using g)]
        simp only [spillwayref2_Parse.j0, Bool.false_eq_true, if_false]
        exact rj1 k false (c :: r) hl (by omega)
theorem parseS_err (l : List UInt8) : (parseS l).2.2 = 0 ∨ (parseS l).2.2 = 20 := by
  have ht : ∀ neg t, (parseT neg t).2.2 = 0 ∨ (parseT neg t).2.2 = 20 := by
    intro neg t
    unfold parseT
    split
    · split
      · exact .inl rfl
      · split
        · exact .inl rfl
        · exact .inr rfl
    · exact .inr rfl
  unfold parseS
  split
  · exact .inl rfl
  · split
    · exact ht _ _
    · exact ht _ _
theorem eta_s (s : ByteArray) : s = ⟨s.data.toList.toArray⟩ := by cases s; simp
theorem print_len2 (a : Bool) (x : Int) (hx : R x) : (printS a x).length ≤ 400 := by
  have l1 := dec_len ((ab x).toNat / 1000000) 20 (by omega) (by have := ab_R hx; omega)
  have hb : (bodyS (ab x).toNat).length ≤ 27 := by
    unfold bodyS
    rw [List.length_append]
    split
    · rename_i h
      obtain ⟨p, e, hp, hv, hlast, hpl, hne⟩ := frac_trim ((ab x).toNat % 1000000) (by omega) h
      rw [e, List.length_cons]
      omega
    · simp only [List.length_nil]
      omega
  unfold printS
  split
  · simp
  · split
    · rw [List.length_cons]
      omega
    · omega
theorem FixReads (s : ByteArray) (a : Bool) (n : Int) (w : World) (hg : LaidW w) (hn : R n) :
    Calls Tryd.prog 4 #[.string s, .agg #[.bool a, .int .i64 n]] w fun e w' => e = .returned (.bool true) ∧ Below w.heap.size w w' := by
  by_cases h : 60 < s.size
  · exact reads_long s a n w hg h
  · have hsl : s.data.toList.length ≤ 60 := by
      have := Lib.size_eq s
      omega
    have hP : fix_Parse.f 1700 s = some (parseS s.data.toList) := by
      conv => lhs; rw [eta_s s]
      exact fixparse_eq 1700 _ (by omega) (by omega)
    have hR : spillwayref2_Parse.f 1700 s = some (refS (parseS s.data.toList)) := by
      conv => lhs; rw [eta_s s]
      exact refparse_eq 1700 _ (by omega) (by omega)
    have hpr := fixprint_eq a n hn
    have hpt := fixparse_eq 1700 (printS a n) (by omega) (by have := print_len2 a n hn; omega)
    rw [parse_print a n hn] at hpt
    have he := parseS_err s.data.toList
    obtain ⟨⟨b, m, e0⟩, hq⟩ : ∃ q, parseS s.data.toList = q := ⟨_, rfl⟩
    rw [hq] at hP hR he
    cases ho : over a n
    · rw [ho] at hpt
      obtain ⟨ha, _⟩ := not_over ho
      exact reads_walk 1700 s a n b m e0 _ false n w hg (by omega) hP hR he hpr hpt (by rw [ha]; simp)
    · rw [ho] at hpt
      by_cases hx : a = true ∧ n = 0
      · obtain ⟨rfl, rfl⟩ := hx
        exact reads_walk 1700 s true 0 b m e0 _ true 0 w hg (by omega) hP hR he hpr hpt rfl
      · have hf : (true == a && ((0 : Int) == n)) = false := by
          rw [Bool.eq_false_iff]
          intro h
          simp only [Bool.and_eq_true, beq_iff_eq] at h
          exact hx ⟨h.1.symm, h.2.symm⟩
        have hi : fix_Is.f a n = some false := by
          unfold fix_Is.f
          unfold over isOver at ho
          cases a
          · simp at ho
            subst ho
            rfl
          · have : n ≠ 0 := fun h => hx ⟨rfl, h⟩
            simp [this]
        exact reads_over 1700 s a n b m e0 _ 0 w hg (by omega) hP hR he hpr hpt hf hi
end Go.Proofs.YtjaolddgnijgiaaDoor.PureN
