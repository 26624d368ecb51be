import Derived.Test.YtjaolddgnijgiaaDoorPureNum
import Derived.Test.YtjaolddgnijgiaaDoorPrint16
import Derived.Test.YtjaolddgnijgiaaDoorPrint21
import Derived.Lib.IndexMore
namespace Go.Proofs.YtjaolddgnijgiaaDoor.PureN
open Go.RowKit Go.Proofs.YtjaolddgnijgiaaDoor.Print Go.Proofs.YtjaolddgnijgiaaDoor.Pure Go.Proofs.YtjaolddgnijgiaaDoorW.PrintWords Go.Proofs.YtjaolddgnijgiaaDoorW.PrintLast Go.Proofs.YtjaolddgnijgiaaDoorW.PrintMore
set_option linter.unusedVariables false
set_option linter.unusedSimpArgs false

/-! Texts of numbers. -/
def isD (c : UInt8) : Bool := decide (48 ≤ c.toNat) && decide (c.toNat ≤ 57)
def valF (a : Nat) (l : List UInt8) : Nat := l.foldl (fun a c => a * 10 + (c.toNat - 48)) a
def valN (l : List UInt8) : Nat := valF 0 l
def okS (x : Bool × Int) : Bool × Int × Int := (x.1, x.2, 0)
def errS : Bool × Int × Int := (false, 0, 20)
def headOk (D : List UInt8) : Bool := decide (1 ≤ D.length) && decide (D.length ≤ 13) && !(decide (1 < D.length) && D.head? == some 48)
def partOk (p : List UInt8) : Bool := p.all isD && decide (1 ≤ p.length) && decide (p.length ≤ 6)
/-- A text without its sign. -/
def parseT (neg : Bool) (t : List UInt8) : Bool × Int × Int :=
  if headOk (t.takeWhile isD) then
    match t.dropWhile isD with
    | [] => okS (sgn neg ((valN (t.takeWhile isD) * 1000000 : Nat) : Int))
    | c :: p => if c = 46 ∧ partOk p = true then okS (sgn neg ((valN (t.takeWhile isD) * 1000000 + valN p * 10 ^ (6 - p.length) : Nat) : Int)) else errS
  else errS
def parseS (s : List UInt8) : Bool × Int × Int :=
  if s = [111, 118, 102] then (true, 0, 0) else if s.head? = some 45 then parseT true s.tail else parseT false s

theorem valF_append (a : Nat) (l m : List UInt8) : valF a (l ++ m) = valF (valF a l) m := by
  unfold valF
  rw [List.foldl_append]
theorem valF_lin : ∀ (l : List UInt8) (a : Nat), valF a l = a * 10 ^ l.length + valN l
  | [], a => by simp [valN, valF]
  | c :: l, a => by
    have h1 := valF_lin l (a * 10 + (c.toNat - 48))
    have h2 := valF_lin l (0 * 10 + (c.toNat - 48))
    show valF (a * 10 + (c.toNat - 48)) l = a * 10 ^ (l.length + 1) + valF (0 * 10 + (c.toNat - 48)) l
    rw [h1, h2, Nat.pow_succ, Nat.add_mul, Nat.add_mul]
    have : a * 10 * 10 ^ l.length = a * (10 ^ l.length * 10) := by rw [Nat.mul_assoc, Nat.mul_comm 10]
    rw [this]
    omega
theorem valN_append (l m : List UInt8) : valN (l ++ m) = valN l * 10 ^ m.length + valN m := by
  unfold valN
  rw [valF_append, valF_lin m]
  rfl
theorem valN_zeros (n : Nat) : valN (List.replicate n 48) = 0 := by
  induction n with
  | zero => rfl
  | succ n ih =>
    rw [List.replicate_succ', valN_append, ih]
    rfl
theorem valN_lt (l : List UInt8) (h : l.all isD = true) : valN l < 10 ^ l.length := by
  induction l with
  | nil => simp [valN, valF]
  | cons c l ih =>
    simp only [List.all_cons, Bool.and_eq_true] at h
    have h1 := ih h.2
    have hc : c.toNat ≤ 57 := by
      have := h.1
      unfold isD at this
      simp at this
      omega
    have e := valN_append [c] l
    rw [List.singleton_append] at e
    rw [e, List.length_cons, Nat.pow_succ]
    have : valN [c] ≤ 9 := by
      unfold valN valF
      simp
      omega
    have := Nat.mul_le_mul_right (10 ^ l.length) this
    omega
theorem parseUintM_ok (M : Nat) (hM : M = 18446744073709551615) : ∀ (l : List UInt8) (a : Nat), l.all isD = true → valF a l ≤ 9999999999999999999 → (l ≠ [] → a ≤ 999999999999999999) → Lib.parseUintM M a l = .ok (valF a l)
  | [], a, _, _, _ => rfl
  | c :: l, a, h, hv, ha => by
    simp only [List.all_cons, Bool.and_eq_true] at h
    have hc : 48 ≤ c.toNat ∧ c.toNat ≤ 57 := by
      have := h.1
      unfold isD at this
      simpa using this
    have ha := ha (by simp)
    have e : valF a (c :: l) = valF (a * 10 + (c.toNat - 48)) l := rfl
    rw [e] at hv ⊢
    have h3 := valF_lin l (a * 10 + (c.toNat - 48))
    have hp : 1 ≤ 10 ^ l.length := Nat.one_le_pow _ _ (by omega)
    have h4 := Nat.mul_le_mul_left (a * 10 + (c.toNat - 48)) hp
    unfold Lib.parseUintM
    rw [if_pos hc, if_neg (by omega), if_neg (by omega)]
    refine parseUintM_ok M hM l _ h.2 hv (fun hl => ?_)
    have hp2 : 10 ≤ 10 ^ l.length := by
      cases l with
      | nil => exact absurd rfl hl
      | cons d l =>
        rw [List.length_cons, Nat.pow_succ]
        have : 1 ≤ 10 ^ l.length := Nat.one_le_pow _ _ (by omega)
        omega
    have h5 := Nat.mul_le_mul_left (a * 10 + (c.toNat - 48)) hp2
    omega
theorem parseUint_ok (l : List UInt8) (hl : l ≠ []) (h : l.all isD = true) (hn : l.length ≤ 19) : Lib.parseUintB 64 l = .ok (valN l) := by
  unfold Lib.parseUintB
  rw [if_neg hl]
  have h1 := valN_lt l h
  have h2 : 10 ^ l.length ≤ 10 ^ 19 := Nat.pow_le_pow_right (by omega) hn
  exact parseUintM_ok _ (by decide) l 0 h (by unfold valN at h1; omega) (by omega)

theorem bt_list (l : List UInt8) (i : Nat) (h : i < l.length) : bt ⟨l.toArray⟩ (i : Int) = (l[i].toNat : Int) := by
  have h2 : ((i : Int).toNat) < (⟨l.toArray⟩ : ByteArray).size := by simpa [ByteArray.size] using h
  rw [← bt_at _ _ h2]
  rfl
theorem size_list (l : List UInt8) : (⟨l.toArray⟩ : ByteArray).size = l.length := rfl
theorem digits_l0 (l : List UInt8) (least most : Int) (hl : l.length ≤ 1000) (d : Nat) : ∀ (k i : Nat), i + d = l.length → d < k → (l.take i).all isD = true →
    fix_digits.l0 k ⟨l.toArray⟩ least most (l.length : Int) i = some (l.all isD && decide (least ≤ (l.length : Int)) && decide ((l.length : Int) ≤ most)) := by
  induction d with
  | zero =>
    intro k i hi hk ha
    obtain ⟨m, rfl⟩ : ∃ m, k = m + 1 := ⟨k - 1, by omega⟩
    obtain rfl : i = l.length := by omega
    rw [List.take_length] at ha
    simp only [fix_digits.l0]
    rw [if_neg (by omega), size_list, ha]
    by_cases c : (l.length : Int) ≥ least
    · rw [if_pos c, show decide (least ≤ (l.length : Int)) = true from decide_eq_true c]
      simp
    · rw [if_neg c, show decide (least ≤ (l.length : Int)) = false from decide_eq_false c]
      simp
  | succ d ih =>
    intro k i hi hk ha
    obtain ⟨m, rfl⟩ : ∃ m, k = m + 1 := ⟨k - 1, by omega⟩
    have hil : i < l.length := by omega
    have ht : l.take (i + 1) = l.take i ++ [l[i]] := by rw [List.take_succ_eq_append_getElem hil]
    have no : isD l[i] = false → l.all isD = false := fun hd => by
      rw [List.all_eq_false]
      exact ⟨l[i], List.getElem_mem hil, by simp [hd]⟩
    have e2 : wrap64 ((i : Int) + 1) = ((i + 1 : Nat) : Int) := by rw [wrap_id (by omega) (by omega)]; omega
    simp only [fix_digits.l0]
    rw [size_list, if_pos (by omega), if_pos (by omega), if_pos (by omega), bt_list l i hil, e2]
    by_cases c1 : (l[i].toNat : Int) < 48
    · rw [if_pos c1, no (by unfold isD; simp; omega)]
      simp
    · rw [if_neg c1]
      by_cases c2 : (l[i].toNat : Int) > 57
      · rw [if_pos c2, no (by unfold isD; simp; omega)]
        simp
      · rw [if_neg c2]
        refine ih m (i + 1) (by omega) (by omega) ?_
        rw [ht, List.all_append, ha]
        unfold isD
        simp
        omega
theorem digits_eq (k : Nat) (l : List UInt8) (least most : Int) (hl : l.length ≤ 1000) (hk : 1001 < k) : fix_digits.f k ⟨l.toArray⟩ least most = some (l.all isD && decide (least ≤ (l.length : Int)) && decide ((l.length : Int) ≤ most)) := by
  have h := digits_l0 l least most hl l.length k 0 (by omega) (by omega) rfl
  exact h

theorem index_dot : ∀ t : List UInt8, Lib.index t [46] = if t.any (· == 46) then ((t.takeWhile (· != 46)).length : Int) else -1
  | [] => by simp [Lib.index]
  | b :: t => by
    unfold Lib.index
    rw [index_dot t]
    by_cases c : b = 46
    · subst c
      simp
    · have c1 : (b == 46) = false := beq_eq_false_iff_ne.mpr c
      have c2 : ((46 : UInt8) == b) = false := beq_eq_false_iff_ne.mpr (fun e => c e.symm)
      have c3 : (b != 46) = true := by simp [c]
      rw [List.any_cons, c1, List.takeWhile_cons, c3, Bool.false_or]
      simp only [List.isPrefixOf, c2, Bool.false_and, Bool.false_eq_true, if_false, if_true, List.length_cons]
      cases hh : t.any (· == 46)
      · simp
      · simp only [if_true]
        have : (((t.takeWhile (· != 46)).length : Int) == -1) = false := beq_eq_false_iff_ne.mpr (by omega)
        rw [this]
        simp
theorem dropWhile_all {p : UInt8 → Bool} : ∀ (l : List UInt8), (∀ c ∈ l, p c = true) → l.dropWhile p = []
  | [], _ => rfl
  | c :: l, h => by
    rw [List.dropWhile_cons, h c (by simp)]
    exact dropWhile_all l (fun d hd => h d (by simp [hd]))
theorem takeWhile_all {p : UInt8 → Bool} (l : List UInt8) (h : ∀ c ∈ l, p c = true) : l.takeWhile p = l := by
  have := List.takeWhile_append_dropWhile (p := p) (l := l)
  rwa [dropWhile_all l h, List.append_nil] at this
theorem takeWhile_app {p : UInt8 → Bool} : ∀ (l m : List UInt8), (∀ c ∈ l, p c = true) → (l ++ m).takeWhile p = l ++ m.takeWhile p
  | [], m, _ => rfl
  | c :: l, m, h => by
    rw [List.cons_append, List.takeWhile_cons, h c (by simp)]
    simp only [if_true, List.cons_append]
    rw [takeWhile_app l m (fun d hd => h d (by simp [hd]))]
theorem dropWhile_app {p : UInt8 → Bool} : ∀ (l m : List UInt8), (∀ c ∈ l, p c = true) → (l ++ m).dropWhile p = m.dropWhile p
  | [], m, _ => rfl
  | c :: l, m, h => by
    rw [List.cons_append, List.dropWhile_cons, h c (by simp)]
    simp only [if_true]
    exact dropWhile_app l m (fun d hd => h d (by simp [hd]))
theorem cut_dot (t : List UInt8) : Lib.cut t [46] = (t.takeWhile (· != 46), (t.dropWhile (· != 46)).tail, t.any (· == 46)) := by
  unfold Lib.cut
  rw [index_dot]
  have hs := List.takeWhile_append_dropWhile (p := fun c : UInt8 => c != 46) (l := t)
  cases h : t.any (· == 46)
  · rw [if_neg (by simp)]
    have ha : ∀ c ∈ t, (c != 46) = true := by
      intro c hc
      have := List.any_eq_false.1 h c hc
      simpa using this
    have e0 : t.dropWhile (fun c => c != 46) = [] := by
      exact dropWhile_all t ha
    rw [e0, List.append_nil] at hs
    rw [e0, hs]
    rfl
  · rw [if_pos (by simp)]
    simp only [if_true, Int.toNat_natCast, List.length_singleton]
    have e1 : t.take (t.takeWhile (· != 46)).length = t.takeWhile (· != 46) := by
      conv => lhs; arg 2; rw [← hs]
      exact List.take_left
    have e2 : t.drop (t.takeWhile (· != 46)).length = t.dropWhile (· != 46) := by
      conv => lhs; arg 2; rw [← hs]
      exact List.drop_left
    rw [e1, ← List.drop_drop, e2, List.drop_one]
theorem toList_list (l : List UInt8) : (⟨l.toArray⟩ : ByteArray).toList = l := by
  have h := Lib.extract_toList ⟨l.toArray⟩ 0 l.length
  simp at h
  have e : (⟨l.toArray⟩ : ByteArray).extract 0 l.length = ⟨l.toArray⟩ := by
    rw [ByteArray.extract_mk]
    simp
  rw [e] at h
  exact h
theorem app_list (l m : List UInt8) : ((⟨l.toArray⟩ : ByteArray) ++ ⟨m.toArray⟩) = ⟨(l ++ m).toArray⟩ := by
  rw [ByteArray.mk_append_mk]
theorem isD_dot {c : UInt8} (h : isD c = true) : (c != 46) = true := by
  unfold isD at h
  rw [bne_iff_ne]
  rintro rfl
  simp at h
theorem hasPrefix_minus (l : List UInt8) : Lib.hasPrefix l [45] = (l.head? == some 45) := by
  unfold Lib.hasPrefix
  cases l with
  | nil => rfl
  | cons c l =>
    simp only [List.isPrefixOf, Bool.and_true, List.head?_cons]
    by_cases h : c = 45
    · subst h
      rfl
    · rw [beq_eq_false_iff_ne.mpr (fun e => h e.symm), show (some c == some (45 : UInt8)) = false from beq_eq_false_iff_ne.mpr (by simpa using h)]
theorem trimPrefix_minus (l : List UInt8) : Lib.trimPrefix l [45] = if l.head? = some 45 then l.tail else l := by
  unfold Lib.trimPrefix
  rw [hasPrefix_minus]
  by_cases h : l.head? = some 45
  · rw [if_pos (by simpa using h), if_pos h, List.length_singleton, List.drop_one]
  · rw [if_neg (by simpa using h), if_neg h]
theorem repeat_zero (n : Nat) : Lib.repeatL [48] n = List.replicate n 48 := by
  induction n with
  | zero => rfl
  | succ n ih => rw [Lib.repeatL, ih, List.replicate_succ]; rfl
/-- What fix.Parse does with the two parts of a text. -/
def partsS (neg : Bool) (w p : List UInt8) (least : Int) : Bool × Int × Int :=
  if w.all isD && decide (1 ≤ w.length) && decide (w.length ≤ 13) && !(decide (1 < w.length) && w.head? == some 48) && (p.all isD && decide (least ≤ (p.length : Int)) && decide (p.length ≤ 6)) then
    okS (sgn neg ((valN w * 1000000 + valN p * 10 ^ (6 - p.length) : Nat) : Int)) else errS
theorem j2_eq (k : Nat) (neg : Bool) (n : Nat) (hk : 30 < k) (hn : n < 18446744073709551616) : fix_Parse.j2 k neg (n : Int) (decide ((n : Int) > 9223372036854775807)) = some (okS (sgn neg (n : Int))) := by
  obtain ⟨k, rfl⟩ : ∃ m, k = m + 1 := ⟨k - 1, by omega⟩
  simp only [fix_Parse.j2]
  by_cases c : (n : Int) > 9223372036854775807
  · rw [if_pos (decide_eq_true c)]
    unfold okS sgn
    rw [if_pos (by omega)]
    rfl
  · rw [if_neg (by simpa using c), scaled_eq k neg n 1 1 (by omega) (by omega) (by omega) (by omega) (by omega) (by omega) (by omega), Option.bind_some, Int.mul_one, Int.ediv_one]
    rfl
theorem j1_eq (k : Nat) (neg : Bool) (w p : List UInt8) (hk : 40 < k) (hw : w.all isD = true) (hw1 : 1 ≤ w.length) (hw2 : w.length ≤ 13) (hp : p.all isD = true) (hp2 : p.length ≤ 6) :
    fix_Parse.j1 k neg ⟨w.toArray⟩ ⟨p.toArray⟩ false = some (okS (sgn neg ((valN w * 1000000 + valN p * 10 ^ (6 - p.length) : Nat) : Int))) := by
  obtain ⟨k, rfl⟩ : ∃ m, k = m + 1 := ⟨k - 1, by omega⟩
  have e6 : wrap64 (6 - (p.length : Int)) = ((6 - p.length : Nat) : Int) := by rw [wrap_id (by omega) (by omega)]; omega
  have z : ((⟨#[48]⟩ : ByteArray).data.toList) = [48] := rfl
  have hlen : ((w ++ p) ++ List.replicate (6 - p.length) 48).length = w.length + 6 := by simp; omega
  have hall : ((w ++ p) ++ List.replicate (6 - p.length) 48).all isD = true := by
    rw [List.all_append, List.all_append, hw, hp]
    simp [isD]
  have hval : valN ((w ++ p) ++ List.replicate (6 - p.length) 48) = valN w * 1000000 + valN p * 10 ^ (6 - p.length) := by
    rw [valN_append, valN_append, valN_zeros, List.length_replicate, Nat.add_zero, Nat.add_mul, Nat.mul_assoc, ← Nat.pow_add, show p.length + (6 - p.length) = 6 by omega]
  simp only [fix_Parse.j1, Bool.false_eq_true, if_false]
  rw [size_list, size_list, if_pos (by omega)]
  unfold strings_Repeat.f
  have hn1 : (⟨#[48]⟩ : ByteArray).size = 1 := rfl
  rw [e6, hn1, if_pos ⟨by omega, by omega, by omega⟩, Option.bind_some, Int.toNat_natCast, z, repeat_zero, app_list, app_list, size_list, size_list, if_pos (by simp; omega)]
  unfold strconv_ParseUint.f
  rw [size_list, if_pos ⟨rfl, rfl, by rw [hlen]; omega⟩]
  simp only
  rw [parseUint_ok _ (by intro e; rw [e] at hlen; simp at hlen) hall (by omega), hval]
  have hb : valN w * 1000000 + valN p * 10 ^ (6 - p.length) < 18446744073709551616 := by
    have h1 := valN_lt _ hall
    rw [hval, hlen] at h1
    have h2 : 10 ^ (w.length + 6) ≤ 10 ^ 19 := Nat.pow_le_pow_right (by omega) (by omega)
    omega
  simp only [Option.bind_some, Option.isNone_none, if_true]
  exact j2_eq k neg _ (by omega) hb
theorem j1_err (k : Nat) (neg : Bool) (w p : ByteArray) (hk : 0 < k) : fix_Parse.j1 k neg w p true = some errS := by
  obtain ⟨k, rfl⟩ : ∃ m, k = m + 1 := ⟨k - 1, by omega⟩
  simp only [fix_Parse.j1, if_true]
  rfl
theorem head_bt (w : List UInt8) (h : 0 < w.length) : (bt ⟨w.toArray⟩ 0 = 48) ↔ w.head? = some 48 := by
  have e := bt_list w 0 h
  rw [show (((0 : Nat) : Int)) = 0 from rfl] at e
  rw [e]
  cases w with
  | nil => simp at h
  | cons c w =>
    simp only [List.getElem_cons_zero, List.head?_cons, Option.some.injEq]
    constructor
    · intro h
      apply UInt8.toNat_inj.1
      have : (48 : UInt8).toNat = 48 := rfl
      omega
    · rintro rfl
      rfl
theorem j0_eq (k : Nat) (neg : Bool) (w p : List UInt8) (least : Int) (hk : 1100 < k) (hw : w.length ≤ 1000) (hp : p.length ≤ 1000) : fix_Parse.j0 k neg ⟨w.toArray⟩ ⟨p.toArray⟩ least = some (partsS neg w p least) := by
  obtain ⟨k, rfl⟩ : ∃ m, k = m + 1 := ⟨k - 1, by omega⟩
  simp only [fix_Parse.j0]
  rw [digits_eq k w 1 13 hw (by omega), Option.bind_some, digits_eq k p least 6 hp (by omega), size_list]
  unfold partsS
  have d1 : decide ((1 : Int) ≤ (w.length : Int)) = decide (1 ≤ w.length) := decide_eq_decide.2 (by omega)
  have d2 : decide ((w.length : Int) ≤ 13) = decide (w.length ≤ 13) := decide_eq_decide.2 (by omega)
  have d3 : decide ((p.length : Int) ≤ 6) = decide (p.length ≤ 6) := decide_eq_decide.2 (by omega)
  rw [d1, d2, d3]
  cases h1 : w.all isD && decide (1 ≤ w.length) && decide (w.length ≤ 13)
  · rw [if_neg (by simp), j1_err k neg _ _ (by omega)]
    simp
  · rw [if_pos rfl]
    simp only [Bool.and_eq_true, decide_eq_true_eq] at h1
    obtain ⟨⟨h1, h2⟩, h3⟩ := h1
    have tl : fix_Parse.j1 k neg ⟨w.toArray⟩ ⟨p.toArray⟩ (!(p.all isD && decide (least ≤ (p.length : Int)) && decide (p.length ≤ 6))) = some (if (p.all isD && decide (least ≤ (p.length : Int)) && decide (p.length ≤ 6)) = true then okS (sgn neg ((valN w * 1000000 + valN p * 10 ^ (6 - p.length) : Nat) : Int)) else errS) := by
      cases g : p.all isD && decide (least ≤ (p.length : Int)) && decide (p.length ≤ 6)
      · rw [if_neg (by simp)]
        exact j1_err k neg _ _ (by omega)
      · rw [if_pos rfl]
        simp only [Bool.and_eq_true, decide_eq_true_eq] at g
        exact j1_eq k neg w p (by omega) h1 h2 h3 g.1.1 g.2
    by_cases c : (w.length : Int) > 1
    · rw [if_pos c, if_pos (by omega)]
      have d4 : decide (1 < w.length) = true := decide_eq_true (by omega)
      by_cases c2 : bt ⟨w.toArray⟩ 0 = 48
      · have := (head_bt w (by omega)).1 c2
        rw [if_pos c2, j1_err k neg _ _ (by omega), d4, this]
        simp
      · have : (w.head? == some 48) = false := by
          rw [beq_eq_false_iff_ne]
          exact fun e => c2 ((head_bt w (by omega)).2 e)
        rw [if_neg c2, Option.bind_some, tl, d4, this]
        simp
    · have d4 : decide (1 < w.length) = false := decide_eq_false (by omega)
      rw [if_neg c, Option.bind_some, tl, d4]
      simp
theorem takeWhile_mem {p : UInt8 → Bool} : ∀ (l : List UInt8), ∀ c ∈ l.takeWhile p, p c = true
  | [], c, h => by simp at h
  | d :: l, c, h => by
    rw [List.takeWhile_cons] at h
    by_cases g : p d = true
    · rw [if_pos g] at h
      rcases List.mem_cons.1 h with rfl | h
      · exact g
      · exact takeWhile_mem l c h
    · rw [if_neg g] at h
      simp at h
theorem dropWhile_head {p : UInt8 → Bool} : ∀ (l : List UInt8) (c : UInt8) (r : List UInt8), l.dropWhile p = c :: r → p c = false
  | [], c, r, h => by simp at h
  | d :: l, c, r, h => by
    rw [List.dropWhile_cons] at h
    by_cases g : p d = true
    · rw [if_pos g] at h
      exact dropWhile_head l c r h
    · rw [if_neg g] at h
      injection h with h1 h2
      subst h1
      simpa using g
theorem parts_parseT (neg : Bool) (t : List UInt8) : partsS neg (t.takeWhile (· != 46)) ((t.dropWhile (· != 46)).tail) (if t.any (· == 46) = true then 1 else 0) = parseT neg t := by
  have hs := List.takeWhile_append_dropWhile (p := isD) (l := t)
  have hm := takeWhile_mem (p := isD) t
  have hd := fun c r => dropWhile_head (p := isD) t c r
  unfold parseT
  obtain ⟨D, hD⟩ : ∃ D, t.takeWhile isD = D := ⟨_, rfl⟩
  obtain ⟨r, hr⟩ : ∃ r, t.dropWhile isD = r := ⟨_, rfl⟩
  rw [hD, hr] at hs
  rw [hD] at hm ⊢
  rw [hr] at hd ⊢
  subst hs
  have hall : D.all isD = true := List.all_eq_true.2 hm
  have h46 : ∀ c ∈ D, (c != 46) = true := fun c hc => isD_dot (hm c hc)
  have hany : D.any (· == 46) = false := by
    rw [List.any_eq_false]
    intro c hc
    have := h46 c hc
    simpa using this
  rw [takeWhile_app D r h46, dropWhile_app D r h46, List.any_append, hany, Bool.false_or]
  unfold partsS headOk
  cases r with
  | nil =>
    simp only [List.takeWhile_nil, List.dropWhile_nil, List.append_nil, List.tail_nil, List.any_nil, hall, Bool.true_and, List.all_nil, List.length_nil, Bool.false_eq_true, if_false]
    have v : valN [] = 0 := rfl
    simp [v]
  | cons c r =>
    have hc := hd c r rfl
    by_cases g : c = 46
    · subst g
      have e1 : (46 :: r).takeWhile (fun c : UInt8 => c != 46) = [] := by simp
      have e2 : (46 :: r).dropWhile (fun c : UInt8 => c != 46) = 46 :: r := by simp
      rw [e1, e2, List.append_nil]
      simp only [List.any_cons, beq_self_eq_true, Bool.true_or, if_true, List.tail_cons, hall, Bool.true_and, true_and]
      unfold partOk
      have d3 : decide ((1 : Int) ≤ (r.length : Int)) = decide (1 ≤ r.length) := decide_eq_decide.2 (by omega)
      rw [d3]
      by_cases h1 : (decide (1 ≤ D.length) && decide (D.length ≤ 13) && !(decide (1 < D.length) && D.head? == some 48)) = true
      · rw [h1]
        simp only [Bool.true_and, if_true]
        first | rfl | congr
      · rw [Bool.eq_false_iff.2 h1]
        simp
    · have e1 : (c :: r).takeWhile (fun c : UInt8 => c != 46) = c :: r.takeWhile (fun c : UInt8 => c != 46) := by
        rw [List.takeWhile_cons, if_pos (by simpa using g)]
      rw [e1]
      have : (D ++ c :: r.takeWhile (fun c : UInt8 => c != 46)).all isD = false := by
        rw [List.all_append, List.all_cons, hc]
        simp
      rw [this]
      simp [g]
theorem fixparse_eq (k : Nat) (l : List UInt8) (hk : 1200 < k) (hl : l.length ≤ 500) : fix_Parse.f k ⟨l.toArray⟩ = some (parseS l) := by
  unfold fix_Parse.f parseS
  rw [toList_list]
  by_cases h : l = [111, 118, 102]
  · rw [if_pos h, if_pos h]
    rfl
  · rw [if_neg h, if_neg h]
    unfold strings_CutPrefix.f
    rw [Option.bind_some]
    simp only
    rw [trimPrefix_minus, hasPrefix_minus]
    obtain ⟨t, ht⟩ : ∃ t, (if l.head? = some 45 then l.tail else l) = t := ⟨_, rfl⟩
    have htl : t.length ≤ 500 := by
      rw [← ht]
      split
      · rw [List.length_tail]
        omega
      · exact hl
    rw [ht]
    unfold strings_Cut.f
    rw [size_list, if_pos (by omega), Option.bind_some]
    simp only
    rw [cut_dot]
    have l1 : (t.takeWhile (· != 46)).length ≤ 1000 := by
      have := (List.takeWhile_sublist (fun c : UInt8 => c != 46) (l := t)).length_le
      omega
    have l2 : ((t.dropWhile (· != 46)).tail).length ≤ 1000 := by
      have := (List.dropWhile_sublist (fun c : UInt8 => c != 46) (l := t)).length_le
      rw [List.length_tail]
      omega
    have e : (if (if l.head? = some 45 then l.tail else l) = t then parseT (l.head? == some 45) t else errS) = (if l.head? = some 45 then parseT true l.tail else parseT false l) := by
      rw [if_pos ht, ← ht]
      by_cases g : l.head? = some 45
      · rw [if_pos g, if_pos g, g]
        rfl
      · rw [if_neg g, if_neg g, beq_eq_false_iff_ne.mpr g]
    rw [if_pos ht] at e
    rw [← e, ← parts_parseT]
    cases h46 : t.any (· == 46)
    · rw [if_neg (by simp), if_neg (by simp), j0_eq k _ _ _ 0 (by omega) l1 l2]
    · rw [if_pos rfl, if_pos rfl, j0_eq k _ _ _ 1 (by omega) l1 l2]
end Go.Proofs.YtjaolddgnijgiaaDoor.PureN
