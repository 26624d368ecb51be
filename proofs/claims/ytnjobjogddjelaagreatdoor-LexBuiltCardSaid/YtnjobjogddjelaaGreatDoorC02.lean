/- A part of the proof of LexBuilt: what the functions that the law reaches come to. -/
import Derived.Test.YtnjobjogddjelaaGreatDoorC01
import Derived.Lib.IndexMore
import Derived.Lib.ItoaNum
import Derived.Shelf.Strings.BuilderK
import Derived.Laws.CopyOwn
set_option linter.unusedVariables false
set_option linter.unusedSimpArgs false
section
namespace Go.Proofs.YtnjobjogddjelaaGreatDoor.PureN
open Go.RowKit Go.Proofs.YtnjobjogddjelaaGreatDoor.Print Go.Proofs.YtnjobjogddjelaaGreatDoor.Pure Go.Proofs.YtnjobjogddjelaaGreatDoorW.PrintWords Go.Proofs.YtnjobjogddjelaaGreatDoorW.PrintLast Go.Proofs.YtnjobjogddjelaaGreatDoorW.PrintMore

/-! Texts of numbers. -/
def isD (c : UInt8) : Bool := decide (48 ≤ c.toNat) && decide (c.toNat ≤ 57)
def valF (a : Nat) (l : List UInt8) : Nat := l.foldl (fun a c => a * 10 + (c.toNat - 48)) a
def valN (l : List UInt8) : Nat := valF 0 l
def okS (x : Bool × Int) : Bool × Int × Int := (x.1, x.2, 0)
def errS : Bool × Int × Int := (false, 0, 20)
def headOk (D : List UInt8) : Bool := decide (1 ≤ D.length) && decide (D.length ≤ 13) && !(decide (1 < D.length) && D.head? == some 48)
def partOk (p : List UInt8) : Bool := p.all isD && decide (1 ≤ p.length) && decide (p.length ≤ 6)
/-- A text without its sign. -/
def parseT (neg : Bool) (t : List UInt8) : Bool × Int × Int :=
 if headOk (t.takeWhile isD) then
  match t.dropWhile isD with
  | [] => okS (sgn neg ((valN (t.takeWhile isD) * 1000000 : Nat) : Int))
  | c :: p => if c = 46 ∧ partOk p = true then okS (sgn neg ((valN (t.takeWhile isD) * 1000000 + valN p * 10 ^ (6 - p.length) : Nat) : Int)) else errS
 else errS
def parseS (s : List UInt8) : Bool × Int × Int :=
 if s = [111, 118, 102] then (true, 0, 0) else if s.head? = some 45 then parseT true s.tail else parseT false s

theorem valF_append (a : Nat) (l m : List UInt8) : valF a (l ++ m) = valF (valF a l) m := by
 unfold valF
 rw [List.foldl_append]
theorem valF_lin : ∀ (l : List UInt8) (a : Nat), valF a l = a * 10 ^ l.length + valN l
 | [], a => by simp [valN, valF]
 | c :: l, a => by
  have h1 := valF_lin l (a * 10 + (c.toNat - 48))
  have h2 := valF_lin l (0 * 10 + (c.toNat - 48))
  show valF (a * 10 + (c.toNat - 48)) l = a * 10 ^ (l.length + 1) + valF (0 * 10 + (c.toNat - 48)) l
  rw [h1, h2, Nat.pow_succ, Nat.add_mul, Nat.add_mul]
  have : a * 10 * 10 ^ l.length = a * (10 ^ l.length * 10) := by rw [Nat.mul_assoc, Nat.mul_comm 10]
  rw [this]
  omega
theorem valN_append (l m : List UInt8) : valN (l ++ m) = valN l * 10 ^ m.length + valN m := by
 unfold valN
 rw [valF_append, valF_lin m]
 rfl
theorem valN_zeros (n : Nat) : valN (List.replicate n 48) = 0 := by
 induction n with
 | zero => rfl
 | succ n ih =>
  rw [List.replicate_succ', valN_append, ih]
  rfl
theorem valN_lt (l : List UInt8) (h : l.all isD = true) : valN l < 10 ^ l.length := by
 induction l with
 | nil => simp [valN, valF]
 | cons c l ih =>
  simp only [List.all_cons, Bool.and_eq_true] at h
  have h1 := ih h.2
  have hc : c.toNat ≤ 57 := by
   have := h.1
   unfold isD at this
   simp at this
   omega
  have e := valN_append [c] l
  rw [List.singleton_append] at e
  rw [e, List.length_cons, Nat.pow_succ]
  have : valN [c] ≤ 9 := by
   unfold valN valF
   simp
   omega
  have := Nat.mul_le_mul_right (10 ^ l.length) this
  omega
theorem parseUintM_ok (M : Nat) (hM : M = 18446744073709551615) : ∀ (l : List UInt8) (a : Nat), l.all isD = true → valF a l ≤ 9999999999999999999 → (l ≠ [] → a ≤ 999999999999999999) → Lib.parseUintM M a l = .ok (valF a l)
 | [], a, _, _, _ => rfl
 | c :: l, a, h, hv, ha => by
  simp only [List.all_cons, Bool.and_eq_true] at h
  have hc : 48 ≤ c.toNat ∧ c.toNat ≤ 57 := by
   have := h.1
   unfold isD at this
   simpa using this
  have ha := ha (by simp)
  have e : valF a (c :: l) = valF (a * 10 + (c.toNat - 48)) l := rfl
  rw [e] at hv ⊢
  have h3 := valF_lin l (a * 10 + (c.toNat - 48))
  have hp : 1 ≤ 10 ^ l.length := Nat.one_le_pow _ _ (by omega)
  have h4 := Nat.mul_le_mul_left (a * 10 + (c.toNat - 48)) hp
  unfold Lib.parseUintM
  rw [if_pos hc, if_neg (by omega), if_neg (by omega)]
  refine parseUintM_ok M hM l _ h.2 hv (fun hl => ?_)
  have hp2 : 10 ≤ 10 ^ l.length := by
   cases l with
   | nil => exact absurd rfl hl
   | cons d l =>
    rw [List.length_cons, Nat.pow_succ]
    have : 1 ≤ 10 ^ l.length := Nat.one_le_pow _ _ (by omega)
    omega
  have h5 := Nat.mul_le_mul_left (a * 10 + (c.toNat - 48)) hp2
  omega
theorem parseUint_ok (l : List UInt8) (hl : l ≠ []) (h : l.all isD = true) (hn : l.length ≤ 19) : Lib.parseUintB 64 l = .ok (valN l) := by
 unfold Lib.parseUintB
 rw [if_neg hl]
 have h1 := valN_lt l h
 have h2 : 10 ^ l.length ≤ 10 ^ 19 := Nat.pow_le_pow_right (by omega) hn
 exact parseUintM_ok _ (by decide) l 0 h (by unfold valN at h1; omega) (by omega)

theorem bt_list (l : List UInt8) (i : Nat) (h : i < l.length) : bt ⟨l.toArray⟩ (i : Int) = (l[i].toNat : Int) := by
 have h2 : ((i : Int).toNat) < (⟨l.toArray⟩ : ByteArray).size := by simpa [ByteArray.size] using h
 rw [← bt_at _ _ h2]
 rfl
theorem size_list (l : List UInt8) : (⟨l.toArray⟩ : ByteArray).size = l.length := rfl
theorem digits_l0 (l : List UInt8) (least most : Int) (hl : l.length ≤ 1000) (d : Nat) : ∀ (k i : Nat), i + d = l.length → d < k → (l.take i).all isD = true →
  fix_digits.l0 k ⟨l.toArray⟩ least most (l.length : Int) i = some (l.all isD && decide (least ≤ (l.length : Int)) && decide ((l.length : Int) ≤ most)) := by
 induction d with
 | zero =>
  intro k i hi hk ha
  obtain ⟨m, rfl⟩ : ∃ m, k = m + 1 := ⟨k - 1, by omega⟩
  obtain rfl : i = l.length := by omega
  rw [List.take_length] at ha
  simp only [fix_digits.l0]
  rw [if_neg (by omega), size_list, ha]
  by_cases c : (l.length : Int) ≥ least
  ·rw [if_pos c, show decide (least ≤ (l.length : Int)) = true from decide_eq_true c]
   simp
  ·rw [if_neg c, show decide (least ≤ (l.length : Int)) = false from decide_eq_false c]
   simp
 | succ d ih =>
  intro k i hi hk ha
  obtain ⟨m, rfl⟩ : ∃ m, k = m + 1 := ⟨k - 1, by omega⟩
  have hil : i < l.length := by omega
  have ht : l.take (i + 1) = l.take i ++ [l[i]] := by rw [List.take_succ_eq_append_getElem hil]
  have no : isD l[i] = false → l.all isD = false := fun hd => by
   rw [List.all_eq_false]
   exact ⟨l[i], List.getElem_mem hil, by simp [hd]⟩
  have e2 : wrap64 ((i : Int) + 1) = ((i + 1 : Nat) : Int) := by rw [wrap_id (by omega) (by omega)]; omega
  simp only [fix_digits.l0]
  rw [size_list, if_pos (by omega), if_pos (by omega), if_pos (by omega), bt_list l i hil, e2]
  by_cases c1 : (l[i].toNat : Int) < 48
  ·rw [if_pos c1, no (by unfold isD; simp; omega)]
   simp
  ·rw [if_neg c1]
   by_cases c2 : (l[i].toNat : Int) > 57
   ·rw [if_pos c2, no (by unfold isD; simp; omega)]
    simp
   ·rw [if_neg c2]
    refine ih m (i + 1) (by omega) (by omega) ?_
    rw [ht, List.all_append, ha]
    unfold isD
    simp
    omega
theorem digits_eq (k : Nat) (l : List UInt8) (least most : Int) (hl : l.length ≤ 1000) (hk : 1001 < k) : fix_digits.f k ⟨l.toArray⟩ least most = some (l.all isD && decide (least ≤ (l.length : Int)) && decide ((l.length : Int) ≤ most)) := by
 have h := digits_l0 l least most hl l.length k 0 (by omega) (by omega) rfl
 exact h

theorem index_dot : ∀ t : List UInt8, Lib.index t [46] = if t.any (· == 46) then ((t.takeWhile (· != 46)).length : Int) else -1
 | [] => by simp [Lib.index]
 | b :: t => by
  unfold Lib.index
  rw [index_dot t]
  by_cases c : b = 46
  ·subst c
   simp
  ·have c1 : (b == 46) = false := beq_eq_false_iff_ne.mpr c
   have c2 : ((46 : UInt8) == b) = false := beq_eq_false_iff_ne.mpr (fun e => c e.symm)
   have c3 : (b != 46) = true := by simp [c]
   rw [List.any_cons, c1, List.takeWhile_cons, c3, Bool.false_or]
   simp only [List.isPrefixOf, c2, Bool.false_and, Bool.false_eq_true, if_false, if_true, List.length_cons]
   cases hh : t.any (· == 46)
   ·simp
   ·simp only [if_true]
    have : (((t.takeWhile (· != 46)).length : Int) == -1) = false := beq_eq_false_iff_ne.mpr (by omega)
    rw [this]
    simp
theorem dropWhile_all {p : UInt8 → Bool} : ∀ (l : List UInt8), (∀ c ∈ l, p c = true) → l.dropWhile p = []
 | [], _ => rfl
 | c :: l, h => by
  rw [List.dropWhile_cons, h c (by simp)]
  exact dropWhile_all l (fun d hd => h d (by simp [hd]))
theorem takeWhile_all {p : UInt8 → Bool} (l : List UInt8) (h : ∀ c ∈ l, p c = true) : l.takeWhile p = l := by
 have := List.takeWhile_append_dropWhile (p := p) (l := l)
 rwa [dropWhile_all l h, List.append_nil] at this
theorem takeWhile_app {p : UInt8 → Bool} : ∀ (l m : List UInt8), (∀ c ∈ l, p c = true) → (l ++ m).takeWhile p = l ++ m.takeWhile p
 | [], m, _ => rfl
 | c :: l, m, h => by
  rw [List.cons_append, List.takeWhile_cons, h c (by simp)]
  simp only [if_true, List.cons_append]
  rw [takeWhile_app l m (fun d hd => h d (by simp [hd]))]
theorem dropWhile_app {p : UInt8 → Bool} : ∀ (l m : List UInt8), (∀ c ∈ l, p c = true) → (l ++ m).dropWhile p = m.dropWhile p
 | [], m, _ => rfl
 | c :: l, m, h => by
  rw [List.cons_append, List.dropWhile_cons, h c (by simp)]
  simp only [if_true]
  exact dropWhile_app l m (fun d hd => h d (by simp [hd]))
theorem cut_dot (t : List UInt8) : Lib.cut t [46] = (t.takeWhile (· != 46), (t.dropWhile (· != 46)).tail, t.any (· == 46)) := by
 unfold Lib.cut
 rw [index_dot]
 have hs := List.takeWhile_append_dropWhile (p := fun c : UInt8 => c != 46) (l := t)
 cases h : t.any (· == 46)
 ·rw [if_neg (by simp)]
  have ha : ∀ c ∈ t, (c != 46) = true := by
   intro c hc
   have := List.any_eq_false.1 h c hc
   simpa using this
  have e0 : t.dropWhile (fun c => c != 46) = [] := by
   exact dropWhile_all t ha
  rw [e0, List.append_nil] at hs
  rw [e0, hs]
  rfl
 ·rw [if_pos (by simp)]
  simp only [if_true, Int.toNat_natCast, List.length_singleton]
  have e1 : t.take (t.takeWhile (· != 46)).length = t.takeWhile (· != 46) := by
   conv => lhs; arg 2; rw [← hs]
   exact List.take_left
  have e2 : t.drop (t.takeWhile (· != 46)).length = t.dropWhile (· != 46) := by
   conv => lhs; arg 2; rw [← hs]
   exact List.drop_left
  rw [e1, ← List.drop_drop, e2, List.drop_one]
theorem toList_list (l : List UInt8) : (⟨l.toArray⟩ : ByteArray).toList = l := by
 have h := Lib.extract_toList ⟨l.toArray⟩ 0 l.length
 simp at h
 have e : (⟨l.toArray⟩ : ByteArray).extract 0 l.length = ⟨l.toArray⟩ := by
  rw [ByteArray.extract_mk]
  simp
 rw [e] at h
 exact h
theorem app_list (l m : List UInt8) : ((⟨l.toArray⟩ : ByteArray) ++ ⟨m.toArray⟩) = ⟨(l ++ m).toArray⟩ := by
 rw [ByteArray.mk_append_mk]
theorem isD_dot {c : UInt8} (h : isD c = true) : (c != 46) = true := by
 unfold isD at h
 rw [bne_iff_ne]
 rintro rfl
 simp at h
theorem hasPrefix_minus (l : List UInt8) : Lib.hasPrefix l [45] = (l.head? == some 45) := by
 unfold Lib.hasPrefix
 cases l with
 | nil => rfl
 | cons c l =>
  simp only [List.isPrefixOf, Bool.and_true, List.head?_cons]
  by_cases h : c = 45
  ·subst h
   rfl
  ·rw [beq_eq_false_iff_ne.mpr (fun e => h e.symm), show (some c == some (45 : UInt8)) = false from beq_eq_false_iff_ne.mpr (by simpa using h)]
theorem trimPrefix_minus (l : List UInt8) : Lib.trimPrefix l [45] = if l.head? = some 45 then l.tail else l := by
 unfold Lib.trimPrefix
 rw [hasPrefix_minus]
 by_cases h : l.head? = some 45
 ·rw [if_pos (by simpa using h), if_pos h, List.length_singleton, List.drop_one]
 ·rw [if_neg (by simpa using h), if_neg h]
theorem repeat_zero (n : Nat) : Lib.repeatL [48] n = List.replicate n 48 := by
 induction n with
 | zero => rfl
 | succ n ih => rw [Lib.repeatL, ih, List.replicate_succ]; rfl
/-- What fix.Parse does with the two parts of a text. -/
def partsS (neg : Bool) (w p : List UInt8) (least : Int) : Bool × Int × Int :=
 if w.all isD && decide (1 ≤ w.length) && decide (w.length ≤ 13) && !(decide (1 < w.length) && w.head? == some 48) && (p.all isD && decide (least ≤ (p.length : Int)) && decide (p.length ≤ 6)) then
  okS (sgn neg ((valN w * 1000000 + valN p * 10 ^ (6 - p.length) : Nat) : Int)) else errS
theorem j2_eq (k : Nat) (neg : Bool) (n : Nat) (hk : 30 < k) (hn : n < 18446744073709551616) : fix_Parse.j2 k neg (n : Int) (decide ((n : Int) > 9223372036854775807)) = some (okS (sgn neg (n : Int))) := by
 obtain ⟨k, rfl⟩ : ∃ m, k = m + 1 := ⟨k - 1, by omega⟩
 simp only [fix_Parse.j2]
 by_cases c : (n : Int) > 9223372036854775807
 ·rw [if_pos (decide_eq_true c)]
  unfold okS sgn
  rw [if_pos (by omega)]
  rfl
 ·rw [if_neg (by simpa using c), scaled_eq k neg n 1 1 (by omega) (by omega) (by omega) (by omega) (by omega) (by omega) (by omega), Option.bind_some, Int.mul_one, Int.ediv_one]
  rfl
theorem j1_eq (k : Nat) (neg : Bool) (w p : List UInt8) (hk : 40 < k) (hw : w.all isD = true) (hw1 : 1 ≤ w.length) (hw2 : w.length ≤ 13) (hp : p.all isD = true) (hp2 : p.length ≤ 6) :
  fix_Parse.j1 k neg ⟨w.toArray⟩ ⟨p.toArray⟩ false = some (okS (sgn neg ((valN w * 1000000 + valN p * 10 ^ (6 - p.length) : Nat) : Int))) := by
 obtain ⟨k, rfl⟩ : ∃ m, k = m + 1 := ⟨k - 1, by omega⟩
 have e6 : wrap64 (6 - (p.length : Int)) = ((6 - p.length : Nat) : Int) := by rw [wrap_id (by omega) (by omega)]; omega
 have z : ((⟨#[48]⟩ : ByteArray).data.toList) = [48] := rfl
 have hlen : ((w ++ p) ++ List.replicate (6 - p.length) 48).length = w.length + 6 := by simp; omega
 have hall : ((w ++ p) ++ List.replicate (6 - p.length) 48).all isD = true := by
  rw [List.all_append, List.all_append, hw, hp]
  simp [isD]
 have hval : valN ((w ++ p) ++ List.replicate (6 - p.length) 48) = valN w * 1000000 + valN p * 10 ^ (6 - p.length) := by
  rw [valN_append, valN_append, valN_zeros, List.length_replicate, Nat.add_zero, Nat.add_mul, Nat.mul_assoc, ← Nat.pow_add, show p.length + (6 - p.length) = 6 by omega]
 simp only [fix_Parse.j1, Bool.false_eq_true, if_false]
 rw [size_list, size_list, if_pos (by omega)]
 unfold strings_Repeat.f
 have hn1 : (⟨#[48]⟩ : ByteArray).size = 1 := rfl
 rw [e6, hn1, if_pos ⟨by omega, by omega, by omega⟩, Option.bind_some, Int.toNat_natCast, z, repeat_zero, app_list, app_list, size_list, size_list, if_pos (by simp; omega)]
 unfold strconv_ParseUint.f
 rw [size_list, if_pos ⟨rfl, rfl, by rw [hlen]; omega⟩]
 simp only
 rw [parseUint_ok _ (by intro e; rw [e] at hlen; simp at hlen) hall (by omega), hval]
 have hb : valN w * 1000000 + valN p * 10 ^ (6 - p.length) < 18446744073709551616 := by
  have h1 := valN_lt _ hall
  rw [hval, hlen] at h1
  have h2 : 10 ^ (w.length + 6) ≤ 10 ^ 19 := Nat.pow_le_pow_right (by omega) (by omega)
  omega
 simp only [Option.bind_some, Option.isNone_none, if_true]
 exact j2_eq k neg _ (by omega) hb
theorem j1_err (k : Nat) (neg : Bool) (w p : ByteArray) (hk : 0 < k) : fix_Parse.j1 k neg w p true = some errS := by
 obtain ⟨k, rfl⟩ : ∃ m, k = m + 1 := ⟨k - 1, by omega⟩
 simp only [fix_Parse.j1, if_true]
 rfl
theorem head_bt (w : List UInt8) (h : 0 < w.length) : (bt ⟨w.toArray⟩ 0 = 48) ↔ w.head? = some 48 := by
 have e := bt_list w 0 h
 rw [show (((0 : Nat) : Int)) = 0 from rfl] at e
 rw [e]
 cases w with
 | nil => simp at h
 | cons c w =>
  simp only [List.getElem_cons_zero, List.head?_cons, Option.some.injEq]
  constructor
  ·intro h
   apply UInt8.toNat_inj.1
   have : (48 : UInt8).toNat = 48 := rfl
   omega
  ·rintro rfl
   rfl
theorem j0_eq (k : Nat) (neg : Bool) (w p : List UInt8) (least : Int) (hk : 1100 < k) (hw : w.length ≤ 1000) (hp : p.length ≤ 1000) : fix_Parse.j0 k neg ⟨w.toArray⟩ ⟨p.toArray⟩ least = some (partsS neg w p least) := by
 obtain ⟨k, rfl⟩ : ∃ m, k = m + 1 := ⟨k - 1, by omega⟩
 simp only [fix_Parse.j0]
 rw [digits_eq k w 1 13 hw (by omega), Option.bind_some, digits_eq k p least 6 hp (by omega), size_list]
 unfold partsS
 have d1 : decide ((1 : Int) ≤ (w.length : Int)) = decide (1 ≤ w.length) := decide_eq_decide.2 (by omega)
 have d2 : decide ((w.length : Int) ≤ 13) = decide (w.length ≤ 13) := decide_eq_decide.2 (by omega)
 have d3 : decide ((p.length : Int) ≤ 6) = decide (p.length ≤ 6) := decide_eq_decide.2 (by omega)
 rw [d1, d2, d3]
 cases h1 : w.all isD && decide (1 ≤ w.length) && decide (w.length ≤ 13)
 ·rw [if_neg (by simp), j1_err k neg _ _ (by omega)]
  simp
 ·rw [if_pos rfl]
  simp only [Bool.and_eq_true, decide_eq_true_eq] at h1
  obtain ⟨⟨h1, h2⟩, h3⟩ := h1
  have tl : fix_Parse.j1 k neg ⟨w.toArray⟩ ⟨p.toArray⟩ (!(p.all isD && decide (least ≤ (p.length : Int)) && decide (p.length ≤ 6))) = some (if (p.all isD && decide (least ≤ (p.length : Int)) && decide (p.length ≤ 6)) = true then okS (sgn neg ((valN w * 1000000 + valN p * 10 ^ (6 - p.length) : Nat) : Int)) else errS) := by
   cases g : p.all isD && decide (least ≤ (p.length : Int)) && decide (p.length ≤ 6)
   ·rw [if_neg (by simp)]
    exact j1_err k neg _ _ (by omega)
   ·rw [if_pos rfl]
    simp only [Bool.and_eq_true, decide_eq_true_eq] at g
    exact j1_eq k neg w p (by omega) h1 h2 h3 g.1.1 g.2
  by_cases c : (w.length : Int) > 1
  ·rw [if_pos c, if_pos (by omega)]
   have d4 : decide (1 < w.length) = true := decide_eq_true (by omega)
   by_cases c2 : bt ⟨w.toArray⟩ 0 = 48
   ·have := (head_bt w (by omega)).1 c2
    rw [if_pos c2, j1_err k neg _ _ (by omega), d4, this]
    simp
   ·have : (w.head? == some 48) = false := by
     rw [beq_eq_false_iff_ne]
     exact fun e => c2 ((head_bt w (by omega)).2 e)
    rw [if_neg c2, Option.bind_some, tl, d4, this]
    simp
  ·have d4 : decide (1 < w.length) = false := decide_eq_false (by omega)
   rw [if_neg c, Option.bind_some, tl, d4]
   simp
theorem takeWhile_mem {p : UInt8 → Bool} : ∀ (l : List UInt8), ∀ c ∈ l.takeWhile p, p c = true
 | [], c, h => by simp at h
 | d :: l, c, h => by
  rw [List.takeWhile_cons] at h
  by_cases g : p d = true
  ·rw [if_pos g] at h
   rcases List.mem_cons.1 h with rfl | h
   ·exact g
   ·exact takeWhile_mem l c h
  ·rw [if_neg g] at h
   simp at h
theorem dropWhile_head {p : UInt8 → Bool} : ∀ (l : List UInt8) (c : UInt8) (r : List UInt8), l.dropWhile p = c :: r → p c = false
 | [], c, r, h => by simp at h
 | d :: l, c, r, h => by
  rw [List.dropWhile_cons] at h
  by_cases g : p d = true
  ·rw [if_pos g] at h
   exact dropWhile_head l c r h
  ·rw [if_neg g] at h
   injection h with h1 h2
   subst h1
   simpa using g
theorem parts_parseT (neg : Bool) (t : List UInt8) : partsS neg (t.takeWhile (· != 46)) ((t.dropWhile (· != 46)).tail) (if t.any (· == 46) = true then 1 else 0) = parseT neg t := by
 have hs := List.takeWhile_append_dropWhile (p := isD) (l := t)
 have hm := takeWhile_mem (p := isD) t
 have hd := fun c r => dropWhile_head (p := isD) t c r
 unfold parseT
 obtain ⟨D, hD⟩ : ∃ D, t.takeWhile isD = D := ⟨_, rfl⟩
 obtain ⟨r, hr⟩ : ∃ r, t.dropWhile isD = r := ⟨_, rfl⟩
 rw [hD, hr] at hs
 rw [hD] at hm ⊢
 rw [hr] at hd ⊢
 subst hs
 have hall : D.all isD = true := List.all_eq_true.2 hm
 have h46 : ∀ c ∈ D, (c != 46) = true := fun c hc => isD_dot (hm c hc)
 have hany : D.any (· == 46) = false := by
  rw [List.any_eq_false]
  intro c hc
  have := h46 c hc
  simpa using this
 rw [takeWhile_app D r h46, dropWhile_app D r h46, List.any_append, hany, Bool.false_or]
 unfold partsS headOk
 cases r with
 | nil =>
  simp only [List.takeWhile_nil, List.dropWhile_nil, List.append_nil, List.tail_nil, List.any_nil, hall, Bool.true_and, List.all_nil, List.length_nil, Bool.false_eq_true, if_false]
  have v : valN [] = 0 := rfl
  simp [v]
 | cons c r =>
  have hc := hd c r rfl
  by_cases g : c = 46
  ·subst g
   have e1 : (46 :: r).takeWhile (fun c : UInt8 => c != 46) = [] := by simp
   have e2 : (46 :: r).dropWhile (fun c : UInt8 => c != 46) = 46 :: r := by simp
   rw [e1, e2, List.append_nil]
   simp only [List.any_cons, beq_self_eq_true, Bool.true_or, if_true, List.tail_cons, hall, Bool.true_and, true_and]
   unfold partOk
   have d3 : decide ((1 : Int) ≤ (r.length : Int)) = decide (1 ≤ r.length) := decide_eq_decide.2 (by omega)
   rw [d3]
   by_cases h1 : (decide (1 ≤ D.length) && decide (D.length ≤ 13) && !(decide (1 < D.length) && D.head? == some 48)) = true
   ·rw [h1]
    simp only [Bool.true_and, if_true]
    first | rfl | congr
   ·rw [Bool.eq_false_iff.2 h1]
    simp
  ·have e1 : (c :: r).takeWhile (fun c : UInt8 => c != 46) = c :: r.takeWhile (fun c : UInt8 => c != 46) := by
    rw [List.takeWhile_cons, if_pos (by simpa using g)]
   rw [e1]
   have : (D ++ c :: r.takeWhile (fun c : UInt8 => c != 46)).all isD = false := by
    rw [List.all_append, List.all_cons, hc]
    simp
   rw [this]
   simp [g]
theorem fixparse_eq (k : Nat) (l : List UInt8) (hk : 1200 < k) (hl : l.length ≤ 620) : fix_Parse.f k ⟨l.toArray⟩ = some (parseS l) := by
 unfold fix_Parse.f parseS
 rw [toList_list]
 by_cases h : l = [111, 118, 102]
 ·rw [if_pos h, if_pos h]
  rfl
 ·rw [if_neg h, if_neg h]
  unfold strings_CutPrefix.f
  rw [Option.bind_some]
  simp only
  rw [trimPrefix_minus, hasPrefix_minus]
  obtain ⟨t, ht⟩ : ∃ t, (if l.head? = some 45 then l.tail else l) = t := ⟨_, rfl⟩
  have htl : t.length ≤ 620 := by
   rw [← ht]
   split
   ·rw [List.length_tail]
    omega
   ·exact hl
  rw [ht]
  unfold strings_Cut.f
  rw [size_list, if_pos (by omega), Option.bind_some]
  simp only
  rw [cut_dot]
  have l1 : (t.takeWhile (· != 46)).length ≤ 1000 := by
   have := (List.takeWhile_sublist (fun c : UInt8 => c != 46) (l := t)).length_le
   omega
  have l2 : ((t.dropWhile (· != 46)).tail).length ≤ 1000 := by
   have := (List.dropWhile_sublist (fun c : UInt8 => c != 46) (l := t)).length_le
   rw [List.length_tail]
   omega
  have e : (if (if l.head? = some 45 then l.tail else l) = t then parseT (l.head? == some 45) t else errS) = (if l.head? = some 45 then parseT true l.tail else parseT false l) := by
   rw [if_pos ht, ← ht]
   by_cases g : l.head? = some 45
   ·rw [if_pos g, if_pos g, g]
    rfl
   ·rw [if_neg g, if_neg g, beq_eq_false_iff_ne.mpr g]
  rw [if_pos ht] at e
  rw [← e, ← parts_parseT]
  cases h46 : t.any (· == 46)
  ·rw [if_neg (by simp), if_neg (by simp), j0_eq k _ _ _ 0 (by omega) l1 l2]
  ·rw [if_pos rfl, if_pos rfl, j0_eq k _ _ _ 1 (by omega) l1 l2]
end Go.Proofs.YtnjobjogddjelaaGreatDoor.PureN
end

section
namespace Go.Proofs.YtnjobjogddjelaaGreatDoor.Print
open Go.RowKit Go.Proofs.YtnjobjogddjelaaGreatDoorX Go.Proofs.YtnjobjogddjelaaGreatDoorW.PrintWords Go.Proofs.YtnjobjogddjelaaGreatDoorW.PrintLast Go.Proofs.YtnjobjogddjelaaGreatDoorW.PrintMore
attribute [local go_sem] max2_int min2_int max_two min_two max_three min_three max_four min_four

/-! ### fix_Print: function 33 -/
def fix_Print.f (a0_0 : Bool) (a0_1 : Int) : Option (ByteArray) := (fix_over.f a0_0 a0_1).bind fun t210 => (if t210 = true then (some (⟨#[111, 118, 102]⟩ : ByteArray)) else ((fix_size.f a0_1).bind fun t211 => ((strconv_FormatUint.f (IntKind.u64.wrap (Int.tdiv t211 1000000)) 10).bind fun t212 => ((strconv_FormatUint.f (IntKind.u64.wrap ((Int.tmod t211 1000000) + 1000000)) 10).bind fun t213 => (if 1 ≤ (t213.size : Int) then (if (Int.tmod t211 1000000) > 0 then ((strings_TrimRight.f (t213.extract 1 t213.size) (⟨#[48]⟩ : ByteArray)).bind fun t214 => (if 1 + t214.size ≤ 9223372036854775807 then (if t212.size + ((⟨#[46]⟩ : ByteArray) ++ t214).size ≤ 9223372036854775807 then (if a0_1 < 0 then (if 1 + (t212 ++ ((⟨#[46]⟩ : ByteArray) ++ t214)).size ≤ 9223372036854775807 then (some ((⟨#[45]⟩ : ByteArray) ++ (t212 ++ ((⟨#[46]⟩ : ByteArray) ++ t214)))) else (none)) else (some (t212 ++ ((⟨#[46]⟩ : ByteArray) ++ t214)))) else (none)) else (none))) else (if a0_1 < 0 then (if 1 + t212.size ≤ 9223372036854775807 then (some ((⟨#[45]⟩ : ByteArray) ++ t212)) else (none)) else (some t212))) else (none))))))
set_option maxHeartbeats 8000000 in
set_option maxRecDepth 100000 in
theorem fix_Print.calls (a0_0 : Bool) (a0_1 : Int) (r : ByteArray) (w : World) (hg_ : LaidW w) (h : fix_Print.f a0_0 a0_1 = some r) :
  Calls Tryz.prog 33 #[.agg #[.bool a0_0, .int .i64 a0_1]] w fun e w' => e = .returned (.string r) ∧ Below w.heap.size w w' := by
 have HLW := Aside0.mk hg_
 clear hg_
 have hu34 := Tryz.underlying34
 have HB := Aside0.mk (Below.refl w.heap.size w)
 have H : ((fix_over.f a0_0 a0_1).bind fun t210 => (if t210 = true then (some (⟨#[111, 118, 102]⟩ : ByteArray)) else ((fix_size.f a0_1).bind fun t211 => ((strconv_FormatUint.f (IntKind.u64.wrap (Int.tdiv t211 1000000)) 10).bind fun t212 => ((strconv_FormatUint.f (IntKind.u64.wrap ((Int.tmod t211 1000000) + 1000000)) 10).bind fun t213 => (if 1 ≤ (t213.size : Int) then (if (Int.tmod t211 1000000) > 0 then ((strings_TrimRight.f (t213.extract 1 t213.size) (⟨#[48]⟩ : ByteArray)).bind fun t214 => (if 1 + t214.size ≤ 9223372036854775807 then (if t212.size + ((⟨#[46]⟩ : ByteArray) ++ t214).size ≤ 9223372036854775807 then (if a0_1 < 0 then (if 1 + (t212 ++ ((⟨#[46]⟩ : ByteArray) ++ t214)).size ≤ 9223372036854775807 then (some ((⟨#[45]⟩ : ByteArray) ++ (t212 ++ ((⟨#[46]⟩ : ByteArray) ++ t214)))) else (none)) else (some (t212 ++ ((⟨#[46]⟩ : ByteArray) ++ t214)))) else (none)) else (none))) else (if a0_1 < 0 then (if 1 + t212.size ≤ 9223372036854775807 then (some ((⟨#[45]⟩ : ByteArray) ++ t212)) else (none)) else (some t212))) else (none))))))) = some r := h
 clear h
 replace H := Option.bind_eq_some_iff.mp H
 obtain ⟨t210, A20, H⟩ := H
 replace H : (if t210 = true then (some (⟨#[111, 118, 102]⟩ : ByteArray)) else ((fix_size.f a0_1).bind fun t211 => ((strconv_FormatUint.f (IntKind.u64.wrap (Int.tdiv t211 1000000)) 10).bind fun t212 => ((strconv_FormatUint.f (IntKind.u64.wrap ((Int.tmod t211 1000000) + 1000000)) 10).bind fun t213 => (if 1 ≤ (t213.size : Int) then (if (Int.tmod t211 1000000) > 0 then ((strings_TrimRight.f (t213.extract 1 t213.size) (⟨#[48]⟩ : ByteArray)).bind fun t214 => (if 1 + t214.size ≤ 9223372036854775807 then (if t212.size + ((⟨#[46]⟩ : ByteArray) ++ t214).size ≤ 9223372036854775807 then (if a0_1 < 0 then (if 1 + (t212 ++ ((⟨#[46]⟩ : ByteArray) ++ t214)).size ≤ 9223372036854775807 then (some ((⟨#[45]⟩ : ByteArray) ++ (t212 ++ ((⟨#[46]⟩ : ByteArray) ++ t214)))) else (none)) else (some (t212 ++ ((⟨#[46]⟩ : ByteArray) ++ t214)))) else (none)) else (none))) else (if a0_1 < 0 then (if 1 + t212.size ≤ 9223372036854775807 then (some ((⟨#[45]⟩ : ByteArray) ++ t212)) else (none)) else (some t212))) else (none)))))) = some r := H
 have A2 := Aside0.mk A20
 clear A20
 by_cases c3 : t210 = true
 ·subst c3
  have H1 : (some (⟨#[111, 118, 102]⟩ : ByteArray)) = some r := by rw [if_pos rfl] at H; exact H
  clear H
  have H := H1
  clear H1
  obtain rfl := Option.some.inj H
  go_enter Tryz.func33, Tryz.ntmps33
  go_wp2_with (first | ((with_reducible refine gate_dst (N := 1) rfl ?_); refine box_event ?hg (N := 1) ?hd (cs := #[.bool a0_0, .int .i64 a0_1]) (t := 34) ?hr ?_; (case hd => rfl); (case hg => rfl); (case hr => first | (go_simp; done) | (go_simp; rfl)); intro gb209 hg w4 hbox hb; have n0_ := Aside0.mk (below_step (by repeat (first | (with_reducible first | exact HB.out | apply below_alloc | apply pw_below_drewN | apply below_drew1) | exact HB.out)) hb); have n1_ := Aside0.mk (hbox); have n2_ := Aside0.mk ((by rw [hg]; exact (below_size (by repeat (first | (with_reducible first | exact HB.out | apply below_alloc | apply pw_below_drewN | apply below_drew1) | exact HB.out))) : w.heap.size ≤ gb209)); have n3_ := Aside0.mk ((by rw [hg]; exact (below_size (by repeat (first | (with_reducible first | exact HB.out | apply below_alloc | apply pw_below_drewN | apply below_drew1) | exact HB.out))) : w.heap.size ≤ gb209)); clear HB; have HB := n0_; have BK209 := n1_; have GW209 := n2_; have GE209 := n3_; clear n0_ n1_ n2_ n3_; clear hb hbox hg; have hcz5_0 : w4.cell? ⟨gb209, 0, none⟩ = some (.bool a0_0) := (blk_cell BK209.out 0).trans rfl; have hcz5_1 : w4.cell? ⟨gb209, 1, none⟩ = some (.int .i64 a0_1) := (blk_cell BK209.out 1).trans rfl; have hfz5_0 := blk_frozen BK209.out 0; have hfz5_1 := blk_frozen BK209.out 1) | ((with_reducible refine gate_callee (f := 49) rfl ?_); refine goesL_ (some 7) rfl rfl Tryz.func49 (by kernel_rfl) rfl #[.agg #[.bool a0_0, .int .i64 a0_1]] rfl (by (try simp only [List.map_toArray, List.map_cons, List.map_nil]); first | done | rfl | (simp only [List.length_drop, List.length_take]; rfl)) ?_; (with_reducible refine (fix_over.calls a0_0 a0_1 true _ A2.out).mono ?_); rintro e w6 ⟨rfl, hb⟩; refine ⟨_, rfl, ?_⟩; have n0_ := Aside0.mk (blk_below (g := gb209) (o := .cells #[.bool a0_0, .int .i64 a0_1] 34 (0, 0)) (by (with_reducible repeat (first | refine blk_drewN ?_ _ | refine blk_drew ?_ | refine blk_alloc ?_ _)); exact BK209.out) hb); have n1_ := Aside0.mk (below_step (by repeat (first | (with_reducible first | exact HB.out | apply below_alloc | apply pw_below_drewN | apply below_drew1 | refine below_set ?_ GE209.out) | exact HB.out)) hb); clear BK209; clear HB; have BK209 := n0_; have HB := n1_; clear n0_ n1_; (try clear hb); (try clear hb2); (try clear hk); (try clear hi)))
  go_ret
  exact ⟨by first | rfl | (simp [errW_none, errW_some] <;> rfl) | (simp [*, errW_none, errW_some] <;> rfl), by repeat (first | (with_reducible first | exact HB.out | apply below_alloc | apply pw_below_drewN | apply below_drew1 | refine below_set ?_ GE209.out) | exact HB.out)⟩
 ·replace c3 := Bool.eq_false_iff.mpr c3
  subst c3
  have H1 : ((fix_size.f a0_1).bind fun t211 => ((strconv_FormatUint.f (IntKind.u64.wrap (Int.tdiv t211 1000000)) 10).bind fun t212 => ((strconv_FormatUint.f (IntKind.u64.wrap ((Int.tmod t211 1000000) + 1000000)) 10).bind fun t213 => (if 1 ≤ (t213.size : Int) then (if (Int.tmod t211 1000000) > 0 then ((strings_TrimRight.f (t213.extract 1 t213.size) (⟨#[48]⟩ : ByteArray)).bind fun t214 => (if 1 + t214.size ≤ 9223372036854775807 then (if t212.size + ((⟨#[46]⟩ : ByteArray) ++ t214).size ≤ 9223372036854775807 then (if a0_1 < 0 then (if 1 + (t212 ++ ((⟨#[46]⟩ : ByteArray) ++ t214)).size ≤ 9223372036854775807 then (some ((⟨#[45]⟩ : ByteArray) ++ (t212 ++ ((⟨#[46]⟩ : ByteArray) ++ t214)))) else (none)) else (some (t212 ++ ((⟨#[46]⟩ : ByteArray) ++ t214)))) else (none)) else (none))) else (if a0_1 < 0 then (if 1 + t212.size ≤ 9223372036854775807 then (some ((⟨#[45]⟩ : ByteArray) ++ t212)) else (none)) else (some t212))) else (none))))) = some r := by rw [if_neg (show ¬ (false = true) by decide)] at H; exact H
  clear H
  have H := H1
  clear H1
  replace H := Option.bind_eq_some_iff.mp H
  obtain ⟨t211, A70, H⟩ := H
  replace H : ((strconv_FormatUint.f (IntKind.u64.wrap (Int.tdiv t211 1000000)) 10).bind fun t212 => ((strconv_FormatUint.f (IntKind.u64.wrap ((Int.tmod t211 1000000) + 1000000)) 10).bind fun t213 => (if 1 ≤ (t213.size : Int) then (if (Int.tmod t211 1000000) > 0 then ((strings_TrimRight.f (t213.extract 1 t213.size) (⟨#[48]⟩ : ByteArray)).bind fun t214 => (if 1 + t214.size ≤ 9223372036854775807 then (if t212.size + ((⟨#[46]⟩ : ByteArray) ++ t214).size ≤ 9223372036854775807 then (if a0_1 < 0 then (if 1 + (t212 ++ ((⟨#[46]⟩ : ByteArray) ++ t214)).size ≤ 9223372036854775807 then (some ((⟨#[45]⟩ : ByteArray) ++ (t212 ++ ((⟨#[46]⟩ : ByteArray) ++ t214)))) else (none)) else (some (t212 ++ ((⟨#[46]⟩ : ByteArray) ++ t214)))) else (none)) else (none))) else (if a0_1 < 0 then (if 1 + t212.size ≤ 9223372036854775807 then (some ((⟨#[45]⟩ : ByteArray) ++ t212)) else (none)) else (some t212))) else (none)))) = some r := H
  have A7 := Aside0.mk A70
  clear A70
  replace H := Option.bind_eq_some_iff.mp H
  obtain ⟨t212, A80, H⟩ := H
  replace H : ((strconv_FormatUint.f (IntKind.u64.wrap ((Int.tmod t211 1000000) + 1000000)) 10).bind fun t213 => (if 1 ≤ (t213.size : Int) then (if (Int.tmod t211 1000000) > 0 then ((strings_TrimRight.f (t213.extract 1 t213.size) (⟨#[48]⟩ : ByteArray)).bind fun t214 => (if 1 + t214.size ≤ 9223372036854775807 then (if t212.size + ((⟨#[46]⟩ : ByteArray) ++ t214).size ≤ 9223372036854775807 then (if a0_1 < 0 then (if 1 + (t212 ++ ((⟨#[46]⟩ : ByteArray) ++ t214)).size ≤ 9223372036854775807 then (some ((⟨#[45]⟩ : ByteArray) ++ (t212 ++ ((⟨#[46]⟩ : ByteArray) ++ t214)))) else (none)) else (some (t212 ++ ((⟨#[46]⟩ : ByteArray) ++ t214)))) else (none)) else (none))) else (if a0_1 < 0 then (if 1 + t212.size ≤ 9223372036854775807 then (some ((⟨#[45]⟩ : ByteArray) ++ t212)) else (none)) else (some t212))) else (none))) = some r := H
  have A8 := Aside0.mk A80
  clear A80
  replace H := Option.bind_eq_some_iff.mp H
  obtain ⟨t213, A90, H⟩ := H
  replace H : (if 1 ≤ (t213.size : Int) then (if (Int.tmod t211 1000000) > 0 then ((strings_TrimRight.f (t213.extract 1 t213.size) (⟨#[48]⟩ : ByteArray)).bind fun t214 => (if 1 + t214.size ≤ 9223372036854775807 then (if t212.size + ((⟨#[46]⟩ : ByteArray) ++ t214).size ≤ 9223372036854775807 then (if a0_1 < 0 then (if 1 + (t212 ++ ((⟨#[46]⟩ : ByteArray) ++ t214)).size ≤ 9223372036854775807 then (some ((⟨#[45]⟩ : ByteArray) ++ (t212 ++ ((⟨#[46]⟩ : ByteArray) ++ t214)))) else (none)) else (some (t212 ++ ((⟨#[46]⟩ : ByteArray) ++ t214)))) else (none)) else (none))) else (if a0_1 < 0 then (if 1 + t212.size ≤ 9223372036854775807 then (some ((⟨#[45]⟩ : ByteArray) ++ t212)) else (none)) else (some t212))) else (none)) = some r := H
  have A9 := Aside0.mk A90
  clear A90
  by_cases c10 : 1 ≤ (t213.size : Int)
  ·rw [if_pos c10] at H
   have c10b0 := eq_true c10
   have c10b1 : decide (1 ≤ (t213.size : Int)) = true := decide_eq_true c10
   clear c10
   by_cases c11 : (Int.tmod t211 1000000) > 0
   ·rw [if_pos c11] at H
    have c11b0 : decide (0 < (Int.tmod t211 1000000)) = true := decide_eq_true c11
    clear c11
    replace H := Option.bind_eq_some_iff.mp H
    obtain ⟨t214, A120, H⟩ := H
    replace H : (if 1 + t214.size ≤ 9223372036854775807 then (if t212.size + ((⟨#[46]⟩ : ByteArray) ++ t214).size ≤ 9223372036854775807 then (if a0_1 < 0 then (if 1 + (t212 ++ ((⟨#[46]⟩ : ByteArray) ++ t214)).size ≤ 9223372036854775807 then (some ((⟨#[45]⟩ : ByteArray) ++ (t212 ++ ((⟨#[46]⟩ : ByteArray) ++ t214)))) else (none)) else (some (t212 ++ ((⟨#[46]⟩ : ByteArray) ++ t214)))) else (none)) else (none)) = some r := H
    have A12 := Aside0.mk A120
    clear A120
    by_cases c13 : 1 + t214.size ≤ 9223372036854775807
    ·rw [if_pos c13] at H
     have c13b0 := eq_true c13
     have c13b1 : decide (1 + t214.size ≤ 9223372036854775807) = true := decide_eq_true c13
     try have c13b2 : (9223372036854775807 < 1 + t214.size) = False := eq_false (Nat.not_lt.2 c13)
     by_cases c14 : t212.size + ((⟨#[46]⟩ : ByteArray) ++ t214).size ≤ 9223372036854775807
     ·rw [if_pos c14] at H
      have c14b0 := eq_true c14
      have c14b1 : decide (t212.size + ((⟨#[46]⟩ : ByteArray) ++ t214).size ≤ 9223372036854775807) = true := decide_eq_true c14
      try have c14b2 : (9223372036854775807 < t212.size + ((⟨#[46]⟩ : ByteArray) ++ t214).size) = False := eq_false (Nat.not_lt.2 c14)
      try (have c14b3 := c14; simp only [ByteArray.size_append, sz_one] at c14b3; have c14b4 := eq_false (Nat.not_lt.2 c14b3); clear c14b3)
      by_cases c15 : a0_1 < 0
      ·rw [if_pos c15] at H
       have c15b0 : decide (a0_1 < 0) = true := decide_eq_true c15
       clear c15
       by_cases c16 : 1 + (t212 ++ ((⟨#[46]⟩ : ByteArray) ++ t214)).size ≤ 9223372036854775807
       ·rw [if_pos c16] at H
        have c16b0 := eq_true c16
        have c16b1 : decide (1 + (t212 ++ ((⟨#[46]⟩ : ByteArray) ++ t214)).size ≤ 9223372036854775807) = true := decide_eq_true c16
        try have c16b2 : (9223372036854775807 < 1 + (t212 ++ ((⟨#[46]⟩ : ByteArray) ++ t214)).size) = False := eq_false (Nat.not_lt.2 c16)
        try (have c16b3 := c16; simp only [ByteArray.size_append, sz_one] at c16b3; have c16b4 := eq_false (Nat.not_lt.2 c16b3); clear c16b3)
        obtain rfl := Option.some.inj H
        go_enter Tryz.func33, Tryz.ntmps33
        go_wp2_with (first | ((with_reducible refine gate_dst (N := 1) rfl ?_); refine box_event ?hg (N := 1) ?hd (cs := #[.bool a0_0, .int .i64 a0_1]) (t := 34) ?hr ?_; (case hd => rfl); (case hg => rfl); (case hr => first | (go_simp; done) | (go_simp; rfl)); intro gb209 hg w17 hbox hb; have n0_ := Aside0.mk (below_step (by repeat (first | (with_reducible first | exact HB.out | apply below_alloc | apply pw_below_drewN | apply below_drew1) | exact HB.out)) hb); have n1_ := Aside0.mk (hbox); have n2_ := Aside0.mk ((by rw [hg]; exact (below_size (by repeat (first | (with_reducible first | exact HB.out | apply below_alloc | apply pw_below_drewN | apply below_drew1) | exact HB.out))) : w.heap.size ≤ gb209)); have n3_ := Aside0.mk ((by rw [hg]; exact (below_size (by repeat (first | (with_reducible first | exact HB.out | apply below_alloc | apply pw_below_drewN | apply below_drew1) | exact HB.out))) : w.heap.size ≤ gb209)); clear HB; have HB := n0_; have BK209 := n1_; have GW209 := n2_; have GE209 := n3_; clear n0_ n1_ n2_ n3_; clear hb hbox hg; have hcz18_0 : w17.cell? ⟨gb209, 0, none⟩ = some (.bool a0_0) := (blk_cell BK209.out 0).trans rfl; have hcz18_1 : w17.cell? ⟨gb209, 1, none⟩ = some (.int .i64 a0_1) := (blk_cell BK209.out 1).trans rfl; have hfz18_0 := blk_frozen BK209.out 0; have hfz18_1 := blk_frozen BK209.out 1) | ((with_reducible refine gate_callee (f := 49) rfl ?_); refine goesL_ (some 7) rfl rfl Tryz.func49 (by kernel_rfl) rfl #[.agg #[.bool a0_0, .int .i64 a0_1]] rfl (by (try simp only [List.map_toArray, List.map_cons, List.map_nil]); first | done | rfl | (simp only [List.length_drop, List.length_take]; rfl)) ?_; (with_reducible refine (fix_over.calls a0_0 a0_1 false _ A2.out).mono ?_); rintro e w19 ⟨rfl, hb⟩; refine ⟨_, rfl, ?_⟩; have n0_ := Aside0.mk (blk_below (g := gb209) (o := .cells #[.bool a0_0, .int .i64 a0_1] 34 (0, 0)) (by (with_reducible repeat (first | refine blk_drewN ?_ _ | refine blk_drew ?_ | refine blk_alloc ?_ _)); exact BK209.out) hb); have n1_ := Aside0.mk (below_step (by repeat (first | (with_reducible first | exact HB.out | apply below_alloc | apply pw_below_drewN | apply below_drew1 | refine below_set ?_ GE209.out) | exact HB.out)) hb); clear BK209; clear HB; have BK209 := n0_; have HB := n1_; clear n0_ n1_; (try clear hb); (try clear hb2); (try clear hk); (try clear hi); have hcz20_0 : w19.cell? ⟨gb209, 0, none⟩ = some (.bool a0_0) := (blk_cell BK209.out 0).trans rfl; have hcz20_1 : w19.cell? ⟨gb209, 1, none⟩ = some (.int .i64 a0_1) := (blk_cell BK209.out 1).trans rfl; have hfz20_0 := blk_frozen BK209.out 0; have hfz20_1 := blk_frozen BK209.out 1) | ((with_reducible refine gate_callee (f := 50) rfl ?_); refine goesL_ (some 10) rfl rfl Tryz.func50 (by kernel_rfl) rfl #[.int .i64 a0_1] rfl (by (try simp only [List.map_toArray, List.map_cons, List.map_nil]); first | done | rfl | (simp only [List.length_drop, List.length_take]; rfl)) ?_; (with_reducible refine (fix_size.calls a0_1 t211 _ A7.out).mono ?_); rintro e w' ⟨rfl, ⟨nd, rfl⟩⟩; refine ⟨_, rfl, ?_⟩) | ((with_reducible refine gate_callee (f := 51) rfl ?_); refine goesL_ (some 13) rfl rfl Tryz.func51 (by kernel_rfl) rfl #[.int .u64 (IntKind.u64.wrap (Int.tdiv t211 1000000)), .int .i64 10] rfl (by (try simp only [List.map_toArray, List.map_cons, List.map_nil]); first | done | rfl | (simp only [List.length_drop, List.length_take]; rfl)) ?_; (with_reducible refine (strconv_FormatUint.calls (IntKind.u64.wrap (Int.tdiv t211 1000000)) 10 t212 _ ?side1 A8.out).mono ?_); (case side1 => exact LaidW.below HLW.out (by repeat (first | (with_reducible first | exact HB.out | apply below_alloc | apply pw_below_drewN | apply below_drew1) | exact HB.out | (refine below_set ?_ (Aside0.out ?hge); (case hge => assumption))))); rintro e w21 ⟨rfl, hb⟩; refine ⟨_, rfl, ?_⟩; have n0_ := Aside0.mk (blk_below (g := gb209) (o := .cells #[.bool a0_0, .int .i64 a0_1] 34 (0, 0)) (by (with_reducible repeat (first | refine blk_drewN ?_ _ | refine blk_drew ?_ | refine blk_alloc ?_ _)); exact BK209.out) hb); have n1_ := Aside0.mk (below_step (by repeat (first | (with_reducible first | exact HB.out | apply below_alloc | apply pw_below_drewN | apply below_drew1 | refine below_set ?_ GE209.out) | exact HB.out)) hb); clear BK209; clear HB; have BK209 := n0_; have HB := n1_; clear n0_ n1_; (try clear hb); (try clear hb2); (try clear hk); (try clear hi)) | ((with_reducible refine gate_callee (f := 51) rfl ?_); refine goesL_ (some 17) rfl rfl Tryz.func51 (by kernel_rfl) rfl #[.int .u64 (IntKind.u64.wrap ((Int.tmod t211 1000000) + 1000000)), .int .i64 10] rfl (by (try simp only [List.map_toArray, List.map_cons, List.map_nil]); first | done | rfl | (simp only [List.length_drop, List.length_take]; rfl)) ?_; (with_reducible refine (strconv_FormatUint.calls (IntKind.u64.wrap ((Int.tmod t211 1000000) + 1000000)) 10 t213 _ ?side1 A9.out).mono ?_); (case side1 => exact LaidW.below HLW.out (by repeat (first | (with_reducible first | exact HB.out | apply below_alloc | apply pw_below_drewN | apply below_drew1) | exact HB.out | (refine below_set ?_ (Aside0.out ?hge); (case hge => assumption))))); rintro e w22 ⟨rfl, hb⟩; refine ⟨_, rfl, ?_⟩; have n0_ := Aside0.mk (blk_below (g := gb209) (o := .cells #[.bool a0_0, .int .i64 a0_1] 34 (0, 0)) (by (with_reducible repeat (first | refine blk_drewN ?_ _ | refine blk_drew ?_ | refine blk_alloc ?_ _)); exact BK209.out) hb); have n1_ := Aside0.mk (below_step (by repeat (first | (with_reducible first | exact HB.out | apply below_alloc | apply pw_below_drewN | apply below_drew1 | refine below_set ?_ GE209.out) | exact HB.out)) hb); clear BK209; clear HB; have BK209 := n0_; have HB := n1_; clear n0_ n1_; (try clear hb); (try clear hb2); (try clear hk); (try clear hi)) | ((with_reducible refine gate_callee (f := 52) rfl ?_); refine goesL_ (some 24) rfl rfl Tryz.func52 (by kernel_rfl) rfl #[.string (t213.extract 1 t213.size), .string (⟨#[48]⟩ : ByteArray)] rfl (by (try simp only [List.map_toArray, List.map_cons, List.map_nil]); first | done | rfl | (simp only [List.length_drop, List.length_take]; rfl)) ?_; (with_reducible refine (strings_TrimRight.calls (t213.extract 1 t213.size) (⟨#[48]⟩ : ByteArray) t214 _ A12.out).mono ?_); rintro e w23 ⟨rfl, hb⟩; refine ⟨_, rfl, ?_⟩; have n0_ := Aside0.mk (blk_below (g := gb209) (o := .cells #[.bool a0_0, .int .i64 a0_1] 34 (0, 0)) (by (with_reducible repeat (first | refine blk_drewN ?_ _ | refine blk_drew ?_ | refine blk_alloc ?_ _)); exact BK209.out) hb); have n1_ := Aside0.mk (below_step (by repeat (first | (with_reducible first | exact HB.out | apply below_alloc | apply pw_below_drewN | apply below_drew1 | refine below_set ?_ GE209.out) | exact HB.out)) hb); clear BK209; clear HB; have BK209 := n0_; have HB := n1_; clear n0_ n1_; (try clear hb); (try clear hb2); (try clear hk); (try clear hi); have hcz24_0 : w23.cell? ⟨gb209, 0, none⟩ = some (.bool a0_0) := (blk_cell BK209.out 0).trans rfl; have hcz24_1 : w23.cell? ⟨gb209, 1, none⟩ = some (.int .i64 a0_1) := (blk_cell BK209.out 1).trans rfl; have hfz24_0 := blk_frozen BK209.out 0; have hfz24_1 := blk_frozen BK209.out 1))
        go_ret
        exact ⟨by first | rfl | (simp [errW_none, errW_some] <;> rfl) | (simp [*, errW_none, errW_some] <;> rfl), by repeat (first | (with_reducible first | exact HB.out | apply below_alloc | apply pw_below_drewN | apply below_drew1 | refine below_set ?_ GE209.out) | exact HB.out)⟩
       ·rw [if_neg c16] at H
        exact absurd H (by simp)
      ·rw [if_neg c15] at H
       have c15b0 : decide (a0_1 < 0) = false := decide_eq_false c15
       clear c15
       obtain rfl := Option.some.inj H
       go_enter Tryz.func33, Tryz.ntmps33
       go_wp2_with (first | ((with_reducible refine gate_dst (N := 1) rfl ?_); refine box_event ?hg (N := 1) ?hd (cs := #[.bool a0_0, .int .i64 a0_1]) (t := 34) ?hr ?_; (case hd => rfl); (case hg => rfl); (case hr => first | (go_simp; done) | (go_simp; rfl)); intro gb209 hg w25 hbox hb; have n0_ := Aside0.mk (below_step (by repeat (first | (with_reducible first | exact HB.out | apply below_alloc | apply pw_below_drewN | apply below_drew1) | exact HB.out)) hb); have n1_ := Aside0.mk (hbox); have n2_ := Aside0.mk ((by rw [hg]; exact (below_size (by repeat (first | (with_reducible first | exact HB.out | apply below_alloc | apply pw_below_drewN | apply below_drew1) | exact HB.out))) : w.heap.size ≤ gb209)); have n3_ := Aside0.mk ((by rw [hg]; exact (below_size (by repeat (first | (with_reducible first | exact HB.out | apply below_alloc | apply pw_below_drewN | apply below_drew1) | exact HB.out))) : w.heap.size ≤ gb209)); clear HB; have HB := n0_; have BK209 := n1_; have GW209 := n2_; have GE209 := n3_; clear n0_ n1_ n2_ n3_; clear hb hbox hg; have hcz26_0 : w25.cell? ⟨gb209, 0, none⟩ = some (.bool a0_0) := (blk_cell BK209.out 0).trans rfl; have hcz26_1 : w25.cell? ⟨gb209, 1, none⟩ = some (.int .i64 a0_1) := (blk_cell BK209.out 1).trans rfl; have hfz26_0 := blk_frozen BK209.out 0; have hfz26_1 := blk_frozen BK209.out 1) | ((with_reducible refine gate_callee (f := 49) rfl ?_); refine goesL_ (some 7) rfl rfl Tryz.func49 (by kernel_rfl) rfl #[.agg #[.bool a0_0, .int .i64 a0_1]] rfl (by (try simp only [List.map_toArray, List.map_cons, List.map_nil]); first | done | rfl | (simp only [List.length_drop, List.length_take]; rfl)) ?_; (with_reducible refine (fix_over.calls a0_0 a0_1 false _ A2.out).mono ?_); rintro e w27 ⟨rfl, hb⟩; refine ⟨_, rfl, ?_⟩; have n0_ := Aside0.mk (blk_below (g := gb209) (o := .cells #[.bool a0_0, .int .i64 a0_1] 34 (0, 0)) (by (with_reducible repeat (first | refine blk_drewN ?_ _ | refine blk_drew ?_ | refine blk_alloc ?_ _)); exact BK209.out) hb); have n1_ := Aside0.mk (below_step (by repeat (first | (with_reducible first | exact HB.out | apply below_alloc | apply pw_below_drewN | apply below_drew1 | refine below_set ?_ GE209.out) | exact HB.out)) hb); clear BK209; clear HB; have BK209 := n0_; have HB := n1_; clear n0_ n1_; (try clear hb); (try clear hb2); (try clear hk); (try clear hi); have hcz28_0 : w27.cell? ⟨gb209, 0, none⟩ = some (.bool a0_0) := (blk_cell BK209.out 0).trans rfl; have hcz28_1 : w27.cell? ⟨gb209, 1, none⟩ = some (.int .i64 a0_1) := (blk_cell BK209.out 1).trans rfl; have hfz28_0 := blk_frozen BK209.out 0; have hfz28_1 := blk_frozen BK209.out 1) | ((with_reducible refine gate_callee (f := 50) rfl ?_); refine goesL_ (some 10) rfl rfl Tryz.func50 (by kernel_rfl) rfl #[.int .i64 a0_1] rfl (by (try simp only [List.map_toArray, List.map_cons, List.map_nil]); first | done | rfl | (simp only [List.length_drop, List.length_take]; rfl)) ?_; (with_reducible refine (fix_size.calls a0_1 t211 _ A7.out).mono ?_); rintro e w' ⟨rfl, ⟨nd, rfl⟩⟩; refine ⟨_, rfl, ?_⟩) | ((with_reducible refine gate_callee (f := 51) rfl ?_); refine goesL_ (some 13) rfl rfl Tryz.func51 (by kernel_rfl) rfl #[.int .u64 (IntKind.u64.wrap (Int.tdiv t211 1000000)), .int .i64 10] rfl (by (try simp only [List.map_toArray, List.map_cons, List.map_nil]); first | done | rfl | (simp only [List.length_drop, List.length_take]; rfl)) ?_; (with_reducible refine (strconv_FormatUint.calls (IntKind.u64.wrap (Int.tdiv t211 1000000)) 10 t212 _ ?side1 A8.out).mono ?_); (case side1 => exact LaidW.below HLW.out (by repeat (first | (with_reducible first | exact HB.out | apply below_alloc | apply pw_below_drewN | apply below_drew1) | exact HB.out | (refine below_set ?_ (Aside0.out ?hge); (case hge => assumption))))); rintro e w29 ⟨rfl, hb⟩; refine ⟨_, rfl, ?_⟩; have n0_ := Aside0.mk (blk_below (g := gb209) (o := .cells #[.bool a0_0, .int .i64 a0_1] 34 (0, 0)) (by (with_reducible repeat (first | refine blk_drewN ?_ _ | refine blk_drew ?_ | refine blk_alloc ?_ _)); exact BK209.out) hb); have n1_ := Aside0.mk (below_step (by repeat (first | (with_reducible first | exact HB.out | apply below_alloc | apply pw_below_drewN | apply below_drew1 | refine below_set ?_ GE209.out) | exact HB.out)) hb); clear BK209; clear HB; have BK209 := n0_; have HB := n1_; clear n0_ n1_; (try clear hb); (try clear hb2); (try clear hk); (try clear hi)) | ((with_reducible refine gate_callee (f := 51) rfl ?_); refine goesL_ (some 17) rfl rfl Tryz.func51 (by kernel_rfl) rfl #[.int .u64 (IntKind.u64.wrap ((Int.tmod t211 1000000) + 1000000)), .int .i64 10] rfl (by (try simp only [List.map_toArray, List.map_cons, List.map_nil]); first | done | rfl | (simp only [List.length_drop, List.length_take]; rfl)) ?_; (with_reducible refine (strconv_FormatUint.calls (IntKind.u64.wrap ((Int.tmod t211 1000000) + 1000000)) 10 t213 _ ?side1 A9.out).mono ?_); (case side1 => exact LaidW.below HLW.out (by repeat (first | (with_reducible first | exact HB.out | apply below_alloc | apply pw_below_drewN | apply below_drew1) | exact HB.out | (refine below_set ?_ (Aside0.out ?hge); (case hge => assumption))))); rintro e w30 ⟨rfl, hb⟩; refine ⟨_, rfl, ?_⟩; have n0_ := Aside0.mk (blk_below (g := gb209) (o := .cells #[.bool a0_0, .int .i64 a0_1] 34 (0, 0)) (by (with_reducible repeat (first | refine blk_drewN ?_ _ | refine blk_drew ?_ | refine blk_alloc ?_ _)); exact BK209.out) hb); have n1_ := Aside0.mk (below_step (by repeat (first | (with_reducible first | exact HB.out | apply below_alloc | apply pw_below_drewN | apply below_drew1 | refine below_set ?_ GE209.out) | exact HB.out)) hb); clear BK209; clear HB; have BK209 := n0_; have HB := n1_; clear n0_ n1_; (try clear hb); (try clear hb2); (try clear hk); (try clear hi)) | ((with_reducible refine gate_callee (f := 52) rfl ?_); refine goesL_ (some 24) rfl rfl Tryz.func52 (by kernel_rfl) rfl #[.string (t213.extract 1 t213.size), .string (⟨#[48]⟩ : ByteArray)] rfl (by (try simp only [List.map_toArray, List.map_cons, List.map_nil]); first | done | rfl | (simp only [List.length_drop, List.length_take]; rfl)) ?_; (with_reducible refine (strings_TrimRight.calls (t213.extract 1 t213.size) (⟨#[48]⟩ : ByteArray) t214 _ A12.out).mono ?_); rintro e w31 ⟨rfl, hb⟩; refine ⟨_, rfl, ?_⟩; have n0_ := Aside0.mk (blk_below (g := gb209) (o := .cells #[.bool a0_0, .int .i64 a0_1] 34 (0, 0)) (by (with_reducible repeat (first | refine blk_drewN ?_ _ | refine blk_drew ?_ | refine blk_alloc ?_ _)); exact BK209.out) hb); have n1_ := Aside0.mk (below_step (by repeat (first | (with_reducible first | exact HB.out | apply below_alloc | apply pw_below_drewN | apply below_drew1 | refine below_set ?_ GE209.out) | exact HB.out)) hb); clear BK209; clear HB; have BK209 := n0_; have HB := n1_; clear n0_ n1_; (try clear hb); (try clear hb2); (try clear hk); (try clear hi); have hcz32_0 : w31.cell? ⟨gb209, 0, none⟩ = some (.bool a0_0) := (blk_cell BK209.out 0).trans rfl; have hcz32_1 : w31.cell? ⟨gb209, 1, none⟩ = some (.int .i64 a0_1) := (blk_cell BK209.out 1).trans rfl; have hfz32_0 := blk_frozen BK209.out 0; have hfz32_1 := blk_frozen BK209.out 1))
       go_ret
       exact ⟨by first | rfl | (simp [errW_none, errW_some] <;> rfl) | (simp [*, errW_none, errW_some] <;> rfl), by repeat (first | (with_reducible first | exact HB.out | apply below_alloc | apply pw_below_drewN | apply below_drew1 | refine below_set ?_ GE209.out) | exact HB.out)⟩
     ·rw [if_neg c14] at H
      exact absurd H (by simp)
    ·rw [if_neg c13] at H
     exact absurd H (by simp)
   ·rw [if_neg c11] at H
    have c11b0 : decide (0 < (Int.tmod t211 1000000)) = false := decide_eq_false c11
    clear c11
    by_cases c33 : a0_1 < 0
    ·rw [if_pos c33] at H
     have c33b0 : decide (a0_1 < 0) = true := decide_eq_true c33
     clear c33
     by_cases c34 : 1 + t212.size ≤ 9223372036854775807
     ·rw [if_pos c34] at H
      have c34b0 := eq_true c34
      have c34b1 : decide (1 + t212.size ≤ 9223372036854775807) = true := decide_eq_true c34
      try have c34b2 : (9223372036854775807 < 1 + t212.size) = False := eq_false (Nat.not_lt.2 c34)
      obtain rfl := Option.some.inj H
      go_enter Tryz.func33, Tryz.ntmps33
      go_wp2_with (first | ((with_reducible refine gate_dst (N := 1) rfl ?_); refine box_event ?hg (N := 1) ?hd (cs := #[.bool a0_0, .int .i64 a0_1]) (t := 34) ?hr ?_; (case hd => rfl); (case hg => rfl); (case hr => first | (go_simp; done) | (go_simp; rfl)); intro gb209 hg w35 hbox hb; have n0_ := Aside0.mk (below_step (by repeat (first | (with_reducible first | exact HB.out | apply below_alloc | apply pw_below_drewN | apply below_drew1) | exact HB.out)) hb); have n1_ := Aside0.mk (hbox); have n2_ := Aside0.mk ((by rw [hg]; exact (below_size (by repeat (first | (with_reducible first | exact HB.out | apply below_alloc | apply pw_below_drewN | apply below_drew1) | exact HB.out))) : w.heap.size ≤ gb209)); have n3_ := Aside0.mk ((by rw [hg]; exact (below_size (by repeat (first | (with_reducible first | exact HB.out | apply below_alloc | apply pw_below_drewN | apply below_drew1) | exact HB.out))) : w.heap.size ≤ gb209)); clear HB; have HB := n0_; have BK209 := n1_; have GW209 := n2_; have GE209 := n3_; clear n0_ n1_ n2_ n3_; clear hb hbox hg; have hcz36_0 : w35.cell? ⟨gb209, 0, none⟩ = some (.bool a0_0) := (blk_cell BK209.out 0).trans rfl; have hcz36_1 : w35.cell? ⟨gb209, 1, none⟩ = some (.int .i64 a0_1) := (blk_cell BK209.out 1).trans rfl; have hfz36_0 := blk_frozen BK209.out 0; have hfz36_1 := blk_frozen BK209.out 1) | ((with_reducible refine gate_callee (f := 49) rfl ?_); refine goesL_ (some 7) rfl rfl Tryz.func49 (by kernel_rfl) rfl #[.agg #[.bool a0_0, .int .i64 a0_1]] rfl (by (try simp only [List.map_toArray, List.map_cons, List.map_nil]); first | done | rfl | (simp only [List.length_drop, List.length_take]; rfl)) ?_; (with_reducible refine (fix_over.calls a0_0 a0_1 false _ A2.out).mono ?_); rintro e w37 ⟨rfl, hb⟩; refine ⟨_, rfl, ?_⟩; have n0_ := Aside0.mk (blk_below (g := gb209) (o := .cells #[.bool a0_0, .int .i64 a0_1] 34 (0, 0)) (by (with_reducible repeat (first | refine blk_drewN ?_ _ | refine blk_drew ?_ | refine blk_alloc ?_ _)); exact BK209.out) hb); have n1_ := Aside0.mk (below_step (by repeat (first | (with_reducible first | exact HB.out | apply below_alloc | apply pw_below_drewN | apply below_drew1 | refine below_set ?_ GE209.out) | exact HB.out)) hb); clear BK209; clear HB; have BK209 := n0_; have HB := n1_; clear n0_ n1_; (try clear hb); (try clear hb2); (try clear hk); (try clear hi); have hcz38_0 : w37.cell? ⟨gb209, 0, none⟩ = some (.bool a0_0) := (blk_cell BK209.out 0).trans rfl; have hcz38_1 : w37.cell? ⟨gb209, 1, none⟩ = some (.int .i64 a0_1) := (blk_cell BK209.out 1).trans rfl; have hfz38_0 := blk_frozen BK209.out 0; have hfz38_1 := blk_frozen BK209.out 1) | ((with_reducible refine gate_callee (f := 50) rfl ?_); refine goesL_ (some 10) rfl rfl Tryz.func50 (by kernel_rfl) rfl #[.int .i64 a0_1] rfl (by (try simp only [List.map_toArray, List.map_cons, List.map_nil]); first | done | rfl | (simp only [List.length_drop, List.length_take]; rfl)) ?_; (with_reducible refine (fix_size.calls a0_1 t211 _ A7.out).mono ?_); rintro e w' ⟨rfl, ⟨nd, rfl⟩⟩; refine ⟨_, rfl, ?_⟩) | ((with_reducible refine gate_callee (f := 51) rfl ?_); refine goesL_ (some 13) rfl rfl Tryz.func51 (by kernel_rfl) rfl #[.int .u64 (IntKind.u64.wrap (Int.tdiv t211 1000000)), .int .i64 10] rfl (by (try simp only [List.map_toArray, List.map_cons, List.map_nil]); first | done | rfl | (simp only [List.length_drop, List.length_take]; rfl)) ?_; (with_reducible refine (strconv_FormatUint.calls (IntKind.u64.wrap (Int.tdiv t211 1000000)) 10 t212 _ ?side1 A8.out).mono ?_); (case side1 => exact LaidW.below HLW.out (by repeat (first | (with_reducible first | exact HB.out | apply below_alloc | apply pw_below_drewN | apply below_drew1) | exact HB.out | (refine below_set ?_ (Aside0.out ?hge); (case hge => assumption))))); rintro e w39 ⟨rfl, hb⟩; refine ⟨_, rfl, ?_⟩; have n0_ := Aside0.mk (blk_below (g := gb209) (o := .cells #[.bool a0_0, .int .i64 a0_1] 34 (0, 0)) (by (with_reducible repeat (first | refine blk_drewN ?_ _ | refine blk_drew ?_ | refine blk_alloc ?_ _)); exact BK209.out) hb); have n1_ := Aside0.mk (below_step (by repeat (first | (with_reducible first | exact HB.out | apply below_alloc | apply pw_below_drewN | apply below_drew1 | refine below_set ?_ GE209.out) | exact HB.out)) hb); clear BK209; clear HB; have BK209 := n0_; have HB := n1_; clear n0_ n1_; (try clear hb); (try clear hb2); (try clear hk); (try clear hi)) | ((with_reducible refine gate_callee (f := 51) rfl ?_); refine goesL_ (some 17) rfl rfl Tryz.func51 (by kernel_rfl) rfl #[.int .u64 (IntKind.u64.wrap ((Int.tmod t211 1000000) + 1000000)), .int .i64 10] rfl (by (try simp only [List.map_toArray, List.map_cons, List.map_nil]); first | done | rfl | (simp only [List.length_drop, List.length_take]; rfl)) ?_; (with_reducible refine (strconv_FormatUint.calls (IntKind.u64.wrap ((Int.tmod t211 1000000) + 1000000)) 10 t213 _ ?side1 A9.out).mono ?_); (case side1 => exact LaidW.below HLW.out (by repeat (first | (with_reducible first | exact HB.out | apply below_alloc | apply pw_below_drewN | apply below_drew1) | exact HB.out | (refine below_set ?_ (Aside0.out ?hge); (case hge => assumption))))); rintro e w40 ⟨rfl, hb⟩; refine ⟨_, rfl, ?_⟩; have n0_ := Aside0.mk (blk_below (g := gb209) (o := .cells #[.bool a0_0, .int .i64 a0_1] 34 (0, 0)) (by (with_reducible repeat (first | refine blk_drewN ?_ _ | refine blk_drew ?_ | refine blk_alloc ?_ _)); exact BK209.out) hb); have n1_ := Aside0.mk (below_step (by repeat (first | (with_reducible first | exact HB.out | apply below_alloc | apply pw_below_drewN | apply below_drew1 | refine below_set ?_ GE209.out) | exact HB.out)) hb); clear BK209; clear HB; have BK209 := n0_; have HB := n1_; clear n0_ n1_; (try clear hb); (try clear hb2); (try clear hk); (try clear hi); have hcz41_0 : w40.cell? ⟨gb209, 0, none⟩ = some (.bool a0_0) := (blk_cell BK209.out 0).trans rfl; have hcz41_1 : w40.cell? ⟨gb209, 1, none⟩ = some (.int .i64 a0_1) := (blk_cell BK209.out 1).trans rfl; have hfz41_0 := blk_frozen BK209.out 0; have hfz41_1 := blk_frozen BK209.out 1))
      go_ret
      exact ⟨by first | rfl | (simp [errW_none, errW_some] <;> rfl) | (simp [*, errW_none, errW_some] <;> rfl), by repeat (first | (with_reducible first | exact HB.out | apply below_alloc | apply pw_below_drewN | apply below_drew1 | refine below_set ?_ GE209.out) | exact HB.out)⟩
     ·rw [if_neg c34] at H
      exact absurd H (by simp)
    ·rw [if_neg c33] at H
     have c33b0 : decide (a0_1 < 0) = false := decide_eq_false c33
     clear c33
     obtain rfl := Option.some.inj H
     go_enter Tryz.func33, Tryz.ntmps33
     go_wp2_with (first | ((with_reducible refine gate_dst (N := 1) rfl ?_); refine box_event ?hg (N := 1) ?hd (cs := #[.bool a0_0, .int .i64 a0_1]) (t := 34) ?hr ?_; (case hd => rfl); (case hg => rfl); (case hr => first | (go_simp; done) | (go_simp; rfl)); intro gb209 hg w42 hbox hb; have n0_ := Aside0.mk (below_step (by repeat (first | (with_reducible first | exact HB.out | apply below_alloc | apply pw_below_drewN | apply below_drew1) | exact HB.out)) hb); have n1_ := Aside0.mk (hbox); have n2_ := Aside0.mk ((by rw [hg]; exact (below_size (by repeat (first | (with_reducible first | exact HB.out | apply below_alloc | apply pw_below_drewN | apply below_drew1) | exact HB.out))) : w.heap.size ≤ gb209)); have n3_ := Aside0.mk ((by rw [hg]; exact (below_size (by repeat (first | (with_reducible first | exact HB.out | apply below_alloc | apply pw_below_drewN | apply below_drew1) | exact HB.out))) : w.heap.size ≤ gb209)); clear HB; have HB := n0_; have BK209 := n1_; have GW209 := n2_; have GE209 := n3_; clear n0_ n1_ n2_ n3_; clear hb hbox hg; have hcz43_0 : w42.cell? ⟨gb209, 0, none⟩ = some (.bool a0_0) := (blk_cell BK209.out 0).trans rfl; have hcz43_1 : w42.cell? ⟨gb209, 1, none⟩ = some (.int .i64 a0_1) := (blk_cell BK209.out 1).trans rfl; have hfz43_0 := blk_frozen BK209.out 0; have hfz43_1 := blk_frozen BK209.out 1) | ((with_reducible refine gate_callee (f := 49) rfl ?_); refine goesL_ (some 7) rfl rfl Tryz.func49 (by kernel_rfl) rfl #[.agg #[.bool a0_0, .int .i64 a0_1]] rfl (by (try simp only [List.map_toArray, List.map_cons, List.map_nil]); first | done | rfl | (simp only [List.length_drop, List.length_take]; rfl)) ?_; (with_reducible refine (fix_over.calls a0_0 a0_1 false _ A2.out).mono ?_); rintro e w44 ⟨rfl, hb⟩; refine ⟨_, rfl, ?_⟩; have n0_ := Aside0.mk (blk_below (g := gb209) (o := .cells #[.bool a0_0, .int .i64 a0_1] 34 (0, 0)) (by (with_reducible repeat (first | refine blk_drewN ?_ _ | refine blk_drew ?_ | refine blk_alloc ?_ _)); exact BK209.out) hb); have n1_ := Aside0.mk (below_step (by repeat (first | (with_reducible first | exact HB.out | apply below_alloc | apply pw_below_drewN | apply below_drew1 | refine below_set ?_ GE209.out) | exact HB.out)) hb); clear BK209; clear HB; have BK209 := n0_; have HB := n1_; clear n0_ n1_; (try clear hb); (try clear hb2); (try clear hk); (try clear hi); have hcz45_0 : w44.cell? ⟨gb209, 0, none⟩ = some (.bool a0_0) := (blk_cell BK209.out 0).trans rfl; have hcz45_1 : w44.cell? ⟨gb209, 1, none⟩ = some (.int .i64 a0_1) := (blk_cell BK209.out 1).trans rfl; have hfz45_0 := blk_frozen BK209.out 0; have hfz45_1 := blk_frozen BK209.out 1) | ((with_reducible refine gate_callee (f := 50) rfl ?_); refine goesL_ (some 10) rfl rfl Tryz.func50 (by kernel_rfl) rfl #[.int .i64 a0_1] rfl (by (try simp only [List.map_toArray, List.map_cons, List.map_nil]); first | done | rfl | (simp only [List.length_drop, List.length_take]; rfl)) ?_; (with_reducible refine (fix_size.calls a0_1 t211 _ A7.out).mono ?_); rintro e w' ⟨rfl, ⟨nd, rfl⟩⟩; refine ⟨_, rfl, ?_⟩) | ((with_reducible refine gate_callee (f := 51) rfl ?_); refine goesL_ (some 13) rfl rfl Tryz.func51 (by kernel_rfl) rfl #[.int .u64 (IntKind.u64.wrap (Int.tdiv t211 1000000)), .int .i64 10] rfl (by (try simp only [List.map_toArray, List.map_cons, List.map_nil]); first | done | rfl | (simp only [List.length_drop, List.length_take]; rfl)) ?_; (with_reducible refine (strconv_FormatUint.calls (IntKind.u64.wrap (Int.tdiv t211 1000000)) 10 t212 _ ?side1 A8.out).mono ?_); (case side1 => exact LaidW.below HLW.out (by repeat (first | (with_reducible first | exact HB.out | apply below_alloc | apply pw_below_drewN | apply below_drew1) | exact HB.out | (refine below_set ?_ (Aside0.out ?hge); (case hge => assumption))))); rintro e w46 ⟨rfl, hb⟩; refine ⟨_, rfl, ?_⟩; have n0_ := Aside0.mk (blk_below (g := gb209) (o := .cells #[.bool a0_0, .int .i64 a0_1] 34 (0, 0)) (by (with_reducible repeat (first | refine blk_drewN ?_ _ | refine blk_drew ?_ | refine blk_alloc ?_ _)); exact BK209.out) hb); have n1_ := Aside0.mk (below_step (by repeat (first | (with_reducible first | exact HB.out | apply below_alloc | apply pw_below_drewN | apply below_drew1 | refine below_set ?_ GE209.out) | exact HB.out)) hb); clear BK209; clear HB; have BK209 := n0_; have HB := n1_; clear n0_ n1_; (try clear hb); (try clear hb2); (try clear hk); (try clear hi)) | ((with_reducible refine gate_callee (f := 51) rfl ?_); refine goesL_ (some 17) rfl rfl Tryz.func51 (by kernel_rfl) rfl #[.int .u64 (IntKind.u64.wrap ((Int.tmod t211 1000000) + 1000000)), .int .i64 10] rfl (by (try simp only [List.map_toArray, List.map_cons, List.map_nil]); first | done | rfl | (simp only [List.length_drop, List.length_take]; rfl)) ?_; (with_reducible refine (strconv_FormatUint.calls (IntKind.u64.wrap ((Int.tmod t211 1000000) + 1000000)) 10 t213 _ ?side1 A9.out).mono ?_); (case side1 => exact LaidW.below HLW.out (by repeat (first | (with_reducible first | exact HB.out | apply below_alloc | apply pw_below_drewN | apply below_drew1) | exact HB.out | (refine below_set ?_ (Aside0.out ?hge); (case hge => assumption))))); rintro e w47 ⟨rfl, hb⟩; refine ⟨_, rfl, ?_⟩; have n0_ := Aside0.mk (blk_below (g := gb209) (o := .cells #[.bool a0_0, .int .i64 a0_1] 34 (0, 0)) (by (with_reducible repeat (first | refine blk_drewN ?_ _ | refine blk_drew ?_ | refine blk_alloc ?_ _)); exact BK209.out) hb); have n1_ := Aside0.mk (below_step (by repeat (first | (with_reducible first | exact HB.out | apply below_alloc | apply pw_below_drewN | apply below_drew1 | refine below_set ?_ GE209.out) | exact HB.out)) hb); clear BK209; clear HB; have BK209 := n0_; have HB := n1_; clear n0_ n1_; (try clear hb); (try clear hb2); (try clear hk); (try clear hi); have hcz48_0 : w47.cell? ⟨gb209, 0, none⟩ = some (.bool a0_0) := (blk_cell BK209.out 0).trans rfl; have hcz48_1 : w47.cell? ⟨gb209, 1, none⟩ = some (.int .i64 a0_1) := (blk_cell BK209.out 1).trans rfl; have hfz48_0 := blk_frozen BK209.out 0; have hfz48_1 := blk_frozen BK209.out 1))
     go_ret
     exact ⟨by first | rfl | (simp [errW_none, errW_some] <;> rfl) | (simp [*, errW_none, errW_some] <;> rfl), by repeat (first | (with_reducible first | exact HB.out | apply below_alloc | apply pw_below_drewN | apply below_drew1 | refine below_set ?_ GE209.out) | exact HB.out)⟩
  ·rw [if_neg c10] at H
   exact absurd H (by simp)

end Go.Proofs.YtnjobjogddjelaaGreatDoor.Print
end

section
namespace Go.Proofs.YtnjobjogddjelaaGreatDoor.PureN
open Go.RowKit Go.Proofs.YtnjobjogddjelaaGreatDoor.Print Go.Proofs.YtnjobjogddjelaaGreatDoor.Pure Go.Proofs.YtnjobjogddjelaaGreatDoorW.PrintWords Go.Proofs.YtnjobjogddjelaaGreatDoorW.PrintLast Go.Proofs.YtnjobjogddjelaaGreatDoorW.PrintMore

/-! A number's text. -/
theorem dec_ind {p : Nat → List UInt8 → Prop} (h1 : ∀ u, u < 10 → p u [UInt8.ofNat (48 + u)]) (h2 : ∀ u, 10 ≤ u → p (u / 10) (Lib.decDigits (u / 10)) → p u (Lib.decDigits (u / 10) ++ [UInt8.ofNat (48 + u % 10)])) : ∀ u, p u (Lib.decDigits u) := by
 intro u
 induction u using Nat.strongRecOn with
 | _ u ih =>
  rw [Lib.decDigits]
  by_cases h : u < 10
  ·rw [dif_pos h]
   exact h1 u h
  ·rw [dif_neg h]
   exact h2 u (by omega) (ih (u / 10) (by omega))
theorem dig_nat (d : Nat) (h : d < 10) : (UInt8.ofNat (48 + d)).toNat = 48 + d := by
 rw [UInt8.toNat_ofNat']
 omega
theorem dig_is (d : Nat) (h : d < 10) : isD (UInt8.ofNat (48 + d)) = true := by
 unfold isD
 rw [dig_nat d h]
 simp
 omega
theorem dec_all : ∀ u, (Lib.decDigits u).all isD = true := by
 refine dec_ind (p := fun u l => l.all isD = true) (fun u h => ?_) (fun u h ih => ?_)
 ·simp only [List.all_cons, List.all_nil, Bool.and_true]
  exact dig_is u h
 ·rw [List.all_append, ih]
  simp only [List.all_cons, List.all_nil, Bool.and_true, Bool.true_and]
  exact dig_is _ (by omega)
theorem val_one (c : UInt8) : valN [c] = c.toNat - 48 := by
 unfold valN valF
 simp
theorem dec_val : ∀ u, valN (Lib.decDigits u) = u := by
 refine dec_ind (p := fun u l => valN l = u) (fun u h => ?_) (fun u h ih => ?_)
 ·rw [val_one, dig_nat u h]
  omega
 ·rw [valN_append, ih, val_one, dig_nat _ (by omega)]
  simp only [List.length_singleton, Nat.pow_one]
  omega
theorem dec_pos : ∀ u, 1 ≤ (Lib.decDigits u).length := by
 refine dec_ind (p := fun u l => 1 ≤ l.length) (fun u h => by simp) (fun u h ih => by simp)
theorem dec_len : ∀ u k, 1 ≤ k → u < 10 ^ k → (Lib.decDigits u).length ≤ k := by
 refine dec_ind (p := fun u l => ∀ k, 1 ≤ k → u < 10 ^ k → l.length ≤ k) (fun u h k hk _ => by simpa using hk) (fun u h ih k hk hu => ?_)
 obtain ⟨k, rfl⟩ : ∃ m, k = m + 1 := ⟨k - 1, by omega⟩
 rw [List.length_append, List.length_singleton]
 rw [Nat.pow_succ] at hu
 have hk1 : 1 ≤ k := by
  rcases Nat.eq_zero_or_pos k with rfl | h'
  ·simp at hu
   omega
  ·exact h'
 have := ih k hk1 (by omega)
 omega
theorem dec_head : ∀ u, 1 ≤ u → ∃ c r, Lib.decDigits u = c :: r ∧ c.toNat ≠ 48 ∧ isD c = true := by
 refine dec_ind (p := fun u l => 1 ≤ u → ∃ c r, l = c :: r ∧ c.toNat ≠ 48 ∧ isD c = true) (fun u h hu => ?_) (fun u h ih hu => ?_)
 ·exact ⟨_, [], rfl, by rw [dig_nat u h]; omega, dig_is u h⟩
 ·obtain ⟨c, r, e, h1, h2⟩ := ih (by omega)
  exact ⟨c, r ++ [UInt8.ofNat (48 + u % 10)], by rw [e]; rfl, h1, h2⟩
theorem dec_zero : Lib.decDigits 0 = [48] := by
 rw [Lib.decDigits, dif_pos (by decide)]
 rfl
theorem dec_ok (u : Nat) (h : u < 10000000000000) : headOk (Lib.decDigits u) = true := by
 unfold headOk
 have h1 := dec_pos u
 have h2 := dec_len u 13 (by omega) (by omega)
 rw [decide_eq_true h1, decide_eq_true h2]
 by_cases z : u = 0
 ·subst z
  rw [dec_zero]
  rfl
 ·obtain ⟨c, r, e, h3, _⟩ := dec_head u (by omega)
  rw [e]
  have : ((c :: r).head? == some (48 : UInt8)) = false := by
   rw [beq_eq_false_iff_ne]
   simp only [List.head?_cons, ne_eq, Option.some.injEq]
   rintro rfl
   exact h3 rfl
  rw [this]
  simp
theorem frac (f : Nat) (h : f < 1000000) : ∃ P, Lib.decDigits (f + 1000000) = 49 :: P ∧ P.length = 6 ∧ P.all isD = true ∧ valN P = f := by
 have h1 := dec_len (f + 1000000) 7 (by omega) (by omega)
 have ha := dec_all (f + 1000000)
 have hv := dec_val (f + 1000000)
 have hlt := valN_lt _ ha
 rw [hv] at hlt
 obtain ⟨c, P, e, hc, hd⟩ := dec_head (f + 1000000) (by omega)
 rw [e] at h1 ha hv hlt
 have hl : P.length = 6 := by
  simp only [List.length_cons] at h1 hlt
  rcases Nat.lt_or_ge P.length 6 with g | g
  ·have : 10 ^ (P.length + 1) ≤ 10 ^ 6 := Nat.pow_le_pow_right (by omega) (by omega)
   omega
  ·omega
 simp only [List.all_cons, Bool.and_eq_true] at ha
 have hv2 := valN_append [c] P
 rw [List.singleton_append, hv, val_one, hl] at hv2
 have hPl := valN_lt P ha.2
 rw [hl] at hPl
 have hcd : 48 ≤ c.toNat ∧ c.toNat ≤ 57 := by
  have := ha.1
  unfold isD at this
  simpa using this
 have hc1 : c.toNat = 49 := by omega
 have : c = 49 := UInt8.toNat_inj.1 hc1
 subst this
 exact ⟨P, e, hl, ha.2, by omega⟩
theorem trim_app (l : List UInt8) (c : UInt8) : l = Lib.trimRightB l c ++ List.replicate (l.length - (Lib.trimRightB l c).length) c := by
 unfold Lib.trimRightB
 have hs := List.takeWhile_append_dropWhile (p := (· == c)) (l := l.reverse)
 have hm : ∀ d ∈ l.reverse.takeWhile (· == c), d = c := fun d hd => by
  have := takeWhile_mem (p := (· == c)) l.reverse d hd
  simpa using this
 have ht : l.reverse.takeWhile (· == c) = List.replicate (l.reverse.takeWhile (· == c)).length c := List.eq_replicate_iff.2 ⟨rfl, hm⟩
 have hlen : (l.reverse.takeWhile (· == c)).length = l.length - (l.reverse.dropWhile (· == c)).reverse.length := by
  have := congrArg List.length hs
  rw [List.length_append, List.length_reverse] at this
  rw [List.length_reverse]
  omega
 have := congrArg List.reverse hs
 rw [List.reverse_append, List.reverse_reverse, ht, List.reverse_replicate, hlen] at this
 exact this.symm
theorem trim_last (l : List UInt8) (c : UInt8) : ∀ d, (Lib.trimRightB l c).getLast? = some d → d ≠ c := by
 intro d hd
 unfold Lib.trimRightB at hd
 rw [List.getLast?_reverse] at hd
 cases hr : l.reverse.dropWhile (· == c) with
 | nil => rw [hr] at hd; simp at hd
 | cons x r =>
  have := dropWhile_head (p := (· == c)) l.reverse x r hr
  rw [hr] at hd
  simp only [List.head?_cons, Option.some.injEq] at hd
  subst hd
  simpa using this
/-- The part behind the point. -/
theorem frac_trim (f : Nat) (h : f < 1000000) (h0 : 0 < f) : ∃ p, Lib.trimRightB ((Lib.decDigits (f + 1000000)).drop 1) 48 = p ∧ partOk p = true ∧ valN p * 10 ^ (6 - p.length) = f ∧ (∀ d, p.getLast? = some d → d ≠ 48) ∧ p.length ≤ 6 ∧ p ≠ [] := by
 obtain ⟨P, e, hl, ha, hv⟩ := frac f h
 rw [e, List.drop_one, List.tail_cons]
 have ht := trim_app P 48
 have hlast := trim_last P 48
 obtain ⟨p, hp⟩ : ∃ p, Lib.trimRightB P 48 = p := ⟨_, rfl⟩
 rw [hp] at ht hlast ⊢
 have hpl : p.length ≤ 6 := by
  have := congrArg List.length ht
  rw [List.length_append, List.length_replicate] at this
  omega
 have hval : valN p * 10 ^ (6 - p.length) = f := by
  rw [← hv]
  conv => rhs; rw [ht]
  rw [valN_append, valN_zeros, List.length_replicate, hl, Nat.add_zero]
 have hne : p ≠ [] := by
  rintro rfl
  have : valN [] = 0 := rfl
  rw [this] at hval
  omega
 refine ⟨p, rfl, ?_, hval, hlast, hpl, hne⟩
 unfold partOk
 have hpa : p.all isD = true := by
  rw [ht, List.all_append] at ha
  simp only [Bool.and_eq_true] at ha
  exact ha.1
 have : 1 ≤ p.length := by
  cases p with
  | nil => exact absurd rfl hne
  | cons c p => simp
 rw [hpa, decide_eq_true this, decide_eq_true hpl]
 rfl
def bodyS (N : Nat) : List UInt8 := Lib.decDigits (N / 1000000) ++ if 0 < N % 1000000 then 46 :: Lib.trimRightB ((Lib.decDigits (N % 1000000 + 1000000)).drop 1) 48 else []
def printS (a : Bool) (n : Int) : List UInt8 := if over a n = true then [111, 118, 102] else if n < 0 then 45 :: bodyS (ab n).toNat else bodyS (ab n).toNat
theorem body_split (N : Nat) (hN : N ≤ 9223372036854775807) : (bodyS N).takeWhile isD = Lib.decDigits (N / 1000000) ∧ (bodyS N).dropWhile isD = (if 0 < N % 1000000 then 46 :: Lib.trimRightB ((Lib.decDigits (N % 1000000 + 1000000)).drop 1) 48 else []) := by
 have ha := List.all_eq_true.1 (dec_all (N / 1000000))
 have d46 : isD 46 = false := rfl
 unfold bodyS
 rw [takeWhile_app _ _ ha, dropWhile_app _ _ ha]
 by_cases c : 0 < N % 1000000
 ·rw [if_pos c, List.takeWhile_cons, List.dropWhile_cons, d46]
  simp
 ·rw [if_neg c]
  simp
theorem parse_body (neg : Bool) (N : Nat) (hN : N ≤ 9223372036854775807) : parseT neg (bodyS N) = (false, if neg then -(N : Int) else (N : Int), 0) := by
 obtain ⟨h1, h2⟩ := body_split N hN
 unfold parseT
 rw [h1, h2, dec_ok _ (by omega), if_pos rfl]
 have fin : okS (sgn neg (N : Int)) = (false, if neg then -(N : Int) else (N : Int), 0) := by
  unfold okS sgn
  rw [if_neg (by omega)]
 by_cases c : 0 < N % 1000000
 ·rw [if_pos c]
  obtain ⟨p, e, hp, hv, _⟩ := frac_trim (N % 1000000) (by omega) c
  simp only
  rw [e, if_pos ⟨trivial, hp⟩, hv, dec_val, show N / 1000000 * 1000000 + N % 1000000 = N by omega]
  exact fin
 ·rw [if_neg c, dec_val, show N / 1000000 * 1000000 = N by omega]
  exact fin
theorem body_head (N : Nat) : ∃ c r, bodyS N = c :: r ∧ isD c = true := by
 have h := dec_pos (N / 1000000)
 have ha := dec_all (N / 1000000)
 unfold bodyS
 cases e : Lib.decDigits (N / 1000000) with
 | nil => rw [e] at h; simp at h
 | cons c r =>
  rw [e] at ha
  simp only [List.all_cons, Bool.and_eq_true] at ha
  exact ⟨c, _, rfl, ha.1⟩
theorem ab_le2 {n : Int} (hn : R n) (h : n ≠ -9223372036854775808) : ab n ≤ 9223372036854775807 := by
 obtain ⟨n1, n2⟩ := hn
 unfold ab
 split <;> omega
theorem parse_print (a : Bool) (n : Int) (hn : R n) : parseS (printS a n) = if over a n = true then (true, 0, 0) else (false, n, 0) := by
 unfold printS
 cases h : over a n
 ·simp only [Bool.false_eq_true, if_false]
  obtain ⟨_, h1⟩ := not_over h
  have h2 := ab_le2 hn h1
  have h0 := ab0 n
  obtain ⟨N, hN⟩ : ∃ N : Nat, ab n = N := ⟨(ab n).toNat, by omega⟩
  rw [hN, Int.toNat_natCast]
  rw [hN] at h2
  obtain ⟨c, r, e, hc⟩ := body_head N
  have hc45 : c ≠ 45 := by rintro rfl; simp [isD] at hc
  have hc111 : c ≠ 111 := by rintro rfl; simp [isD] at hc
  unfold parseS
  by_cases s : n < 0
  ·rw [if_pos s, if_neg (by simp), List.head?_cons, if_pos rfl, List.tail_cons, parse_body true N (by omega)]
   unfold ab at hN
   rw [if_pos s] at hN
   simp only [if_true]
   rw [← hN, Int.neg_neg]
  ·rw [if_neg s]
   have g1 : bodyS N ≠ [111, 118, 102] := by
    rw [e]
    intro x
    injection x with x1 x2
    exact hc111 x1
   have g2 : ¬ (bodyS N).head? = some 45 := by
    rw [e]
    simpa using hc45
   rw [if_neg g1, if_neg g2, parse_body false N (by omega)]
   unfold ab at hN
   rw [if_neg s] at hN
   rw [hN]
   rfl
 ·rfl
theorem extract_list (l : List UInt8) (k : Nat) : (⟨l.toArray⟩ : ByteArray).extract k l.length = ⟨(l.drop k).toArray⟩ := by
 rw [ByteArray.extract_mk]
 congr 1
 apply Array.toList_inj.1
 simp only [List.extract_toArray, List.extract_eq_take_drop]
 exact List.take_of_length_le (by simp)
end Go.Proofs.YtnjobjogddjelaaGreatDoor.PureN
end

section
namespace Go.Proofs.YtnjobjogddjelaaGreatDoor.Print
open Go.Sort Go.Shelf
open Go.RowKit Go.Proofs.YtnjobjogddjelaaGreatDoorX Go.Proofs.YtnjobjogddjelaaGreatDoorW.PrintWords Go.Proofs.YtnjobjogddjelaaGreatDoorW.PrintLast Go.Proofs.YtnjobjogddjelaaGreatDoorW.PrintMore
attribute [local go_sem] max2_int min2_int max_two min_two max_three min_three max_four min_four

/-! (*strings.Builder).copyCheck, WriteByte, by hand. -/
set_option maxHeartbeats 2000000 in
set_option maxRecDepth 100000 in
theorem copyCheck_fresh (b : Nat) (w : World) (h0 : w.cell? ⟨b, 0, none⟩ = some (.pointer none)) (hsh : w.shape? b = some (60, 2)) (hfz : w.frozen? ⟨b, 0, none⟩ = false) :
  Calls Tryz.prog 55 #[.pointer (some ⟨b, 0, none⟩)] w fun e w' => e = .returned (.tuple #[]) ∧ w' = w.setCell ⟨b, 0, none⟩ (.pointer (some ⟨b, 0, none⟩)) := by
 obtain ⟨j, hj, hjs⟩ : ∃ j, Tryz.prog.info? 60 = some j ∧ j.size = 2 := Option.map_eq_some_iff.1 (by kernel_rfl : (Tryz.prog.info? 60).map (·.size) = some 2)
 have t70 : Tryz.prog.underlying 58 = some (.pointer 60) := by kernel_rfl
 have t164 : Tryz.prog.underlying 102 = some .unsafePointer := by kernel_rfl
 have lies : liesAt Tryz.prog Tryz.prog.depth 60 (2 / Tryz.prog.cellsOf 60) 0 60 1 = true := by kernel_rfl
 go_enter Tryz.func55, Tryz.ntmps55
 go_wp2
 rw [Lib.run_to_unsafe w ⟨b, 0, none⟩ t70 t164 hj (by rw [hjs]; decide) hsh (Nat.zero_lt_succ 1)]
 simp only [Result.andThen]
 rw [Oper.upon_value]
 go_wp2
 rw [run_callFunc_extern Tryz.func75 (by kernel_rfl) (by kernel_rfl) (by kernel_rfl) (e := Extern.AbiNoEscape.same) (by kernel_rfl)]
 rw [Lib.run_noEscape]
 simp only [Result.andThen]
 rw [Oper.upon_value]
 go_wp2
 rw [Lib.run_from_unsafe w ⟨b, 0, none⟩ t164 t70 hj hsh lies]
 simp only [Result.andThen]
 rw [Oper.upon_value]
 go_wp2
 go_end0
 exact ⟨rfl, rfl⟩
set_option maxHeartbeats 1000000 in
set_option maxRecDepth 100000 in
theorem copyCheck_used (b : Nat) (w : World) (h0 : w.cell? ⟨b, 0, none⟩ = some (.pointer (some ⟨b, 0, none⟩))) :
  Calls Tryz.prog 55 #[.pointer (some ⟨b, 0, none⟩)] w fun e w' => e = .returned (.tuple #[]) ∧ w' = w := by
 obtain ⟨j, hj, _⟩ : ∃ j, Tryz.prog.info? 60 = some j ∧ j.size = 2 := Option.map_eq_some_iff.1 (by kernel_rfl : (Tryz.prog.info? 60).map (·.size) = some 2)
 have t70 : Tryz.prog.underlying 58 = some (.pointer 60) := by kernel_rfl
 go_enter Tryz.func55, Tryz.ntmps55
 go_wp2
 rw [Lib.run_neq_ptr_same w _ t70 hj]
 go_wp2
 go_end0
 exact ⟨rfl, rfl⟩
theorem copyCheck_k (B b : Nat) (bs : List Value) (w : World) (h : Lib.IsBuilderF 60 5 B b bs w) :
  Calls Tryz.prog 55 #[.pointer (some ⟨b, 0, none⟩)] w fun e w' => e = .returned (.tuple #[]) ∧ (Lib.BuilderAtF 60 5 B b (.pointer (some ⟨b, 0, none⟩)) bs w' ∧ Below B w w' ∧ Lib.OthersKept 5 (some b) w w') := by
 rcases h with h | h
 ·refine (copyCheck_fresh b w h.cell0 h.shape h.frozen0).mono ?_
  rintro e w' ⟨rfl, rfl⟩
  exact ⟨rfl, h.used _, (Below.refl B w).setCell (p := ⟨b, 0, none⟩) h.1 _, (Lib.OthersKept.refl _ _ w).setCell ⟨b, 0, none⟩ rfl _⟩
 ·refine (copyCheck_used b w h.cell0).mono ?_
  rintro e w' ⟨rfl, rfl⟩
  exact ⟨rfl, h, Below.refl B _, Lib.OthersKept.refl _ _ _⟩
set_option maxHeartbeats 2000000 in
set_option maxRecDepth 100000 in
theorem WriteByte_k (B b : Nat) (bs : List Value) (c : Int) (w : World) (h : Lib.IsBuilderF 60 5 B b bs w) (hlen : bs.length + 1 ≤ 140737488355328) (hBw : B ≤ w.heap.size) :
  Calls Tryz.prog 54 #[.pointer (some ⟨b, 0, none⟩), .int .u8 c] w fun e w' => e = .returned .nilIface ∧ (Lib.BuilderAtF 60 5 B b (.pointer (some ⟨b, 0, none⟩)) (bs ++ [.int .u8 c]) w' ∧ Below B w w' ∧ Lib.OthersKept 5 (some b) w w') := by
 obtain ⟨i0, hi, hz0, hz1, hz2⟩ := info_parts (P := Tryz.prog) (e := 5) (z := .int .u8 0) (size := 1) (bytes := 1) (by kernel_rfl)
 have t37 : Tryz.prog.underlying 44 = some (.slice 5) := by kernel_rfl
 have ne5 : (60 : TypeId) ≠ 5 := by decide
 go_enter Tryz.func54, Tryz.ntmps54
 go_wp2_with (go_at_call 55; refine (copyCheck_k B b bs _ h).mono ?_)
 rintro e w1 ⟨rfl, h1, hb1, hk1⟩
 obtain ⟨hB, v, hbk, hown, hne⟩ := h1
 have c0 : w1.cell? ⟨b, 0, none⟩ = some (.pointer (some ⟨b, 0, none⟩)) := by rw [Lib.cell_of_heap hbk]; rfl
 have c1 : w1.cell? ⟨b, 1, none⟩ = some v := by rw [Lib.cell_of_heap hbk]; rfl
 go_wp2_with (at_builtin; refine wpList_append_ownF _ rfl _ _ 44 rfl B 5 i0 (.int .u8 0) 1 1 t37 hi hz0 hz1 hz2 rfl (by decide) _ _ _ rfl (hown.alloc _) ⟨w1.heap.size, 0, none⟩ 1 1 [.int .u8 c] rfl rfl ?c1 ?c2 ?c3 ?c4 ?c5 ?_)
 case c1 =>
  intro j u hj
  match j, hj with
  | 0, hj => simp at hj; subst hj; simp [Addr.add]
 case c2 => intro u hu; simp at hu; subst hu; rfl
 case c3 => unfold maxLen; omega
 case c4 => omega
 case c5 => have := hb1.size; simp; omega
 intro v' w2 hown' hgrow _
 have hlt : b < w1.heap.size := by
  rcases Nat.lt_or_ge b w1.heap.size with h' | h'
  ·exact h'
  ·simp [Array.getElem?_eq_none h'] at hbk
 have hb2 : w2.heap[b]? = some (.cells #[.pointer (some ⟨b, 0, none⟩), v] 60 (0, 0)) := by
  rw [hgrow.block b (by simp; omega) (fun e => hne e.symm), Lib.alloc_old w1 _ b hlt]
  exact hbk
 have d0 : w2.cell? ⟨b, 0, none⟩ = some (.pointer (some ⟨b, 0, none⟩)) := by rw [Lib.cell_of_heap hb2]; rfl
 have d1 : w2.cell? ⟨b, 1, none⟩ = some v := by rw [Lib.cell_of_heap hb2]; rfl
 have f1 : w2.frozen? ⟨b, 1, none⟩ = false := Lib.frozen_of_heap hb2 1
 obtain ⟨g, cap, rfl⟩ : ∃ g cap, v' = .slice (some ⟨g, 0, none⟩) (bs.length + 1) cap := by
  rcases hown'.2 with ⟨_, h0⟩ | ⟨g, cap, cur, fz, hv, _⟩
  ·omega
  ·exact ⟨g, cap, hv⟩
 go_wp2
 go_ret
 refine ⟨rfl, ?_, ?_, ((hk1.alloc _).grown hgrow (Lib.ownsRowF_kind (hown.alloc _))).setCell ⟨b, 1, none⟩ rfl _⟩
 ·exact Lib.BuilderAtF.put (T := 60) (e := 5) hB hb2 (bs' := bs ++ [.int .u8 c]) (by simpa using hown') ne5
 ·exact ((hb1.alloc (by have := hb1.size; omega) _).grown hgrow (by have := hb1.size; simp; omega) (fun k hk => (hown.lt k hk).1)).setCell (p := ⟨b, 1, none⟩) hB _
end Go.Proofs.YtnjobjogddjelaaGreatDoor.Print
end

section
namespace Go.Proofs.YtnjobjogddjelaaGreatDoor.PureN
/-- What is behind the opening quote: the text, and how many bytes with the closing quote. -/
def unq : List UInt8 → Option (List UInt8 × Nat)
 | [] => none
 | [c] => if c = 34 then some ([], 1) else none
 | c :: d :: r =>
  if c = 34 then some ([], 1)
  else if c = 92 then (if d = 34 ∨ d = 92 then (unq r).map fun x => (d :: x.1, x.2 + 2) else none)
  else (unq (d :: r)).map fun x => (c :: x.1, x.2 + 1)
def quoteB : List UInt8 → List UInt8
 | [] => []
 | c :: r => (if c = 34 ∨ c = 92 then [92, c] else [c]) ++ quoteB r
def quote (v : List UInt8) : List UInt8 := 34 :: (quoteB v ++ [34])
end Go.Proofs.YtnjobjogddjelaaGreatDoor.PureN
namespace Go.Proofs.YtnjobjogddjelaaGreatDoor.Print
open Go.Sort Go.Shelf PureN
open Go.RowKit Go.Proofs.YtnjobjogddjelaaGreatDoorX Go.Proofs.YtnjobjogddjelaaGreatDoorW.PrintWords Go.Proofs.YtnjobjogddjelaaGreatDoorW.PrintLast Go.Proofs.YtnjobjogddjelaaGreatDoorW.PrintMore
attribute [local go_sem] max2_int min2_int max_two min_two max_three min_three max_four min_four

theorem bt_drop (s : ByteArray) (x : Int) (h : x.toNat < s.size) : ∃ c : UInt8, bt s x = (c.toNat : Int) ∧ s.data.toList.drop x.toNat = c :: s.data.toList.drop (x.toNat + 1) := by
 refine ⟨s.data[x.toNat]'h, ?_, ?_⟩
 ·rw [← bt_at s x h]
  rfl
 ·rw [List.drop_eq_getElem_cons (by simpa using h)]
  simp
theorem toNat_is (c : UInt8) (n : Nat) (hn : n < 256) : (c.toNat : Int) = (n : Int) ↔ c = UInt8.ofNat n := by
 constructor
 ·intro h
  have h' : c.toNat = n := by omega
  rw [← h']
  exact UInt8.ofNat_toNat.symm
 ·rintro rfl
  simp
  omega

/-! ### label.Quote -/
def label_Quote.f (s : ByteArray) : Option ByteArray := if s.size ≤ 1000000000 then some ⟨(quote s.data.toList).toArray⟩ else none
set_option maxHeartbeats 4000000 in
set_option maxRecDepth 100000 in
theorem label_Quote.calls (s r : ByteArray) (w : World) (h : label_Quote.f s = some r) :
  Calls Tryz.prog 35 #[.string s] w fun e w' => e = .returned (.string r) ∧ Below w.heap.size w w' := by
 unfold label_Quote.f at h
 by_cases hs : s.size ≤ 1000000000
 ·rw [if_pos hs] at h
  obtain rfl := Option.some.inj h
  clear h
  have HS := Aside0.mk hs
  have hI0 := Aside0.mk (Lib.IsBuilderF.of (Lib.fresh_isBuilder 60 5 w))
  go_enter Tryz.func35, Tryz.ntmps35
  go_wp2_with (go_at_call 54; refine (WriteByte_k w.heap.size w.heap.size [] 34 _ hI0.out (by simp) (by simp)).mono ?_)
  rintro e w1 ⟨rfl, h1, b1, k1⟩
  have H1 := Aside0.mk h1
  have B1 := Aside0.mk (((Below.refl w.heap.size w).alloc (Nat.le_refl _) _).trans b1)
  clear h1 b1 k1 hs hI0
  go_wp2
  go_loopg [8] s.size (fun kq v8 w' => ∃ (x : Int) (acc : List UInt8), v8 = .int .i64 x ∧ Aside0 (0 ≤ x ∧ x.toNat + kq = s.size ∧ acc ++ (quoteB (s.data.toList.drop x.toNat) ++ [34]) = quote s.data.toList ∧ acc.length ≤ 1 + 2 * x.toNat) ∧ Aside0 (Lib.IsBuilderF 60 5 w.heap.size w.heap.size (Lib.byteCells acc) w') ∧ Aside0 (Below w.heap.size w w'))
  case atStart => exact ⟨0, [34], rfl, ⟨by omega, by simp, by simp [quote], by simp⟩, ⟨Or.inr H1.out⟩, B1⟩
  case round =>
   clear H1 B1
   obtain ⟨x, acc, rfl, HA, HI, HB⟩ := hrel
   obtain ⟨h0, hk, hq, hl⟩ := HA.out
   have hsz := HB.out.size
   have hlen := HS.out
   cases gk with
   | zero =>
    have c2b0 : decide (x < (s.size : Int)) = false := decide_eq_false (by omega)
    have hd : s.data.toList.drop x.toNat = [] := List.drop_eq_nil_of_le (by simp; show s.size ≤ _; omega)
    rw [hd] at hq
    clear HA
    have HQ := Aside0.mk hq
    have HL := Aside0.mk (show acc.length + 1 ≤ 140737488355328 by omega)
    have HZ := Aside0.mk hsz
    clear hq hl hk h0 hsz hlen hd
    go_wp2_with (go_at_call 54; refine (WriteByte_k w.heap.size w.heap.size _ 34 _ HI.out (by rw [Lib.byteCells_length]; exact HL.out) HZ.out).mono ?_)
    rintro e w2 ⟨rfl, h2, b2, k2⟩
    have H2 : Lib.IsBuilderF 60 5 w.heap.size w.heap.size (Lib.byteCells (acc ++ [34])) w2 := by rw [Lib.byteCells_append]; exact Or.inr h2
    have HB2 := HB.out.trans b2
    go_wp2_with (go_at_call 38; refine (Tryz.Builder_String_any_k w.heap.size w.heap.size (acc ++ [34]) _ H2 HB2.size).mono ?_)
    rintro e w3 ⟨rfl, _, b3, _⟩
    go_wp2
    go_ret
    have hq := HQ.out
    simp only [quoteB, List.nil_append] at hq
    rw [hq]
    exact ⟨rfl, HB2.trans b3⟩
   | succ k1 =>
    have c2b0 : decide (x < (s.size : Int)) = true := decide_eq_true (by omega)
    have hx : x.toNat < s.size := by omega
    obtain ⟨c, hc, hd⟩ := bt_drop s x hx
    have p4 : (0 ≤ x) = True := eq_true h0
    have q4 : (x < (s.size : Int)) = True := eq_true (by omega)
    have hx4 := bt_at s x
    have hw : wrap64 (x + 1) = x + 1 := by unfold wrap64; omega
    rw [hd, quoteB] at hq
    have hZ := Aside0.mk hsz
    by_cases c1 : c = 34 ∨ c = 92
    ·rw [if_pos c1] at hq
     have HQ := Aside0.mk hq
     have HL := Aside0.mk (show acc.length + 2 ≤ 140737488355328 by omega)
     have HL2 := Aside0.mk hl
     have HK := Aside0.mk (And.intro h0 hk)
     have HC := Aside0.mk hc
     have tests : ((bt s x == 34) = true) ∨ ((bt s x == 34) = false ∧ (bt s x == 92) = true) := by
      rcases c1 with rfl | rfl
      ·exact Or.inl (by rw [hc]; rfl)
      ·exact Or.inr (by rw [hc]; exact ⟨rfl, rfl⟩)
     clear HA hq hl hk hsz hlen hd hc c1 h0
     rcases tests with f1 | ⟨f1, f2⟩
     all_goals
      go_wp2_with (go_at_call 54; refine (WriteByte_k w.heap.size w.heap.size _ 92 _ HI.out (by rw [Lib.byteCells_length]; have := HL.out; omega) hZ.out).mono ?_)
      rintro e w2 ⟨rfl, h2, b2, k2⟩
      have H2 : Lib.IsBuilderF 60 5 w.heap.size w.heap.size (Lib.byteCells (acc ++ [92])) w2 := by rw [Lib.byteCells_append]; exact Or.inr h2
      have HB2 := Aside0.mk (HB.out.trans b2)
      have HI2 := Aside0.mk H2
      clear h2 b2 k2 H2
      go_wp2_with (go_at_call 54; refine (WriteByte_k w.heap.size w.heap.size _ (bt s x) _ HI2.out (by rw [Lib.byteCells_length, List.length_append]; have := HL.out; simp; omega) HB2.out.size).mono ?_)
      rintro e w3 ⟨rfl, h3, b3, k3⟩
      have H3 : Lib.IsBuilderF 60 5 w.heap.size w.heap.size (Lib.byteCells ((acc ++ [92]) ++ [c])) w3 := by rw [Lib.byteCells_append]; refine Or.inr ?_; rw [HC.out] at h3; exact h3
      have HB3 := Aside0.mk (HB2.out.trans b3)
      have HI3 := Aside0.mk H3
      clear h3 b3 k3 H3
      go_wp2
      go_roundg k1
      case measure => omega
      case rel =>
       refine ⟨x + 1, acc ++ [92] ++ [c], by rw [hw], ⟨?_, ?_, ?_, ?_⟩, HI3, HB3⟩
       ·have := HK.out.1; omega
       ·have := HK.out; omega
       ·rw [← HQ.out, show (x + 1).toNat = x.toNat + 1 by have := HK.out.1; omega]; simp
       ·have := HL2.out; have := HK.out.1; simp; omega
    ·rw [if_neg c1] at hq
     have HQ := Aside0.mk hq
     have HL := Aside0.mk (show acc.length + 2 ≤ 140737488355328 by omega)
     have HL2 := Aside0.mk hl
     have HK := Aside0.mk (And.intro h0 hk)
     have HC := Aside0.mk hc
     have f1 : (bt s x == 34) = false := by rw [hc]; exact beq_eq_false_iff_ne.mpr (fun e => c1 (Or.inl ((toNat_is c 34 (by omega)).1 e)))
     have f2 : (bt s x == 92) = false := by rw [hc]; exact beq_eq_false_iff_ne.mpr (fun e => c1 (Or.inr ((toNat_is c 92 (by omega)).1 e)))
     clear HA hq hl hk hsz hlen hd hc c1 h0
     go_wp2_with (go_at_call 54; refine (WriteByte_k w.heap.size w.heap.size _ (bt s x) _ HI.out (by rw [Lib.byteCells_length]; have := HL.out; omega) hZ.out).mono ?_)
     rintro e w3 ⟨rfl, h3, b3, k3⟩
     have H3 : Lib.IsBuilderF 60 5 w.heap.size w.heap.size (Lib.byteCells (acc ++ [c])) w3 := by rw [Lib.byteCells_append]; refine Or.inr ?_; rw [HC.out] at h3; exact h3
     have HB3 := Aside0.mk (HB.out.trans b3)
     have HI3 := Aside0.mk H3
     clear h3 b3 k3 H3
     go_wp2
     go_roundg k1
     case measure => omega
     case rel =>
      refine ⟨x + 1, acc ++ [c], by rw [hw], ⟨?_, ?_, ?_, ?_⟩, HI3, HB3⟩
      ·have := HK.out.1; omega
      ·have := HK.out; omega
      ·rw [← HQ.out, show (x + 1).toNat = x.toNat + 1 by have := HK.out.1; omega]; simp
      ·have := HL2.out; have := HK.out.1; simp; omega
 ·rw [if_neg hs] at h
  exact absurd h (by simp)

/-! ### label.Unquote -/
def fin (s : ByteArray) (acc l : List UInt8) : ByteArray × ByteArray × Bool :=
 match unq l with
 | some y => (⟨(acc ++ y.1).toArray⟩, ⟨(l.drop y.2).toArray⟩, true)
 | none => (⟨#[]⟩, s, false)
theorem unq_34 (l : List UInt8) : unq (34 :: l) = some ([], 1) := by cases l <;> simp [unq]
theorem unq_ord (c : UInt8) (l : List UInt8) (h : ¬ (c = 34 ∨ c = 92)) : unq (c :: l) = (unq l).map fun x => (c :: x.1, x.2 + 1) := by
 cases l with
 | nil => simp only [unq]; rw [if_neg (fun e => h (Or.inl e))]; rfl
 | cons d r => rw [unq, if_neg (fun e => h (Or.inl e)), if_neg (fun e => h (Or.inr e))]
theorem unq_esc (d : UInt8) (l : List UInt8) : unq (92 :: d :: l) = if d = 34 ∨ d = 92 then (unq l).map fun x => (d :: x.1, x.2 + 2) else none := by
 rw [unq, if_neg (by decide), if_pos rfl]
theorem fin_34 (s : ByteArray) (acc l : List UInt8) : fin s acc (34 :: l) = (⟨acc.toArray⟩, ⟨l.toArray⟩, true) := by
 unfold fin
 rw [unq_34]
 simp
theorem fin_ord (s : ByteArray) (acc l : List UInt8) (c : UInt8) (h : ¬ (c = 34 ∨ c = 92)) : fin s acc (c :: l) = fin s (acc ++ [c]) l := by
 unfold fin
 rw [unq_ord c l h]
 cases unq l <;> simp
theorem fin_esc (s : ByteArray) (acc l : List UInt8) (d : UInt8) (h : d = 34 ∨ d = 92) : fin s acc (92 :: d :: l) = fin s (acc ++ [d]) l := by
 unfold fin
 rw [unq_esc d l, if_pos h]
 cases unq l <;> simp
theorem fin_bad (s : ByteArray) (acc l : List UInt8) (d : UInt8) (h : ¬ (d = 34 ∨ d = 92)) : fin s acc (92 :: d :: l) = (⟨#[]⟩, s, false) := by
 unfold fin
 rw [unq_esc d l, if_neg h]
theorem fin_nil (s : ByteArray) (acc : List UInt8) : fin s acc [] = (⟨#[]⟩, s, false) := by
 unfold fin
 rw [unq]
theorem fin_one (s : ByteArray) (acc : List UInt8) : fin s acc [92] = (⟨#[]⟩, s, false) := by
 unfold fin
 rw [unq, if_neg (by decide)]
def unqR (s : ByteArray) : ByteArray × ByteArray × Bool :=
 match s.data.toList with
 | [] => (⟨#[]⟩, s, false)
 | c :: r => if c = 34 then fin s [] r else (⟨#[]⟩, s, false)
theorem extract_is (s : ByteArray) (n : Nat) (l : List UInt8) (h : s.data.toList.drop n = l) : s.extract n s.size = ⟨l.toArray⟩ := by
 subst h
 apply ByteArray.ext
 apply Array.ext'
 rw [ByteArray.data_extract, Array.toList_extract]
 show ((s.data.toList.drop n).take (s.data.size - n)) = _
 rw [List.take_of_length_le (by simp)]
theorem bf_drew {T e : TypeId} {B b : Nat} {bs : List Value} {w : World} (h : Lib.IsBuilderF T e B b bs w) : Lib.IsBuilderF T e B b bs w.drew := h.elim (fun x => .inl x.drew) (fun x => .inr x.drew)
def label_Unquote.f (s : ByteArray) : Option (ByteArray × ByteArray × Bool) := if s.size ≤ 1000000000 then some (unqR s) else none
set_option maxHeartbeats 4000000 in
set_option maxRecDepth 100000 in
theorem label_Unquote.calls (s : ByteArray) (r1 r2 : ByteArray) (r3 : Bool) (w : World) (h : label_Unquote.f s = some (r1, r2, r3)) :
  Calls Tryz.prog 45 #[.string s] w fun e w' => e = .returned (.tuple #[.string r1, .string r2, .bool r3]) ∧ Below w.heap.size w w' := by
 unfold label_Unquote.f at h
 by_cases hs : s.size ≤ 1000000000
 ·rw [if_pos hs] at h
  have h := Option.some.inj h
  have HS := Aside0.mk hs
  by_cases c0 : s.data.toList = []
  ·have h : (⟨#[]⟩, s, false) = (r1, r2, r3) := by rw [← h]; unfold unqR; rw [c0]
   cases h
   have c0b : (s.toList == ([] : List UInt8)) = true := beq_iff_eq.mpr (by rw [← c0]; exact ByteArray.toList_eq s)
   clear hs HS c0
   go_enter Tryz.func45, Tryz.ntmps45
   go_wp2_with (first | go_in)
   go_ret3
   exact ⟨rfl, Below.refl _ _⟩
  ·have c0b : (s.toList == ([] : List UInt8)) = false := beq_eq_false_iff_ne.mpr (by rw [ByteArray.toList_eq s]; exact c0)
   have hp : 0 < s.size := by
    cases e : s.data.toList with
    | nil => exact absurd e c0
    | cons c l => have := congrArg List.length e; rw [Array.length_toList, List.length_cons] at this; show 0 < s.data.size; omega
   obtain ⟨c, hc, hd⟩ := bt_drop s 0 hp
   rw [show (0 : Int).toNat = 0 from rfl, List.drop_zero] at hd
   have q3 : (0 < s.size) = True := eq_true hp
   have hx3 : ∀ h : 0 < s.size, ((s[0]'h).toNat : Int) = bt s 0 := bt_at s 0
   have qi3 : (0 < (s.size : Int)) = True := eq_true (by omega)
   by_cases c1 : c = 34
   ·have h : fin s [] (s.data.toList.drop 1) = (r1, r2, r3) := by
     rw [← h]
     unfold unqR
     rw [hd]
     simp only [if_pos c1, List.drop_succ_cons, List.drop_zero]
    have HR := Aside0.mk h
    have f1 : (bt s 0 != 34) = false := bne_eq_false_iff_eq.mpr (by rw [hc, c1]; rfl)
    have hI0 := Aside0.mk (Lib.IsBuilderF.of (Lib.fresh_isBuilder 60 5 w))
    have HP := Aside0.mk hp
    clear hs c0 hp hc hd c1 h
    go_enter Tryz.func45, Tryz.ntmps45
    go_wp2_with (first | go_in)
    go_loopg [6] (s.size - 1) (fun kq v6 w' => ∃ (x : Int) (acc : List UInt8), v6 = .int .i64 x ∧ Aside0 (1 ≤ x ∧ x.toNat + kq = s.size ∧ fin s acc (s.data.toList.drop x.toNat) = (r1, r2, r3) ∧ acc.length ≤ x.toNat) ∧ Aside0 (Lib.IsBuilderF 60 5 w.heap.size w.heap.size (Lib.byteCells acc) w') ∧ Aside0 (Below w.heap.size w w'))
    case atStart => exact ⟨1, [], rfl, ⟨by decide, by have := HP.out; show 1 + (s.size - 1) = s.size; omega, HR.out, by simp⟩, hI0, ⟨(Below.refl w.heap.size w).alloc (Nat.le_refl _) _⟩⟩
    case round =>
     clear hI0 f1 HR q3 hx3 qi3 c0b
     obtain ⟨x, acc, rfl, HA, HI, HB⟩ := hrel
     obtain ⟨h0, hk, hq, hl⟩ := HA.out
     have hsz := HB.out.size
     have hlen := HS.out
     cases gk with
     | zero =>
      have c2b0 : decide (x < (s.size : Int)) = false := decide_eq_false (by omega)
      have hd : s.data.toList.drop x.toNat = [] := List.drop_eq_nil_of_le (by simp; show s.size ≤ _; omega)
      rw [hd, fin_nil] at hq
      cases hq
      clear HA hl hk h0 hsz hlen hd
      go_wp2
      go_ret3
      exact ⟨rfl, HB.out⟩
     | succ k1 =>
      have c2b0 : decide (x < (s.size : Int)) = true := decide_eq_true (by omega)
      have hx : x.toNat < s.size := by omega
      obtain ⟨c, hc, hd⟩ := bt_drop s x hx
      have p4 : (0 ≤ x) = True := eq_true (by omega)
      have q4 : (x < (s.size : Int)) = True := eq_true (by omega)
      have hx4 := bt_at s x
      have hw : wrap64 (x + 1) = x + 1 := by unfold wrap64; omega
      have hZ := Aside0.mk hsz
      have HK := Aside0.mk (And.intro h0 hk)
      have HL := Aside0.mk (show acc.length + 1 ≤ 140737488355328 by omega)
      have HL2 := Aside0.mk hl
      rw [hd] at hq
      by_cases c1 : c = 34
      ·rw [c1, fin_34] at hq
       have f1 : (bt s x == 34) = true := beq_iff_eq.mpr (by rw [hc, c1]; rfl)
       have he : s.extract (x + 1).toNat s.size = ⟨(s.data.toList.drop (x.toNat + 1)).toArray⟩ := by
        rw [show (x + 1).toNat = x.toNat + 1 by omega]
        exact extract_is s _ _ rfl
       have HQ := Aside0.mk hq
       have HE := Aside0.mk he
       have hw2 : IntKind.i64.wrap (x + 1) = x + 1 := by have := i64_w (x + 1); rw [this]; exact hw
       have p5 : (0 ≤ x + 1) = True := eq_true (by omega)
       have q5 : (x + 1 ≤ (s.size : Int)) = True := eq_true (by omega)
       clear HA hq hl hk hsz hlen hd hc c1 h0 he
       go_wp2
       go_region_with (go_at_call 38; refine (Tryz.Builder_String_any_k w.heap.size w.heap.size acc _ ?_ ?_).mono ?_; exact bf_drew HI.out; exact hZ.out; rintro e w3 ⟨rfl, _, b3, _⟩)
       all_goals
        go_wp2
        go_ret3
        obtain ⟨e1, e2⟩ := Prod.mk.inj HQ.out
        obtain ⟨e3, e4⟩ := Prod.mk.inj e2
        have fin_ : (Ending.returned (.tuple #[.string ⟨acc.toArray⟩, .string (s.extract (x + 1).toNat s.size), .bool true])) = .returned (.tuple #[.string r1, .string r2, .bool r3]) := by rw [HE.out, e1, e3, e4]
        exact ⟨fin_, (Below.drew HB.out).trans b3⟩
      ·have f1 : (bt s x == 34) = false := by rw [hc]; exact beq_eq_false_iff_ne.mpr (fun e => c1 ((toNat_is c 34 (by omega)).1 e))
       by_cases c2 : c = 92
       ·have f2 : (bt s x == 92) = true := beq_iff_eq.mpr (by rw [hc, c2]; rfl)
        by_cases c3 : x + 1 = (s.size : Int)
        ·have hd2 : s.data.toList.drop (x.toNat + 1) = [] := List.drop_eq_nil_of_le (by simp; show s.size ≤ _; omega)
         rw [hd2, c2, fin_one] at hq
         cases hq
         have f3 : (x + 1 == (s.size : Int)) = true := beq_iff_eq.mpr c3
         clear HA hl hk hsz hlen hd hc c1 c2 c3 h0 hd2
         go_wp2_with (first | go_in)
         go_ret3
         exact ⟨rfl, HB.out⟩
        ·have f3 : (x + 1 == (s.size : Int)) = false := beq_eq_false_iff_ne.mpr c3
         have hx5 := bt_at s (x + 1)
         have p5 : (0 ≤ x + 1) = True := eq_true (by omega)
         have q5 : (x + 1 < (s.size : Int)) = True := eq_true (by omega)
         have hn : (x + 1).toNat = x.toNat + 1 := by omega
         obtain ⟨d, hdc, hdd⟩ := bt_drop s (x + 1) (by omega)
         rw [hn] at hdd
         rw [hdd, c2] at hq
         by_cases c4 : d = 34 ∨ d = 92
         ·rw [fin_esc _ _ _ _ c4] at hq
          have tests : ((bt s (x + 1) != 34) = false) ∨ ((bt s (x + 1) != 34) = true ∧ (bt s (x + 1) != 92) = false) := by
           rcases c4 with rfl | rfl
           ·exact Or.inl (by rw [hdc]; rfl)
           ·exact Or.inr (by rw [hdc]; exact ⟨rfl, rfl⟩)
          obtain ⟨k2, rfl⟩ : ∃ k2, k1 = k2 + 1 := ⟨k1 - 1, by omega⟩
          have HQ := Aside0.mk hq
          have HC := Aside0.mk hdc
          have HN := Aside0.mk hn
          have hw3 : wrap64 (x + 1 + 1) = x + 2 := by unfold wrap64; omega
          clear HA hq hl hk hsz hlen hd hc c1 c2 c3 h0 hdd hdc c4 hn
          rcases tests with f4 | ⟨f4, f5⟩
          all_goals
           go_wp2_with (go_at_call 54; refine (WriteByte_k w.heap.size w.heap.size _ (bt s (x + 1)) _ HI.out (by rw [Lib.byteCells_length]; exact HL.out) hZ.out).mono ?_)
           rintro e w3 ⟨rfl, h3, b3, k3⟩
           have H3 : Lib.IsBuilderF 60 5 w.heap.size w.heap.size (Lib.byteCells (acc ++ [d])) w3 := by rw [Lib.byteCells_append]; refine Or.inr ?_; rw [HC.out] at h3; exact h3
           have HB3 := Aside0.mk (HB.out.trans b3)
           have HI3 := Aside0.mk H3
           clear h3 b3 k3 H3
           go_wp2
           go_roundg k2
           case measure => omega
           case rel =>
            refine ⟨x + 2, acc ++ [d], by first | rw [hw3] | (rw [hw, hw3]), ⟨?_, ?_, ?_, ?_⟩, HI3, HB3⟩
            ·have := HK.out.1; omega
            ·have := HK.out; omega
            ·rw [show (x + 2).toNat = x.toNat + 1 + 1 by have := HK.out.1; omega]; exact HQ.out
            ·have := HL2.out; have := HK.out.1; simp; omega
         ·rw [fin_bad _ _ _ _ c4] at hq
          cases hq
          have f4 : (bt s (x + 1) != 34) = true := by rw [hdc]; exact bne_iff_ne.mpr (fun e => c4 (Or.inl ((toNat_is d 34 (by omega)).1 e)))
          have f5 : (bt s (x + 1) != 92) = true := by rw [hdc]; exact bne_iff_ne.mpr (fun e => c4 (Or.inr ((toNat_is d 92 (by omega)).1 e)))
          clear HA hl hk hsz hlen hd hc c1 c2 c3 h0 hdd hdc c4 hn
          go_wp2_with (first | go_in)
          go_ret3
          exact ⟨rfl, HB.out⟩
       ·have f2 : (bt s x == 92) = false := by rw [hc]; exact beq_eq_false_iff_ne.mpr (fun e => c2 ((toNat_is c 92 (by omega)).1 e))
        rw [fin_ord _ _ _ _ (fun h => h.elim c1 c2)] at hq
        have HQ := Aside0.mk hq
        have HC := Aside0.mk hc
        clear HA hq hl hk hsz hlen hd hc c1 c2 h0
        go_wp2_with (go_at_call 54; refine (WriteByte_k w.heap.size w.heap.size _ (bt s x) _ HI.out (by rw [Lib.byteCells_length]; exact HL.out) hZ.out).mono ?_)
        rintro e w3 ⟨rfl, h3, b3, k3⟩
        have H3 : Lib.IsBuilderF 60 5 w.heap.size w.heap.size (Lib.byteCells (acc ++ [c])) w3 := by rw [Lib.byteCells_append]; refine Or.inr ?_; rw [HC.out] at h3; exact h3
        have HB3 := Aside0.mk (HB.out.trans b3)
        have HI3 := Aside0.mk H3
        clear h3 b3 k3 H3
        go_wp2
        go_roundg k1
        case measure => omega
        case rel =>
         refine ⟨x + 1, acc ++ [c], by rw [hw], ⟨?_, ?_, ?_, ?_⟩, HI3, HB3⟩
         ·have := HK.out.1; omega
         ·have := HK.out; omega
         ·rw [show (x + 1).toNat = x.toNat + 1 by have := HK.out.1; omega]; exact HQ.out
         ·have := HL2.out; have := HK.out.1; simp; omega
   ·have h : (⟨#[]⟩, s, false) = (r1, r2, r3) := by
     rw [← h]
     unfold unqR
     rw [hd]
     simp only [if_neg c1]
    cases h
    have f1 : (bt s 0 != 34) = true := bne_iff_ne.mpr (by rw [hc]; exact fun e => c1 ((toNat_is c 34 (by omega)).1 e))
    clear hs HS c0 hp hc hd c1
    go_enter Tryz.func45, Tryz.ntmps45
    go_wp2_with (first | go_in)
    go_ret3
    exact ⟨rfl, Below.refl _ _⟩
 ·rw [if_neg hs] at h
  exact absurd h (by simp)
end Go.Proofs.YtnjobjogddjelaaGreatDoor.Print
end

section
namespace Go.Proofs.YtnjobjogddjelaaGreatDoor.PureN
open Go.RowKit Go.Proofs.YtnjobjogddjelaaGreatDoor.Print Go.Proofs.YtnjobjogddjelaaGreatDoor.Pure

/-! Signs of texts, in plain Lean (lex). -/
structure Tok where
 kind : Int
 place : Int
 text : List UInt8
 v : Int
 n : Int
deriving DecidableEq, Repr

def isL (c : UInt8) : Bool := (decide (97 ≤ c.toNat) && decide (c.toNat ≤ 122)) || (decide (65 ≤ c.toNat) && decide (c.toNat ≤ 90)) || decide (c.toNat = 95)
def idc (c : UInt8) : Bool := isL c || isD c
def blank (c : UInt8) : Bool := c == 32 || c == 9
def part (r : List UInt8) : Nat :=
 match r with
 | [] => 0
 | c :: r => if c = 46 ∧ (r.takeWhile isD).length ≠ 0 then 1 + (r.takeWhile isD).length else 0
def numLen (l : List UInt8) : Nat := (l.takeWhile isD).length + part (l.dropWhile isD)
def durS (d : List UInt8) : Option Nat := if d.length ≤ 3 ∧ d.head? ≠ some 48 ∧ 1 ≤ valN d ∧ valN d ≤ 100 then some (valN d) else none
def twos : List UInt8 := [94, 42, 33, 61, 62, 60]
def ones : List UInt8 := [40, 41, 123, 125, 91, 93, 44, 43, 45, 42, 47, 61, 62, 60]
def signLen : List UInt8 → Nat
 | [] => 0
 | c :: r => if r.head? = some 61 ∧ c ∈ twos then 2 else if c ∈ ones then 1 else 0
def rdNum (l : List UInt8) : Option Int := if (parseS l).2.2 = 0 ∧ (parseS l).1 = false then some (parseS l).2.1 else none
def readId (l : List UInt8) : Option (Tok × Nat) :=
 if (l.takeWhile idc).length ≤ 20 then some (⟨1, 0, l.takeWhile idc, 0, 0⟩, (l.takeWhile idc).length) else none
def readNum (l : List UInt8) : Option (Tok × Nat) :=
 if (l.dropWhile isD).head? = some 116 then (durS (l.takeWhile isD)).map fun (t : Nat) => (⟨3, 0, [], 0, (t : Int)⟩, (l.takeWhile isD).length + 1)
 else (rdNum (l.take (numLen l))).map fun v => (⟨2, 0, [], v, 0⟩, numLen l)
def readText (r : List UInt8) : Option (Tok × Nat) :=
 match unq r with
 | none => none
 | some (v, n) => if v.length ≤ 30 ∧ (10 : UInt8) ∉ v then some (⟨4, 0, v, 0, 0⟩, n + 1) else none
def readSign (l : List UInt8) : Option (Tok × Nat) := if signLen l = 0 then none else some (⟨5, 0, l.take (signLen l), 0, 0⟩, signLen l)
def readS : List UInt8 → Option (Tok × Nat)
 | [] => none
 | c :: r => if isL c then readId (c :: r) else if isD c then readNum (c :: r) else if c = 34 then readText r else readSign (c :: r)
def endT (i : Nat) : Tok := ⟨0, i, [], 0, 0⟩
def scanS (i : Nat) (l : List UInt8) : Except Nat (List Tok) :=
 match l with
 | [] => .ok [endT i]
 | c :: r =>
  if blank c then scanS (i + 1) r else
  match readS (c :: r) with
  | none => .error i
  | some x =>
   match scanS (i + x.2) (r.drop (x.2 - 1)) with
   | .ok ts => .ok ({ x.1 with place := i } :: ts)
   | .error j => .error j
termination_by l.length
decreasing_by all_goals simp; try omega
def oneS (t : Tok) : List UInt8 :=
 if t.kind = 2 then printS false t.v else if t.kind = 3 then Lib.decDigits t.n.toNat ++ [116] else if t.kind = 4 then quote t.text
 else if t.kind = 1 ∨ t.kind = 5 then t.text else []

/-! A blank behind a text. -/
theorem tw_app {p : UInt8 → Bool} {x : UInt8} (h : p x = false) (m : List UInt8) : ∀ l : List UInt8, (l ++ x :: m).takeWhile p = l.takeWhile p
 | [] => by simp [h]
 | c :: l => by
  rw [List.cons_append, List.takeWhile_cons, List.takeWhile_cons, tw_app h m l]
theorem dw_app {p : UInt8 → Bool} {x : UInt8} (h : p x = false) (m : List UInt8) : ∀ l : List UInt8, (l ++ x :: m).dropWhile p = l.dropWhile p ++ x :: m
 | [] => by simp [h]
 | c :: l => by
  rw [List.cons_append, List.dropWhile_cons, List.dropWhile_cons, dw_app h m l]
  split <;> rfl
theorem part_app (m r : List UInt8) : part (r ++ 32 :: m) = part r := by
 cases r with
 | nil => simp [part]
 | cons c r => rw [List.cons_append, part, part, tw_app (by rfl)]
theorem numLen_app (m l : List UInt8) : numLen (l ++ 32 :: m) = numLen l := by
 unfold numLen
 rw [tw_app (by rfl), dw_app (by rfl), part_app]
theorem tw_le {p : UInt8 → Bool} (l : List UInt8) : (l.takeWhile p).length ≤ l.length := by
 have := congrArg List.length (List.takeWhile_append_dropWhile (p := p) (l := l))
 rw [List.length_append] at this
 omega
theorem part_le (r : List UInt8) : part r ≤ r.length := by
 cases r with
 | nil => simp [part]
 | cons c r =>
  rw [part, List.length_cons]
  have := tw_le (p := isD) r
  split <;> omega
theorem numLen_le (l : List UInt8) : numLen l ≤ l.length := by
 have := congrArg List.length (List.takeWhile_append_dropWhile (p := isD) (l := l))
 rw [List.length_append] at this
 have := part_le (l.dropWhile isD)
 unfold numLen
 omega
theorem unq_app (m : List UInt8) : ∀ (l : List UInt8) (x : List UInt8 × Nat), unq l = some x → unq (l ++ m) = some x
 | [], x, h => by simp [unq] at h
 | [c], x, h => by
  rw [unq] at h
  by_cases hc : c = 34
  ·rw [if_pos hc] at h
   subst hc
   rw [← h]
   cases m <;> simp [unq]
  ·rw [if_neg hc] at h
   simp at h
 | c :: d :: r, x, h => by
  rw [unq] at h
  rw [List.cons_append, List.cons_append, unq]
  by_cases hc : c = 34
  ·rw [if_pos hc] at h ⊢
   exact h
  ·rw [if_neg hc] at h ⊢
   by_cases h2 : c = 92
   ·rw [if_pos h2] at h ⊢
    by_cases h3 : d = 34 ∨ d = 92
    ·rw [if_pos h3] at h ⊢
     cases e : unq r with
     | none => rw [e] at h; simp at h
     | some y => rw [e] at h; rw [unq_app m r y e]; exact h
    ·rw [if_neg h3] at h
     simp at h
   ·rw [if_neg h2] at h ⊢
    cases e : unq (d :: r) with
    | none => rw [e] at h; simp at h
    | some y =>
     rw [e] at h
     have := unq_app m (d :: r) y e
     rw [List.cons_append] at this
     rw [this]
     exact h
/-- What is read is its own print. -/
theorem unq_take : ∀ (l : List UInt8) (v : List UInt8) (n : Nat), unq l = some (v, n) → l.take n = quoteB v ++ [34] ∧ n = (quoteB v).length + 1 ∧ n ≤ l.length
 | [], v, n, h => by simp [unq] at h
 | [c], v, n, h => by
  rw [unq] at h
  by_cases hc : c = 34
  ·rw [if_pos hc] at h
   simp only [Option.some.injEq, Prod.mk.injEq] at h
   obtain ⟨rfl, rfl⟩ := h
   subst hc
   simp [quoteB]
  ·rw [if_neg hc] at h
   simp at h
 | c :: d :: r, v, n, h => by
  rw [unq] at h
  by_cases hc : c = 34
  ·rw [if_pos hc] at h
   simp only [Option.some.injEq, Prod.mk.injEq] at h
   obtain ⟨rfl, rfl⟩ := h
   subst hc
   simp [quoteB]
  ·rw [if_neg hc] at h
   by_cases h2 : c = 92
   ·rw [if_pos h2] at h
    by_cases h3 : d = 34 ∨ d = 92
    ·rw [if_pos h3] at h
     cases e : unq r with
     | none => rw [e] at h; simp at h
     | some y =>
      obtain ⟨yv, yn⟩ := y
      rw [e] at h
      simp only [Option.map_some, Option.some.injEq, Prod.mk.injEq] at h
      obtain ⟨rfl, rfl⟩ := h
      obtain ⟨a1, a2, a3⟩ := unq_take r yv yn e
      subst h2
      refine ⟨?_, ?_, ?_⟩
      ·rw [List.take_succ_cons, List.take_succ_cons, a1, quoteB, if_pos h3]
       rfl
      ·rw [quoteB, if_pos h3, List.length_append, a2]
       simp
       omega
      ·simp
       omega
    ·rw [if_neg h3] at h
     simp at h
   ·rw [if_neg h2] at h
    cases e : unq (d :: r) with
    | none => rw [e] at h; simp at h
    | some y =>
     obtain ⟨yv, yn⟩ := y
     rw [e] at h
     simp only [Option.map_some, Option.some.injEq, Prod.mk.injEq] at h
     obtain ⟨rfl, rfl⟩ := h
     obtain ⟨a1, a2, a3⟩ := unq_take (d :: r) yv yn e
     have hq : ¬ (c = 34 ∨ c = 92) := fun h => h.elim hc h2
     refine ⟨?_, ?_, ?_⟩
     ·rw [List.take_succ_cons, a1, quoteB, if_neg hq]
      rfl
     ·rw [quoteB, if_neg hq, List.length_append, a2]
      simp
      omega
     ·rw [List.length_cons]
      omega
theorem unq_quote (m : List UInt8) : ∀ v : List UInt8, unq (quoteB v ++ 34 :: m) = some (v, (quoteB v).length + 1)
 | [] => by
  cases m <;> simp [unq, quoteB]
 | c :: v => by
  have ih := unq_quote m v
  rw [quoteB]
  by_cases hq : c = 34 ∨ c = 92
  ·rw [if_pos hq, List.append_assoc]
   show unq (92 :: c :: (quoteB v ++ 34 :: m)) = _
   rw [unq, if_neg (by decide), if_pos rfl, if_pos hq, ih]
   simp
  ·rw [if_neg hq, List.append_assoc]
   obtain ⟨d, r, e⟩ : ∃ d r, quoteB v ++ 34 :: m = d :: r := by
    cases quoteB v with
    | nil => exact ⟨_, _, rfl⟩
    | cons d r => exact ⟨_, _, rfl⟩
   show unq (c :: (quoteB v ++ 34 :: m)) = _
   rw [e] at ih ⊢
   rw [unq, if_neg (fun h => hq (Or.inl h)), if_neg (fun h => hq (Or.inr h)), ih]
   simp
theorem signLen_app (m l : List UInt8) (hl : l ≠ []) : signLen (l ++ 32 :: m) = signLen l := by
 match l, hl with
 | [c], _ => simp [signLen]
 | c :: d :: r, _ => simp [signLen]
theorem signLen_le (l : List UInt8) : signLen l ≤ l.length := by
 match l with
 | [] => simp [signLen]
 | [c] =>
  simp only [signLen, List.head?_nil]
  simp
  split <;> omega
 | c :: d :: r =>
  simp only [signLen, List.length_cons]
  split
  ·omega
  ·split <;> omega
end Go.Proofs.YtnjobjogddjelaaGreatDoor.PureN
end

section
namespace Go.Proofs.YtnjobjogddjelaaGreatDoor.PureN
open Go.RowKit Go.Proofs.YtnjobjogddjelaaGreatDoor.Print Go.Proofs.YtnjobjogddjelaaGreatDoor.Pure

/-! What is read at a text's beginning: it stays with a blank behind it. -/
theorem tw_ne {p : UInt8 → Bool} {c : UInt8} (r : List UInt8) (h : p c = true) : 0 < ((c :: r).takeWhile p).length := by
 rw [List.takeWhile_cons, if_pos h]
 simp
theorem take_app {m l : List UInt8} {n : Nat} (h : n ≤ l.length) : (l ++ m).take n = l.take n := List.take_append_of_le_length h
theorem readNum_app (m l : List UInt8) (x : Tok × Nat) (h : readNum l = some x) : readNum (l ++ 32 :: m) = some x := by
 unfold readNum at h ⊢
 rw [dw_app (by rfl), tw_app (by rfl), numLen_app, take_app (numLen_le l)]
 have hh : (l.dropWhile isD ++ 32 :: m).head? = some 116 ↔ (l.dropWhile isD).head? = some 116 := by
  cases l.dropWhile isD <;> simp
 by_cases hc : (l.dropWhile isD).head? = some 116
 ·rw [if_pos (hh.2 hc)]
  rw [if_pos hc] at h
  exact h
 ·rw [if_neg (fun h => hc (hh.1 h))]
  rw [if_neg hc] at h
  exact h
theorem readS_app (m : List UInt8) : ∀ (l : List UInt8) (x : Tok × Nat), readS l = some x → readS (l ++ 32 :: m) = some x
 | [], x, h => by simp [readS] at h
 | c :: r, x, h => by
  rw [readS] at h
  rw [List.cons_append, readS, ← List.cons_append]
  by_cases h1 : isL c = true
  ·rw [if_pos h1] at h ⊢
   unfold readId at h ⊢
   rw [tw_app (by rfl)]
   exact h
  ·rw [if_neg h1] at h ⊢
   by_cases h2 : isD c = true
   ·rw [if_pos h2] at h ⊢
    exact readNum_app m _ x h
   ·rw [if_neg h2] at h ⊢
    by_cases h3 : c = 34
    ·rw [if_pos h3] at h ⊢
     unfold readText at h ⊢
     cases e : unq r with
     | none => rw [e] at h; simp at h
     | some y => rw [unq_app (32 :: m) r y e]; rw [e] at h; exact h
    ·rw [if_neg h3] at h ⊢
     unfold readSign at h ⊢
     rw [signLen_app m (c :: r) (by simp), take_app (signLen_le _)]
     exact h
theorem readS_pos : ∀ (l : List UInt8) (x : Tok × Nat), readS l = some x → 0 < x.2 ∧ x.2 ≤ l.length
 | [], x, h => by simp [readS] at h
 | c :: r, x, h => by
  rw [readS] at h
  by_cases h1 : isL c = true
  ·rw [if_pos h1] at h
   unfold readId at h
   split at h
   ·rw [← Option.some.inj h]
    exact ⟨tw_ne r (by unfold idc; rw [h1]; rfl), tw_le _⟩
   ·simp at h
  ·rw [if_neg h1] at h
   by_cases h2 : isD c = true
   ·rw [if_pos h2] at h
    unfold readNum at h
    have ht := tw_ne r h2
    split at h
    ·rename_i hc
     cases e : durS ((c :: r).takeWhile isD) with
     | none => rw [e] at h; simp at h
     | some t =>
      rw [e] at h
      rw [← Option.some.inj h]
      refine ⟨Nat.succ_pos _, ?_⟩
      have := congrArg List.length (List.takeWhile_append_dropWhile (p := isD) (l := c :: r))
      rw [List.length_append] at this
      have : 1 ≤ ((c :: r).dropWhile isD).length := by
       cases e2 : (c :: r).dropWhile isD with
       | nil => rw [e2] at hc; simp at hc
       | cons a b => simp
      show ((c :: r).takeWhile isD).length + 1 ≤ _
      omega
    ·cases e : rdNum ((c :: r).take (numLen (c :: r))) with
     | none => rw [e] at h; simp at h
     | some t =>
      rw [e] at h
      rw [← Option.some.inj h]
      exact ⟨by show 0 < numLen (c :: r); unfold numLen; omega, numLen_le _⟩
   ·rw [if_neg h2] at h
    by_cases h3 : c = 34
    ·rw [if_pos h3] at h
     unfold readText at h
     cases e : unq r with
     | none => rw [e] at h; simp at h
     | some y =>
      obtain ⟨v, n⟩ := y
      rw [e] at h
      simp only at h
      split at h
      ·rw [← Option.some.inj h]
       have := unq_take r v n e
       refine ⟨by simp, ?_⟩
       rw [List.length_cons]
       show n + 1 ≤ _
       omega
      ·simp at h
    ·rw [if_neg h3] at h
     unfold readSign at h
     split at h
     ·simp at h
     ·rename_i hc
      rw [← Option.some.inj h]
      exact ⟨by show 0 < signLen (c :: r); omega, signLen_le (c :: r)⟩
theorem readS_blank (r : List UInt8) (c : UInt8) (h : blank c = true) : readS (c :: r) = none := by
 unfold blank at h
 simp only [Bool.or_eq_true, beq_iff_eq] at h
 have e : ∀ d : UInt8, (d = 32 ∨ d = 9) → isL d = false ∧ isD d = false ∧ d ≠ 34 ∧ d ∉ twos ∧ d ∉ ones := by
  rintro d (rfl | rfl) <;> refine ⟨rfl, rfl, by decide, by decide, by decide⟩
 obtain ⟨a, b, d, f, g⟩ := e c h
 rw [readS, a, b, if_neg (by simp), if_neg (by simp), if_neg d]
 have hs : signLen (c :: r) = 0 := by
  unfold signLen
  simp only
  rw [if_neg (fun h => f h.2), if_neg g]
 unfold readSign
 rw [hs, if_pos rfl]

/-! Signs of two texts with a blank between (LexJoins). -/
theorem scanS_nil (i : Nat) : scanS i [] = .ok [endT i] := by rw [scanS]
theorem scanS_blank (i : Nat) (c : UInt8) (r : List UInt8) (h : blank c = true) : scanS i (c :: r) = scanS (i + 1) r := by
 rw [scanS, if_pos h]
theorem scanS_bad (i : Nat) (c : UInt8) (r : List UInt8) (h : blank c = false) (h2 : readS (c :: r) = none) : scanS i (c :: r) = .error i := by
 rw [scanS, if_neg (by rw [h]; simp), h2]
theorem scanS_good (i : Nat) (c : UInt8) (r : List UInt8) (x : Tok × Nat) (h2 : readS (c :: r) = some x) :
  scanS i (c :: r) = match scanS (i + x.2) (r.drop (x.2 - 1)) with
   | .ok ts => .ok ({ x.1 with place := i } :: ts)
   | .error j => .error j := by
 have h : blank c = false := by
  cases e : blank c
  ·rfl
  ·rw [readS_blank r c e] at h2
   simp at h2
 rw [scanS, if_neg (by rw [h]; simp), h2] <;> rfl
theorem drop_app {m l : List UInt8} {n : Nat} (h : n ≤ l.length) : (l ++ m).drop n = l.drop n ++ m := List.drop_append_of_le_length h
end Go.Proofs.YtnjobjogddjelaaGreatDoor.PureN
end

section
namespace Go.Proofs.YtnjobjogddjelaaGreatDoor.PureN
open Go.RowKit Go.Proofs.YtnjobjogddjelaaGreatDoor.Print Go.Proofs.YtnjobjogddjelaaGreatDoor.Pure

/-! Signs printed are read as the same (LexBack). -/
theorem isD_not_isL (c : UInt8) (h : isD c = true) : isL c = false := by
 unfold isD at h
 unfold isL
 simp only [Bool.and_eq_true, decide_eq_true_eq] at h
 simp
 omega
theorem tw_all {p : UInt8 → Bool} (l : List UInt8) : ∀ c ∈ l.takeWhile p, p c = true := by
 induction l with
 | nil => simp
 | cons d l ih =>
  rw [List.takeWhile_cons]
  split
  ·rename_i h
   intro c hc
   rw [List.mem_cons] at hc
   cases hc with
   | inl h' => rw [h']; exact h
   | inr h' => exact ih c h'
  ·simp
theorem tw_D (l : List UInt8) : (l.takeWhile isD).all isD = true := List.all_eq_true.2 (tw_all l)
/-- A name. -/
theorem id_one (c : UInt8) (r : List UInt8) (x : Tok × Nat) (h1 : isL c = true) (h : readId (c :: r) = some x) : x.1.kind = 1 ∧ x.1.text.length = x.2 ∧ readS x.1.text = some x := by
 unfold readId at h
 split at h
 ·rename_i hc
  rw [← Option.some.inj h]
  refine ⟨rfl, rfl, ?_⟩
  simp only
  have ht : ((c :: r).takeWhile idc).takeWhile idc = (c :: r).takeWhile idc := takeWhile_all _ (tw_all _)
  have hcc : idc c = true := by unfold idc; rw [h1]; rfl
  obtain ⟨q, hq⟩ : ∃ q, (c :: r).takeWhile idc = c :: q := by
   rw [List.takeWhile_cons, if_pos hcc]
   exact ⟨_, rfl⟩
  rw [hq] at ht hc ⊢
  rw [readS, if_pos h1]
  unfold readId
  rw [ht, if_pos hc]
 ·simp at h
/-- A sign. -/
theorem sign_one (c : UInt8) (r : List UInt8) (x : Tok × Nat) (h1 : isL c = false) (h2 : isD c = false) (h3 : c ≠ 34) (h : readSign (c :: r) = some x) : x.1.kind = 5 ∧ x.1.text.length = x.2 ∧ readS x.1.text = some x := by
 unfold readSign at h
 split at h
 ·simp at h
 ·rename_i hc
  rw [← Option.some.inj h]
  have hle := signLen_le (c :: r)
  refine ⟨rfl, ?_, ?_⟩
  ·simp only [List.length_take]
   omega
  ·simp only
   have key : ∀ n, signLen (c :: r) = n → n ≠ 0 → ∃ q, (c :: r).take n = c :: q ∧ signLen (c :: q) = n ∧ (c :: q).take n = c :: q := by
    intro n hn h0
    unfold signLen at hn
    simp only at hn
    split at hn
    ·rename_i h4
     subst hn
     cases r with
     | nil => simp at h4
     | cons d r =>
      simp only [List.head?_cons, Option.some.injEq] at h4
      refine ⟨[d], rfl, ?_, rfl⟩
      unfold signLen
      simp only [List.head?_cons, Option.some.injEq]
      rw [if_pos h4]
    ·split at hn
     ·rename_i h5
      subst hn
      refine ⟨[], by simp, ?_, rfl⟩
      unfold signLen
      simp [h5]
     ·exact absurd hn.symm h0
   obtain ⟨q, q1, q2, q3⟩ := key _ rfl hc
   rw [q1, readS, if_neg (by rw [h1]; simp), if_neg (by rw [h2]; simp), if_neg h3]
   unfold readSign
   rw [q2, if_neg hc, q3]
/-- A text in quotes. -/
theorem text_one (r : List UInt8) (x : Tok × Nat) (h : readText r = some x) : x.1.kind = 4 ∧ (quote x.1.text).length = x.2 ∧ readS (quote x.1.text) = some x := by
 unfold readText at h
 cases e : unq r with
 | none => rw [e] at h; simp at h
 | some y =>
  obtain ⟨v, n⟩ := y
  rw [e] at h
  simp only at h
  split at h
  ·rename_i hc
   rw [← Option.some.inj h]
   obtain ⟨a1, a2, a3⟩ := unq_take r v n e
   refine ⟨rfl, ?_, ?_⟩
   ·simp only [quote, List.length_cons, List.length_append, List.length_nil]
    omega
   ·simp only [quote]
    rw [readS, if_neg (by decide), if_neg (by decide), if_pos rfl]
    unfold readText
    rw [unq_quote [] v]
    simp only
    rw [if_pos hc, a2]
  ·simp at h
/-- A duration. -/
theorem dur_one (l : List UInt8) (t : Nat) (h : durS (l.takeWhile isD) = some t) :
  (Lib.decDigits t).length ≤ (l.takeWhile isD).length ∧ readS (Lib.decDigits t ++ [116]) = some (⟨3, 0, [], 0, t⟩, (Lib.decDigits t).length + 1) := by
 unfold durS at h
 split at h
 ·rename_i hc
  obtain ⟨c1, c2, c3, c4⟩ := hc
  have ht : valN (l.takeWhile isD) = t := Option.some.inj h
  rw [ht] at c3 c4
  have hD := tw_D l
  have hlt := valN_lt _ hD
  rw [ht] at hlt
  have h1 : 1 ≤ (l.takeWhile isD).length := by
   cases e : (l.takeWhile isD).length with
   | zero => rw [e] at hlt; simp at hlt; omega
   | succ n => omega
  refine ⟨dec_len t _ h1 hlt, ?_⟩
  have ha := List.all_eq_true.1 (dec_all t)
  obtain ⟨c, q, e, hc0, hcD⟩ := dec_head t c3
  have e1 : (Lib.decDigits t ++ [116]).takeWhile isD = Lib.decDigits t := by
   rw [takeWhile_app _ _ ha, List.takeWhile_cons, if_neg (by decide), List.append_nil]
  have e2 : (Lib.decDigits t ++ [116]).dropWhile isD = [116] := by
   rw [dropWhile_app _ _ ha]
   rfl
  have e3 : durS (Lib.decDigits t) = some t := by
   unfold durS
   rw [dec_val, if_pos]
   refine ⟨dec_len t 3 (by omega) (by omega), ?_, c3, c4⟩
   rw [e]
   intro h
   simp only [List.head?_cons, Option.some.injEq] at h
   rw [h] at hc0
   exact hc0 rfl
  have e4 : readS (Lib.decDigits t ++ [116]) = readNum (Lib.decDigits t ++ [116]) := by
   rw [e, List.cons_append, readS, if_neg (by rw [isD_not_isL c hcD]; simp), if_pos hcD]
  rw [e4]
  unfold readNum
  rw [e2, e1, List.head?_cons, if_pos rfl, e3]
  rfl
 ·simp at h
/-- The last digit. -/
theorem val_last (q : List UInt8) (c : UInt8) : valN (q ++ [c]) = valN q * 10 + (c.toNat - 48) := by
 rw [valN_append, val_one]
 rfl
/-- The part behind the point is not longer than what was read. -/
theorem frac_len (p p' : List UInt8) (hp : p.all isD = true) (hl : p.length ≤ 6) (hne : p ≠ []) (hlast : ∀ d, p.getLast? = some d → d ≠ 48) (hl' : p'.length ≤ 6)
  (h : valN p * 10 ^ (6 - p.length) = valN p' * 10 ^ (6 - p'.length)) : p.length ≤ p'.length := by
 apply Decidable.byContradiction
 intro hn
 obtain ⟨k, hk⟩ : ∃ k, 6 - p'.length = (6 - p.length) + (k + 1) := ⟨p.length - p'.length - 1, by omega⟩
 rw [hk, Nat.pow_add, Nat.pow_succ] at h
 have h2 : valN p = valN p' * 10 ^ k * 10 := by
  have hp0 : 0 < 10 ^ (6 - p.length) := Nat.pow_pos (by omega)
  apply Nat.eq_of_mul_eq_mul_right hp0
  rw [h, Nat.mul_assoc (valN p'), Nat.mul_assoc (valN p'), Nat.mul_comm (10 ^ (6 - p.length))]
 obtain ⟨q, c, rfl⟩ : ∃ q c, p = q ++ [c] := ⟨p.dropLast, p.getLast hne, (List.dropLast_concat_getLast hne).symm⟩
 rw [val_last] at h2
 have hc : isD c = true := by
  rw [List.all_append] at hp
  simp at hp
  exact hp.2
 unfold isD at hc
 simp only [Bool.and_eq_true, decide_eq_true_eq] at hc
 have h3 : c.toNat = 48 := by omega
 have := hlast c (by simp)
 exact this (UInt8.toNat_inj.1 (by rw [h3]; rfl))
/-- A body's length. -/
theorem body_len (w p' : List UInt8) (hw : w.all isD = true) (hw1 : 1 ≤ w.length) (hp : p'.all isD = true) (hl' : p'.length ≤ 6) (hp0 : p' = [] → True) :
  (bodyS (valN w * 1000000 + valN p' * 10 ^ (6 - p'.length))).length ≤ w.length + if p' = [] then 0 else 1 + p'.length := by
 have hlt := valN_lt _ hp
 have hf : valN p' * 10 ^ (6 - p'.length) < 1000000 := by
  have : 10 ^ p'.length * 10 ^ (6 - p'.length) = 1000000 := by
   rw [← Nat.pow_add, show p'.length + (6 - p'.length) = 6 by omega]
  have h2 := Nat.mul_lt_mul_of_pos_right hlt (show 0 < 10 ^ (6 - p'.length) from Nat.pow_pos (by omega))
  rw [this] at h2
  exact h2
 obtain ⟨f, hfe⟩ : ∃ f, valN p' * 10 ^ (6 - p'.length) = f := ⟨_, rfl⟩
 obtain ⟨W, hW⟩ : ∃ W, valN w = W := ⟨_, rfl⟩
 have hwl := valN_lt _ hw
 have hd : (Lib.decDigits (valN w)).length ≤ w.length := dec_len _ _ hw1 hwl
 rw [hfe] at hf ⊢
 rw [hW] at hd ⊢
 clear hwl hlt
 unfold bodyS
 rw [show (W * 1000000 + f) / 1000000 = W by omega, show (W * 1000000 + f) % 1000000 = f by omega, List.length_append]
 by_cases c : 0 < f
 ·rw [if_pos c]
  obtain ⟨p, e, q1, q2, q3, q4, q5⟩ := frac_trim f hf c
  rw [e, List.length_cons]
  have hpp : p.all isD = true := by
   unfold partOk at q1
   simp only [Bool.and_eq_true] at q1
   exact q1.1.1
  have := frac_len p p' hpp q4 q5 q3 hl' (q2.trans hfe.symm)
  have : p' ≠ [] := by
   rintro rfl
   have hz : valN [] = 0 := rfl
   rw [hz] at hfe
   omega
  rw [if_neg this]
  omega
 ·rw [if_neg c]
  simp only [List.length_nil]
  omega
end Go.Proofs.YtnjobjogddjelaaGreatDoor.PureN
end

section
namespace Go.Proofs.YtnjobjogddjelaaGreatDoor.PureN
open Go.RowKit Go.Proofs.YtnjobjogddjelaaGreatDoor.Print Go.Proofs.YtnjobjogddjelaaGreatDoor.Pure

/-! Numbers printed are read as the same. -/
theorem take_tw {p : UInt8 → Bool} (r : List UInt8) : r.take (r.takeWhile p).length = r.takeWhile p := by
 have hs := List.takeWhile_append_dropWhile (p := p) (l := r)
 conv => lhs; arg 2; rw [← hs]
 rw [List.take_left]
theorem take_add (w d : List UInt8) (k : Nat) : (w ++ d).take (w.length + k) = w ++ d.take k := by
 rw [List.take_append, List.take_of_length_le (by omega), show w.length + k - w.length = k by omega]
/-- What a number's text is. -/
theorem num_shape (l : List UInt8) : ∃ q, l.take (numLen l) = l.takeWhile isD ++ q ∧ numLen l = (l.takeWhile isD).length + q.length ∧ (q = [] ∨ ∃ p, q = 46 :: p ∧ p ≠ [] ∧ p.all isD = true) := by
 have hs := List.takeWhile_append_dropWhile (p := isD) (l := l)
 refine ⟨(l.dropWhile isD).take (part (l.dropWhile isD)), ?_, ?_, ?_⟩
 ·unfold numLen
  conv => lhs; arg 2; rw [← hs]
  rw [take_add]
 ·have := part_le (l.dropWhile isD)
  rw [List.length_take, Nat.min_eq_left this]
  rfl
 ·cases l.dropWhile isD with
  | nil => exact Or.inl rfl
  | cons c r =>
   rw [part]
   by_cases h : c = 46 ∧ (r.takeWhile isD).length ≠ 0
   ·rw [if_pos h, Nat.add_comm, List.take_succ_cons, take_tw]
    refine Or.inr ⟨_, by rw [h.1], ?_, tw_D r⟩
    intro e
    rw [e] at h
    exact h.2 rfl
   ·rw [if_neg h]
    exact Or.inl rfl
theorem parse_digit (c : UInt8) (r : List UInt8) (h : isD c = true) : parseS (c :: r) = parseT false (c :: r) := by
 have h1 : c ≠ 111 := by rintro rfl; revert h; decide
 have h2 : c ≠ 45 := by rintro rfl; revert h; decide
 unfold parseS
 rw [if_neg (by intro e; injection e with e _; exact h1 e), if_neg (by intro e; simp at e; exact h2 e)]
/-- A number's value, and its print. -/
theorem rd_body (w q : List UInt8) (hw : w.all isD = true) (hw1 : 1 ≤ w.length) (hq : q = [] ∨ ∃ p, q = 46 :: p ∧ p ≠ [] ∧ p.all isD = true) (v : Int) (h : rdNum (w ++ q) = some v) :
  ∃ N : Nat, v = (N : Int) ∧ N ≤ 9223372036854775807 ∧ (bodyS N).length ≤ w.length + q.length := by
 obtain ⟨c, w', rfl⟩ : ∃ c w', w = c :: w' := by
  cases w with
  | nil => simp at hw1
  | cons c w' => exact ⟨c, w', rfl⟩
 have hc : isD c = true := by
  simp only [List.all_cons, Bool.and_eq_true] at hw
  exact hw.1
 have ha := List.all_eq_true.1 hw
 unfold rdNum at h
 rw [List.cons_append, parse_digit c _ hc, ← List.cons_append] at h
 generalize hW : c :: w' = W at *
 have d46 : isD 46 = false := rfl
 have t1 : (W ++ q).takeWhile isD = W := by
  rw [takeWhile_app _ _ ha]
  rcases hq with rfl | ⟨p, rfl, _⟩
  ·simp
  ·rw [List.takeWhile_cons, d46]
   simp
 have t2 : (W ++ q).dropWhile isD = q := by
  rw [dropWhile_app _ _ ha]
  rcases hq with rfl | ⟨p, rfl, _⟩
  ·simp
  ·rw [List.dropWhile_cons, d46]
   simp
 have fin : ∀ M : Nat, (okS (sgn false (M : Int))).2.2 = 0 ∧ (okS (sgn false (M : Int))).1 = false → (okS (sgn false (M : Int))).2.1 = v → v = (M : Int) ∧ M ≤ 9223372036854775807 := by
  intro M h1 h2
  unfold okS sgn at h1 h2
  by_cases hM : 9223372036854775807 < (M : Int)
  ·rw [if_pos hM] at h1
   simp at h1
  ·rw [if_neg hM] at h2
   simp at h2
   omega
 have bad : ¬ (errS.2.2 = 0 ∧ errS.1 = false) := by
  unfold errS
  simp
 split at h
 ·rename_i hh
  have hv := Option.some.inj h
  unfold parseT at hh hv
  rw [t1, t2] at hh hv
  by_cases hd : headOk W = true
  ·rw [if_pos hd] at hh hv
   rcases hq with rfl | ⟨p, rfl, hp0, hpa⟩
   ·simp only at hh hv
    obtain ⟨f1, f2⟩ := fin _ hh hv
    refine ⟨_, f1, f2, ?_⟩
    have := body_len W [] hw hw1 (by rfl) (by simp) (fun _ => trivial)
    rw [if_pos rfl, show valN [] = 0 from rfl, Nat.zero_mul, Nat.add_zero] at this
    simpa using this
   ·simp only at hh hv
    by_cases hp : partOk p = true
    ·rw [if_pos ⟨trivial, hp⟩] at hh hv
     obtain ⟨f1, f2⟩ := fin _ hh hv
     refine ⟨_, f1, f2, ?_⟩
     have hl : p.length ≤ 6 := by
      unfold partOk at hp
      simp only [Bool.and_eq_true, decide_eq_true_eq] at hp
      exact hp.2
     have := body_len W p hw hw1 hpa hl (fun _ => trivial)
     rw [if_neg hp0] at this
     rw [List.length_cons]
     omega
    ·rw [if_neg (fun h => hp h.2)] at hh
     exact absurd hh bad
  ·rw [if_neg hd] at hh
   exact absurd hh bad
 ·simp at h
theorem over_nat (N : Nat) (h : N ≤ 9223372036854775807) : over false (N : Int) = false := by
 unfold over isOver
 simp
theorem print_nat (N : Nat) (h : N ≤ 9223372036854775807) : printS false (N : Int) = bodyS N := by
 unfold printS
 rw [over_nat N h, if_neg (by simp), if_neg (by omega)]
 unfold ab
 rw [if_neg (by omega)]
 rfl
theorem read_body (N : Nat) (h : N ≤ 9223372036854775807) : readS (bodyS N) = some (⟨2, 0, [], (N : Int), 0⟩, (bodyS N).length) := by
 obtain ⟨c, r, e, hc⟩ := body_head N
 obtain ⟨s1, s2⟩ := body_split N h
 have hs := List.takeWhile_append_dropWhile (p := isD) (l := bodyS N)
 have hr : rdNum (bodyS N) = some (N : Int) := by
  unfold rdNum
  have := parse_print false (N : Int) (by unfold R; omega)
  rw [print_nat N h, over_nat N h, if_neg (by simp)] at this
  rw [this]
  simp
 have hn : numLen (bodyS N) = (bodyS N).length := by
  unfold numLen
  conv => rhs; rw [← hs]
  rw [List.length_append]
  congr 1
  rw [s2]
  by_cases hf : 0 < N % 1000000
  ·rw [if_pos hf]
   obtain ⟨p, e2, q1, q2, q3, q4, q5⟩ := frac_trim (N % 1000000) (by omega) hf
   rw [e2, part]
   have hpp : p.all isD = true := by
    unfold partOk at q1
    simp only [Bool.and_eq_true] at q1
    exact q1.1.1
   rw [takeWhile_all p (List.all_eq_true.1 hpp), if_pos ⟨rfl, fun h => q5 (List.length_eq_zero_iff.1 h)⟩, List.length_cons, Nat.add_comm]
  ·rw [if_neg hf]
   rfl
 have ht : ¬ ((bodyS N).dropWhile isD).head? = some 116 := by
  rw [s2]
  split <;> simp
 rw [e, readS, if_neg (by rw [isD_not_isL c hc]; simp), if_pos hc, ← e]
 unfold readNum
 rw [if_neg ht, hn, List.take_of_length_le (Nat.le_refl _), hr]
 rfl
/-- A sign printed is read as the same, and is not longer than what it was read from. -/
theorem read_one : ∀ (l : List UInt8) (x : Tok × Nat), readS l = some x → (oneS x.1).length ≤ x.2 ∧ readS (oneS x.1) = some (x.1, (oneS x.1).length)
 | [], x, h => by simp [readS] at h
 | c :: r, x, h => by
  rw [readS] at h
  by_cases h1 : isL c = true
  ·rw [if_pos h1] at h
   obtain ⟨k, a, b⟩ := id_one c r x h1 h
   have ho : oneS x.1 = x.1.text := by
    unfold oneS
    rw [k]
    rfl
   rw [ho, a, b]
   exact ⟨Nat.le_refl _, rfl⟩
  ·rw [if_neg h1] at h
   by_cases h2 : isD c = true
   ·rw [if_pos h2] at h
    unfold readNum at h
    split at h
    ·cases e : durS ((c :: r).takeWhile isD) with
     | none => rw [e] at h; simp at h
     | some t =>
      rw [e] at h
      obtain ⟨a, b⟩ := dur_one (c :: r) t e
      rw [← Option.some.inj h]
      have ho : oneS ⟨3, 0, [], 0, (t : Int)⟩ = Lib.decDigits t ++ [116] := by
       unfold oneS
       rw [if_neg (by simp), if_pos rfl]
       rfl
      simp only [ho]
      rw [List.length_append, List.length_singleton]
      exact ⟨by omega, b⟩
    ·cases e : rdNum ((c :: r).take (numLen (c :: r))) with
     | none => rw [e] at h; simp at h
     | some v =>
      rw [e] at h
      obtain ⟨q, n1, n2, n3⟩ := num_shape (c :: r)
      rw [n1] at e
      obtain ⟨N, rfl, hN, hl⟩ := rd_body _ q (tw_D _) (tw_ne r h2) n3 v e
      rw [← Option.some.inj h]
      have ho : oneS ⟨2, 0, [], (N : Int), 0⟩ = bodyS N := by
       unfold oneS
       rw [if_pos rfl]
       exact print_nat N hN
      simp only [ho]
      exact ⟨by omega, read_body N hN⟩
   ·rw [if_neg h2] at h
    by_cases h3 : c = 34
    ·rw [if_pos h3] at h
     obtain ⟨k, a, b⟩ := text_one r x h
     have ho : oneS x.1 = quote x.1.text := by
      unfold oneS
      rw [k]
      rfl
     rw [ho, a, b]
     exact ⟨Nat.le_refl _, rfl⟩
    ·rw [if_neg h3] at h
     obtain ⟨k, a, b⟩ := sign_one c r x (by simpa using h1) (by simpa using h2) h3 h
     have ho : oneS x.1 = x.1.text := by
      unfold oneS
      rw [k]
      rfl
     rw [ho, a, b]
     exact ⟨Nat.le_refl _, rfl⟩
end Go.Proofs.YtnjobjogddjelaaGreatDoor.PureN
end

section
namespace Go.Proofs.YtnjobjogddjelaaGreatDoor.PureN
open Go.RowKit Go.Proofs.YtnjobjogddjelaaGreatDoor.Print Go.Proofs.YtnjobjogddjelaaGreatDoor.Pure

/-! Signs as text, with blanks between. -/
def zer (t : Tok) : Tok := { t with place := 0 }
def joinS : List (List UInt8) → List UInt8
 | [] => []
 | [p] => p
 | p :: q :: r => p ++ 32 :: joinS (q :: r)
/-- What signs are as text: those that are empty are left out. -/
def printT (ts : List Tok) : List UInt8 := joinS ((ts.map oneS).filter fun p => !p.isEmpty)
def Good (u : Tok) : Prop := readS (oneS u) = some (zer u, (oneS u).length)
theorem one_zer (u : Tok) : oneS (zer u) = oneS u := rfl
theorem good_ne (u : Tok) (h : Good u) : oneS u ≠ [] := by
 intro e
 unfold Good at h
 rw [e] at h
 simp [readS] at h
/-- Signs, read again. -/
theorem join_scan : ∀ (us : List Tok), (∀ u ∈ us, Good u) → ∀ k : Nat, ∃ vs, scanS k (joinS (us.map oneS)) = .ok (vs ++ [endT (k + (joinS (us.map oneS)).length)]) ∧ vs.map zer = us.map zer
 | [], _, k => ⟨[], by rw [List.map_nil, joinS, scanS_nil]; rfl, rfl⟩
 | [u], h, k => by
  have hu := h u (by simp)
  have hne := good_ne u hu
  unfold Good at hu
  rw [List.map_cons, List.map_nil, joinS]
  cases e : oneS u with
  | nil => exact absurd e hne
  | cons c p =>
   rw [e] at hu
   refine ⟨[{ zer u with place := k }], ?_, rfl⟩
   rw [scanS_good k c p _ hu]
   simp only [List.length_cons, Nat.add_sub_cancel, List.drop_length]
   rw [scanS_nil]
   rfl
 | u :: u2 :: us, h, k => by
  have hu := h u (by simp)
  have hne := good_ne u hu
  unfold Good at hu
  have ih := join_scan (u2 :: us) (fun v hv => h v (List.mem_cons_of_mem _ hv)) (k + (oneS u).length + 1)
  rw [List.map_cons] at ih
  rw [List.map_cons, List.map_cons, joinS]
  generalize joinS (oneS u2 :: us.map oneS) = J at ih ⊢
  obtain ⟨vs, i1, i2⟩ := ih
  have hu2 := readS_app J _ _ hu
  cases e : oneS u with
  | nil => exact absurd e hne
  | cons c p =>
   rw [e] at hu2 i1
   refine ⟨{ zer u with place := k } :: vs, ?_, ?_⟩
   ·rw [List.cons_append] at hu2 ⊢
    rw [scanS_good k c _ _ hu2]
    simp only [List.length_cons, Nat.add_sub_cancel]
    rw [drop_app (Nat.le_refl _), List.drop_length, List.nil_append, scanS_blank _ _ _ rfl]
    rw [List.length_cons] at i1
    rw [i1]
    simp only [List.cons_append, List.length_append, List.length_cons]
    rw [show k + (p.length + 1) + 1 + J.length = k + (p.length + (J.length + 1) + 1) by omega]
   ·rw [List.map_cons, i2]
    rfl
theorem place_zero : ∀ (l : List UInt8) (x : Tok × Nat), readS l = some x → x.1.place = 0
 | [], x, h => by simp [readS] at h
 | c :: r, x, h => by
  rw [readS] at h
  unfold readId readNum readText readSign at h
  split at h
  ·split at h
   ·rw [← Option.some.inj h]
   ·simp at h
  ·split at h
   ·split at h
    ·cases e : durS ((c :: r).takeWhile isD) with
     | none => rw [e] at h; simp at h
     | some t => rw [e] at h; rw [← Option.some.inj h]
    ·cases e : rdNum ((c :: r).take (numLen (c :: r))) with
     | none => rw [e] at h; simp at h
     | some t => rw [e] at h; rw [← Option.some.inj h]
   ·split at h
    ·cases e : unq r with
     | none => rw [e] at h; simp at h
     | some y =>
      rw [e] at h
      simp only at h
      split at h
      ·rw [← Option.some.inj h]
      ·simp at h
    ·split at h
     ·simp at h
     ·rw [← Option.some.inj h]
/-- What is scanned is good, and its text is at most twice as long. -/
theorem scan_good (n : Nat) : ∀ (l : List UInt8) (i : Nat) (ts : List Tok), l.length ≤ n → scanS i l = .ok ts →
  ∃ us, ts = us ++ [endT (i + l.length)] ∧ (∀ u ∈ us, Good u) ∧ (us.map fun u => (oneS u).length + 1).sum ≤ 2 * l.length := by
 induction n with
 | zero =>
  intro l i ts h hs
  cases l with
  | nil =>
   rw [scanS_nil] at hs
   injection hs with hs
   exact ⟨[], hs.symm, by simp, by simp⟩
  | cons c r => simp at h
 | succ n ih =>
  intro l i ts h hs
  cases l with
  | nil =>
   rw [scanS_nil] at hs
   injection hs with hs
   exact ⟨[], hs.symm, by simp, by simp⟩
  | cons c r =>
   rw [List.length_cons] at h
   cases hb : blank c
   ·cases e : readS (c :: r) with
    | none => rw [scanS_bad _ _ _ hb e] at hs; simp at hs
    | some x =>
     obtain ⟨p1, p2⟩ := readS_pos _ x e
     obtain ⟨o1, o2⟩ := read_one _ x e
     rw [List.length_cons] at p2
     rw [scanS_good _ _ _ x e] at hs
     cases e2 : scanS (i + x.2) (r.drop (x.2 - 1)) with
     | error j => rw [e2] at hs; simp at hs
     | ok ts' =>
      rw [e2] at hs
      injection hs with hs
      obtain ⟨us, u1, u2, u3⟩ := ih (r.drop (x.2 - 1)) (i + x.2) ts' (by rw [List.length_drop]; omega) e2
      rw [List.length_drop] at u1 u3
      refine ⟨{ x.1 with place := i } :: us, ?_, ?_, ?_⟩
      ·rw [← hs, u1, List.length_cons, show i + x.2 + (r.length - (x.2 - 1)) = i + (r.length + 1) by omega]
       rfl
      ·intro u hu
       rw [List.mem_cons] at hu
       rcases hu with rfl | hu
       ·have hz : x.1.place = 0 := place_zero _ x e
        have hx : zer { x.1 with place := (i : Int) } = x.1 := by
         unfold zer
         simp only
         rw [← hz]
        unfold Good
        rw [hx]
        exact o2
       ·exact u2 u hu
      ·rw [List.map_cons, List.sum_cons, List.length_cons]
       have ho : oneS { x.1 with place := (i : Int) } = oneS x.1 := rfl
       rw [ho]
       omega
   ·rw [scanS_blank _ _ _ hb] at hs
    obtain ⟨us, u1, u2, u3⟩ := ih r (i + 1) ts (by omega) hs
    refine ⟨us, ?_, u2, ?_⟩
    ·rw [u1, List.length_cons, show i + 1 + r.length = i + (r.length + 1) by omega]
    ·rw [List.length_cons]
     omega
theorem join_len : ∀ l : List (List UInt8), (joinS l).length ≤ (l.map fun p => p.length + 1).sum
 | [] => by simp [joinS]
 | [p] => by simp [joinS]
 | p :: q :: r => by
  have ih := join_len (q :: r)
  rw [joinS, List.map_cons, List.sum_cons, List.length_append, List.length_cons]
  omega
theorem printT_good (us : List Tok) (h : ∀ u ∈ us, Good u) (k : Nat) : printT (us ++ [endT k]) = joinS (us.map oneS) := by
 unfold printT
 rw [List.map_append, List.filter_append, List.filter_eq_self.2]
 ·have : ([endT k].map oneS).filter (fun p => !p.isEmpty) = [] := by
   rw [List.map_cons, List.map_nil, List.filter_cons]
   have : oneS (endT k) = [] := by
    unfold oneS endT
    simp
   rw [this]
   rfl
  rw [this, List.append_nil]
 ·intro p hp
  rw [List.mem_map] at hp
  obtain ⟨u, hu, rfl⟩ := hp
  have := good_ne u (h u hu)
  cases e : oneS u with
  | nil => exact absurd e this
  | cons c r => rfl
/-- LexBack, in plain Lean. -/
theorem back (l : List UInt8) (ts : List Tok) (h : scanS 0 l = .ok ts) : (printT ts).length ≤ 2 * l.length ∧ ∃ vs, scanS 0 (printT ts) = .ok vs ∧ vs.map zer = ts.map zer ∧ printT vs = printT ts ∧ vs.length = ts.length := by
 obtain ⟨us, rfl, h2, h3⟩ := scan_good _ l 0 ts (Nat.le_refl _) h
 rw [printT_good us h2]
 obtain ⟨vs, s1, s2⟩ := join_scan us h2 0
 have hl := join_len (us.map oneS)
 rw [List.map_map] at hl
 have hg : ∀ v ∈ vs, Good v := by
  intro v hv
  have : zer v ∈ us.map zer := by rw [← s2]; exact List.mem_map_of_mem hv
  rw [List.mem_map] at this
  obtain ⟨u, hu, e⟩ := this
  have := h2 u hu
  unfold Good at this ⊢
  rw [← one_zer v, ← e, one_zer u]
  exact this
 have ho : vs.map oneS = us.map oneS := by
  have h1 : vs.map oneS = (vs.map zer).map oneS := by rw [List.map_map]; rfl
  have h2 : us.map oneS = (us.map zer).map oneS := by rw [List.map_map]; rfl
  rw [h1, h2, s2]
 refine ⟨Nat.le_trans hl h3, _, s1, ?_, ?_, ?_⟩
 ·rw [List.map_append, s2, List.map_append]
  rfl
 ·rw [printT_good vs hg, ho]
 ·have := congrArg List.length s2
  simp only [List.length_map] at this
  simp [this]
end Go.Proofs.YtnjobjogddjelaaGreatDoor.PureN
end

section
namespace Go.Proofs.YtnjobjogddjelaaGreatDoor.PureN
open Go.RowKit Go.Proofs.YtnjobjogddjelaaGreatDoor.Print Go.Proofs.YtnjobjogddjelaaGreatDoor.Pure

/-! LexBuilt and LexSigns, in plain Lean. -/
/-- A text that is one sign. -/
theorem scan_single (l : List UInt8) (t : Tok) (h : readS l = some (t, l.length)) : scanS 0 l = .ok [{ t with place := 0 }, endT l.length] := by
 cases l with
 | nil => simp [readS] at h
 | cons c r =>
  rw [scanS_good 0 c r _ h]
  simp only [List.length_cons, Nat.add_sub_cancel, List.drop_length]
  rw [scanS_nil, Nat.zero_add]
  rfl
theorem body_whole (n : Nat) : bodyS (n * 1000000) = Lib.decDigits n := by
 unfold bodyS
 rw [show n * 1000000 / 1000000 = n by omega, show n * 1000000 % 1000000 = 0 by omega, if_neg (by omega), List.append_nil]
theorem built_num (n : Nat) (h : n < 4294967296) : scanS 0 (Lib.decDigits n) = .ok [⟨2, 0, [], (n : Int) * 1000000, 0⟩, endT (Lib.decDigits n).length] := by
 have := read_body (n * 1000000) (by omega)
 rw [body_whole] at this
 rw [scan_single _ _ this]
 rw [Int.natCast_mul]
 rfl
theorem isD_not_blank (c : UInt8) (h : isD c = true) : blank c = false := by
 cases hb : blank c
 ·rfl
 ·exfalso
  unfold blank at hb
  simp only [Bool.or_eq_true, beq_iff_eq] at hb
  rcases hb with rfl | rfl <;> revert h <;> decide
theorem read_dur (t : Nat) : readS (Lib.decDigits t ++ [116]) = if 1 ≤ t ∧ t ≤ 100 then some (⟨3, 0, [], 0, t⟩, (Lib.decDigits t ++ [116]).length) else none := by
 have ha := List.all_eq_true.1 (dec_all t)
 have e1 : (Lib.decDigits t ++ [116]).takeWhile isD = Lib.decDigits t := by
  rw [takeWhile_app _ _ ha, List.takeWhile_cons, if_neg (by decide), List.append_nil]
 have e2 : (Lib.decDigits t ++ [116]).dropWhile isD = [116] := by
  rw [dropWhile_app _ _ ha]
  rfl
 obtain ⟨c, q, e, hcD⟩ : ∃ c q, Lib.decDigits t = c :: q ∧ isD c = true := by
  cases e : Lib.decDigits t with
  | nil => have := dec_pos t; rw [e] at this; simp at this
  | cons c q => exact ⟨c, q, rfl, ha c (by rw [e]; simp)⟩
 have e4 : readS (Lib.decDigits t ++ [116]) = readNum (Lib.decDigits t ++ [116]) := by
  rw [e, List.cons_append, readS, if_neg (by rw [isD_not_isL c hcD]; simp), if_pos hcD]
 rw [e4]
 unfold readNum
 rw [e2, e1, List.head?_cons, if_pos rfl]
 unfold durS
 rw [dec_val]
 by_cases h : 1 ≤ t ∧ t ≤ 100
 ·rw [if_pos h, if_pos]
  ·simp
  ·refine ⟨dec_len t 3 (by omega) (by omega), ?_, h.1, h.2⟩
   obtain ⟨c', q', e', hc0, _⟩ := dec_head t h.1
   rw [e']
   intro h
   simp only [List.head?_cons, Option.some.injEq] at h
   rw [h] at hc0
   exact hc0 rfl
 ·rw [if_neg h, if_neg (fun h' => h ⟨h'.2.2.1, h'.2.2.2⟩)]
  rfl
theorem built_dur (t : Nat) : scanS 0 (Lib.decDigits t ++ [116]) = if 1 ≤ t ∧ t ≤ 100 then .ok [⟨3, 0, [], 0, t⟩, endT (Lib.decDigits t ++ [116]).length] else .error 0 := by
 have h := read_dur t
 by_cases hc : 1 ≤ t ∧ t ≤ 100
 ·rw [if_pos hc] at h ⊢
  exact scan_single _ _ h
 ·rw [if_neg hc] at h ⊢
  have ha := List.all_eq_true.1 (dec_all t)
  cases e : Lib.decDigits t with
  | nil => have := dec_pos t; rw [e] at this; simp at this
  | cons c q =>
   rw [e] at h
   exact scanS_bad 0 c _ (isD_not_blank c (ha c (by rw [e]; simp))) h
theorem read_quote (v : List UInt8) (hn : (10 : UInt8) ∉ v) : readS (quote v) = if v.length ≤ 30 then some (⟨4, 0, v, 0, 0⟩, (quote v).length) else none := by
 unfold quote
 rw [readS, if_neg (by decide), if_neg (by decide), if_pos rfl]
 unfold readText
 rw [unq_quote [] v]
 simp only
 by_cases h : v.length ≤ 30
 ·rw [if_pos ⟨h, hn⟩, if_pos h]
  simp
 ·rw [if_neg (fun h' => h h'.1), if_neg h]
theorem built_text (v : List UInt8) (hn : (10 : UInt8) ∉ v) : scanS 0 (quote v) = if v.length ≤ 30 then .ok [⟨4, 0, v, 0, 0⟩, endT (quote v).length] else .error 0 := by
 have h := read_quote v hn
 by_cases hc : v.length ≤ 30
 ·rw [if_pos hc] at h ⊢
  exact scan_single _ _ h
 ·rw [if_neg hc] at h ⊢
  exact scanS_bad 0 _ _ rfl h
theorem built_name (k : Nat) : scanS 0 (List.replicate (k + 1) 97) = if k + 1 ≤ 20 then .ok [⟨1, 0, List.replicate (k + 1) 97, 0, 0⟩, endT (k + 1)] else .error 0 := by
 have hr : readS (List.replicate (k + 1) 97) = if k + 1 ≤ 20 then some (⟨1, 0, List.replicate (k + 1) 97, 0, 0⟩, (List.replicate (k + 1) (97 : UInt8)).length) else none := by
  have ht : (List.replicate (k + 1) (97 : UInt8)).takeWhile idc = List.replicate (k + 1) 97 := by
   refine takeWhile_all _ ?_
   intro c hc
   rw [List.mem_replicate] at hc
   rw [hc.2]
   rfl
  rw [List.replicate_succ] at ht ⊢
  rw [readS, if_pos (by decide)]
  unfold readId
  rw [ht, List.length_cons, List.length_replicate]
 by_cases hc : k + 1 ≤ 20
 ·rw [if_pos hc] at hr ⊢
  have := scan_single _ _ hr
  rw [List.length_replicate] at this
  exact this
 ·rw [if_neg hc] at hr ⊢
  rw [List.replicate_succ] at hr ⊢
  exact scanS_bad 0 _ _ rfl hr

/-! Signs with blanks behind them. -/
end Go.Proofs.YtnjobjogddjelaaGreatDoor.PureN
end

section
namespace Go.Proofs.YtnjobjogddjelaaGreatDoor.Print
open Go.Sort Go.Shelf
open Go.RowKit Go.Proofs.YtnjobjogddjelaaGreatDoorX Go.Proofs.YtnjobjogddjelaaGreatDoorW.PrintWords Go.Proofs.YtnjobjogddjelaaGreatDoorW.PrintLast Go.Proofs.YtnjobjogddjelaaGreatDoorW.PrintMore
attribute [local go_sem] max2_int min2_int max_two min_two max_three min_three max_four min_four

section
variable {P : Program} {ops : Array Oper} {rest : List Oper} {o : Oper} {a : Act} {Q : Exit → Act → World → Prop}
/-- A whole row stored over a row: one event. -/
theorem row_event {W : World} (hgd : o.guard = none) (hN : o.dst = none) {t : TypeId} {x y : Operand} (ho : o.op = .store t x y)
  {g : Nat} {cells old : Array Value} {e : TypeId} (hx : a.eval x = .pointer (some ⟨g, 0, none⟩)) (hy : a.eval y = .agg cells)
  (hg : W.heap[g]? = some (.cells old e (0, 0))) (hi : (P.info? t).map (·.size) = some cells.size) (hs : old.size = cells.size) (h1 : cells.all (·.oneCell') = true)
  (h : ∀ w', w' = W.setRow g cells → wpList P ops Q rest a w') : wpList P ops Q (o :: rest) a W := by
 refine wpList_plain hgd fun K hK => ?_
 refine wp_store_row t x y ho g cells hx hy e old hg hi hs h1 ?_
 rw [hN]
 exact hK _ _ (h _ rfl)
end

/-! spillwayref7.Signs, by hand. -/
def signT : List ByteArray := [⟨#[94, 61]⟩, ⟨#[42, 61]⟩, ⟨#[33, 61]⟩, ⟨#[61, 61]⟩, ⟨#[62, 61]⟩, ⟨#[60, 61]⟩, ⟨#[40]⟩, ⟨#[41]⟩, ⟨#[123]⟩, ⟨#[125]⟩, ⟨#[91]⟩, ⟨#[93]⟩, ⟨#[44]⟩, ⟨#[43]⟩, ⟨#[45]⟩, ⟨#[42]⟩, ⟨#[47]⟩, ⟨#[61]⟩, ⟨#[62]⟩, ⟨#[60]⟩, ⟨#[]⟩, ⟨#[]⟩]
def SG : Array Value := (signT.map Value.string).toArray
def SG0 : Array Value := (List.replicate 22 (Value.string ⟨#[]⟩)).toArray
set_option maxHeartbeats 2000000 in
set_option maxRecDepth 100000 in
theorem Signs_calls (w : World) :
  Calls Tryz.prog 17 #[] w fun e w' => e = .returned (.agg SG) ∧ Below w.heap.size w w' := by
 go_enter Tryz.func17, Tryz.ntmps17
 go_wp2_with (first
  | ((with_reducible refine gate_dst (N := 0) rfl ?_); refine box_event ?hg (N := 0) ?hd (cs := SG0) (t := 45) ?hr ?_; (case hd => rfl); (case hg => rfl); (case hr => first | (go_simp; done) | (go_simp; rfl)); intro g hg w1 hbox hb; have HB := Aside0.mk hb; have BK := Aside0.mk hbox; have HG := Aside0.mk hg; clear hb hbox hg)
  | ((with_reducible refine gate_ (.store 45 (.tmp 0) (.tmp 1)) rfl ?_); go_loud (refine row_event (x := .tmp 0) (y := .tmp 1) (t := 45) (g := g) (cells := SG) (old := SG0) (e := 45) rfl rfl rfl rfl rfl BK.out (by kernel_rfl) (by kernel_rfl) (by kernel_rfl) ?_; intro w2 hw2; have BK2 := Aside0.mk (show w2.heap[g]? = some (.cells SG 45 (0, 0)) by rw [hw2]; exact setRow_heap _ _ _ _ _ _ BK.out); have HB2 := Aside0.mk (show Below w.heap.size w w2 by rw [hw2]; exact below_setRow HB.out (by rw [HG.out]; exact Nat.le_refl _) _); clear hw2)))
 refine bodyPost_ret (results_cell_row rfl _ _ g 45 SG (0, 0) _ rfl BK2.out Tryz.underlying45 rfl (by kernel_rfl)) rfl ?_
 exact ⟨rfl, HB2.out⟩
end Go.Proofs.YtnjobjogddjelaaGreatDoor.Print
end

section
namespace Go.Proofs.YtnjobjogddjelaaGreatDoor.Print
open Go.RowKit Go.Proofs.YtnjobjogddjelaaGreatDoorX Go.Proofs.YtnjobjogddjelaaGreatDoorW.PrintWords Go.Proofs.YtnjobjogddjelaaGreatDoorW.PrintLast Go.Proofs.YtnjobjogddjelaaGreatDoorW.PrintMore

/-! Words for a struct in memory that is stored into: the world as a letter behind each store. -/
theorem R_row {α : Type} {d : Kd α} {w : World} {base : Nat} {e : TypeId} {ok : Nat → Prop} {v : Value} {xs : List α} (h : d.R e w base ok v xs) {g : Nat} (hok : ∀ k, ok k → k ≠ g) (cs : Array Value) : d.R e (w.setRow g cs) base ok v xs :=
 Kd.R_step h (fun k ho _ => setRow_other w g k cs (hok k ho))
section
variable {P : Program} {ops : Array Oper} {rest : List Oper} {o : Oper} {a : Act} {Q : Exit → Act → World → Prop}
theorem cell_event {W : World} (hgd : o.guard = none) (hN : o.dst = none) {t : TypeId} {x y : Operand} (ho : o.op = .store t x y)
  {g i : Nat} {v : Value} {old new : Array Value} {e : TypeId} (hx : a.eval x = .pointer (some ⟨g, i, none⟩)) (hy : a.eval y = v) (h1 : v.oneCell' = true) (hc : v.cells.toList = [v])
  (hg : W.heap[g]? = some (.cells old e (0, 0))) (hi : (P.info? t).map (·.size) = some 1) (hs : i < old.size) (hnew : old.setIfInBounds i v = new)
  (h : ∀ w', w' = W.setRow g new → wpList P ops Q rest a w') : wpList P ops Q (o :: rest) a W := by
 refine wpList_plain hgd fun K hK => ?_
 unfold Oper.wp execOp
 have hrun := run_store_run (P := P) (w := W) (g := g) (o := i) (e := e) (cur := old) t v [v] hg hc (by simpa using hi) (by simp; omega) (by simpa using h1)
 simp only [ho, hx, hy, Sem.run_bind, Sem.run_pure, hrun, Result.andThen_ok]
 show K (a.put o.dst undef) _
 rw [hN]
 refine hK _ _ (h _ ?_)
 rw [← hnew, ← setCell_eq_setRow W g i old e (0, 0) v hg]
 simp [World.setCells]
end
end Go.Proofs.YtnjobjogddjelaaGreatDoor.Print
end

section
namespace Go.Proofs.YtnjobjogddjelaaGreatDoor.Print
open Go.RowKit Go.Proofs.YtnjobjogddjelaaGreatDoorX Go.Proofs.YtnjobjogddjelaaGreatDoorW.PrintWords Go.Proofs.YtnjobjogddjelaaGreatDoorW.PrintLast Go.Proofs.YtnjobjogddjelaaGreatDoorW.PrintMore
attribute [local go_sem] max2_int min2_int max_two min_two max_three min_three max_four min_four

/-! ### lex_letter: function 23 -/
def lex_letter.f (a0 : Int) : Option (Bool) := if a0 ≥ 97 then (if a0 ≤ 122 then (some true) else (if a0 ≥ 65 then (if a0 ≤ 90 then (some true) else (some (a0 == 95))) else (some (a0 == 95)))) else (if a0 ≥ 65 then (if a0 ≤ 90 then (some true) else (some (a0 == 95))) else (some (a0 == 95)))
set_option maxHeartbeats 8000000 in
set_option maxRecDepth 100000 in
theorem lex_letter.calls (a0 : Int) (r : Bool) (w : World) (h : lex_letter.f a0 = some r) :
  Calls Tryz.prog 23 #[.int .u8 a0] w fun e w' => e = .returned (.bool r) ∧ Drawn0 w w' := by
 have H : (if a0 ≥ 97 then (if a0 ≤ 122 then (some true) else (if a0 ≥ 65 then (if a0 ≤ 90 then (some true) else (some (a0 == 95))) else (some (a0 == 95)))) else (if a0 ≥ 65 then (if a0 ≤ 90 then (some true) else (some (a0 == 95))) else (some (a0 == 95)))) = some r := h
 clear h
 by_cases c2 : a0 ≥ 97
 ·rw [if_pos c2] at H
  have c2b0 : decide (97 ≤ a0) = true := decide_eq_true c2
  clear c2
  by_cases c3 : a0 ≤ 122
  ·rw [if_pos c3] at H
   have c3b0 : decide (a0 ≤ 122) = true := decide_eq_true c3
   clear c3
   obtain rfl := Option.some.inj H
   go_enter Tryz.func23, Tryz.ntmps23
   go_wp2
   go_ret
   exact ⟨by first | rfl | (simp; done) | (simp [*]; done), by repeat (first | exact Drawn0.refl _ | apply Drawn0.step)⟩
  ·rw [if_neg c3] at H
   have c3b0 : decide (a0 ≤ 122) = false := decide_eq_false c3
   clear c3
   by_cases c4 : a0 ≥ 65
   ·rw [if_pos c4] at H
    have c4b0 : decide (65 ≤ a0) = true := decide_eq_true c4
    clear c4
    by_cases c5 : a0 ≤ 90
    ·rw [if_pos c5] at H
     have c5b0 : decide (a0 ≤ 90) = true := decide_eq_true c5
     clear c5
     obtain rfl := Option.some.inj H
     go_enter Tryz.func23, Tryz.ntmps23
     go_wp2
     go_ret
     exact ⟨by first | rfl | (simp; done) | (simp [*]; done), by repeat (first | exact Drawn0.refl _ | apply Drawn0.step)⟩
    ·rw [if_neg c5] at H
     have c5b0 : decide (a0 ≤ 90) = false := decide_eq_false c5
     clear c5
     obtain rfl := Option.some.inj H
     go_enter Tryz.func23, Tryz.ntmps23
     go_wp2
     go_ret
     exact ⟨by first | rfl | (simp; done) | (simp [*]; done), by repeat (first | exact Drawn0.refl _ | apply Drawn0.step)⟩
   ·rw [if_neg c4] at H
    have c4b0 : decide (65 ≤ a0) = false := decide_eq_false c4
    clear c4
    obtain rfl := Option.some.inj H
    go_enter Tryz.func23, Tryz.ntmps23
    go_wp2
    go_ret
    exact ⟨by first | rfl | (simp; done) | (simp [*]; done), by repeat (first | exact Drawn0.refl _ | apply Drawn0.step)⟩
 ·rw [if_neg c2] at H
  have c2b0 : decide (97 ≤ a0) = false := decide_eq_false c2
  clear c2
  by_cases c6 : a0 ≥ 65
  ·rw [if_pos c6] at H
   have c6b0 : decide (65 ≤ a0) = true := decide_eq_true c6
   clear c6
   by_cases c7 : a0 ≤ 90
   ·rw [if_pos c7] at H
    have c7b0 : decide (a0 ≤ 90) = true := decide_eq_true c7
    clear c7
    obtain rfl := Option.some.inj H
    go_enter Tryz.func23, Tryz.ntmps23
    go_wp2
    go_ret
    exact ⟨by first | rfl | (simp; done) | (simp [*]; done), by repeat (first | exact Drawn0.refl _ | apply Drawn0.step)⟩
   ·rw [if_neg c7] at H
    have c7b0 : decide (a0 ≤ 90) = false := decide_eq_false c7
    clear c7
    obtain rfl := Option.some.inj H
    go_enter Tryz.func23, Tryz.ntmps23
    go_wp2
    go_ret
    exact ⟨by first | rfl | (simp; done) | (simp [*]; done), by repeat (first | exact Drawn0.refl _ | apply Drawn0.step)⟩
  ·rw [if_neg c6] at H
   have c6b0 : decide (65 ≤ a0) = false := decide_eq_false c6
   clear c6
   obtain rfl := Option.some.inj H
   go_enter Tryz.func23, Tryz.ntmps23
   go_wp2
   go_ret
   exact ⟨by first | rfl | (simp; done) | (simp [*]; done), by repeat (first | exact Drawn0.refl _ | apply Drawn0.step)⟩

end Go.Proofs.YtnjobjogddjelaaGreatDoor.Print
end

section
namespace Go.Proofs.YtnjobjogddjelaaGreatDoor.Print
open Go.RowKit Go.Proofs.YtnjobjogddjelaaGreatDoorX Go.Proofs.YtnjobjogddjelaaGreatDoorW.PrintWords Go.Proofs.YtnjobjogddjelaaGreatDoorW.PrintLast Go.Proofs.YtnjobjogddjelaaGreatDoorW.PrintMore
attribute [local go_sem] max2_int min2_int max_two min_two max_three min_three max_four min_four

/-! lex.many with ident's closure, by hand. -/
def idP (c : Int) : Prop := (97 ≤ c ∧ c ≤ 122) ∨ (65 ≤ c ∧ c ≤ 90) ∨ c = 95 ∨ (48 ≤ c ∧ c ≤ 57)
instance (c : Int) : Decidable (idP c) := by unfold idP; infer_instance
def lex_many42.l0 : Nat → ByteArray → Int → Option Int
  | 0, _, _ => none
  | k + 1, x0, x3 => if x3 < (x0.size : Int) then (if 0 ≤ x3 then (if idP (bt x0 x3) then lex_many42.l0 k x0 (wrap64 (x3 + 1)) else some x3) else none) else some x3
theorem lex_many42.mono_l : ∀ k, (∀ y0 y1, LeO (lex_many42.l0 k y0 y1) (lex_many42.l0 (k + 1) y0 y1))
  | 0 => fun _ _ r h => by simp [lex_many42.l0] at h
  | k + 1 => by
    have ih0 := lex_many42.mono_l k
    intro y0 y1
    unfold lex_many42.l0
    repeat' first
      | (with_reducible exact ih0 _ _)
      | (with_reducible exact LeO.refl _)
      | (with_reducible exact LeO.none _)
      | (with_reducible refine LeO.ite ?_ ?_)
      | exact ih0 _ _
      | exact LeO.none _
      | refine LeO.ite ?_ ?_
def lex_many42.f (k : Nat) (a0 : ByteArray) : Option Int := lex_many42.l0 k a0 0
theorem lex_many42.mono : ∀ a0 k, LeO (lex_many42.f k a0) (lex_many42.f (k + 1) a0) := fun a0 k => lex_many42.mono_l k a0 0
set_option maxHeartbeats 8000000 in
set_option maxRecDepth 100000 in
theorem lex_many42.calls (k : Nat) (a0 : ByteArray) (r : Int) (w : World) (h : lex_many42.f k a0 = some r) :
    Calls Tryz.prog 41 #[.string a0, .func (.func 42) #[] #[]] w fun e w' => e = .returned (.int .i64 r) ∧ Drawn0 w w' := by
  have H' : Aside0 (lex_many42.l0 k a0 0 = some r) := ⟨h⟩
  clear h
  go_enter Tryz.func41, Tryz.ntmps41
  go_wp2
  go_loopg [5] k (fun kq v3 w' => ∃ (x3_1 : Int), v3 = .int .i64 x3_1 ∧ Aside0 (lex_many42.l0 kq a0 x3_1 = some r) ∧ Aside0 (kq ≤ k) ∧ Drawn0 w w')
  case atStart => exact ⟨(0), (by first | rfl | (simp; done) | (simp [*]; done)), H', ⟨Nat.le_refl _⟩, by repeat (first | exact Drawn0.refl _ | apply Drawn0.step)⟩
  case round =>
    clear H'
    obtain ⟨x3_1, rfl, HA, HK1, ⟨m1, rfl⟩⟩ := hrel
    cases gk with
    | zero => exact absurd HA.out (by simp [lex_many42.l0])
    | succ k1 =>
      have H := HA.out
      clear HA
      simp only [lex_many42.l0] at H
      by_cases c2 : x3_1 < (a0.size : Int)
      · rw [if_pos c2] at H
        have c2b0 : decide (x3_1 < (a0.size : Int)) = true := decide_eq_true c2
        by_cases c3 : 0 ≤ x3_1
        · rw [if_pos c3] at H
          have p4 : 0 ≤ (x3_1 : Int) := c3
          have q4 : x3_1 < (a0.size : Int) := c2
          have hx4 := bt_at a0 x3_1
          replace p4 := eq_true p4
          replace q4 := eq_true q4
          have H' := Aside0.mk H
          clear H c2 c3
          go_wp2_with (first | go_in)
          all_goals first
            | (go_roundg k1
               case measure => have := HK1.out; omega
               case rel =>
                 have hP : idP (bt a0 x3_1) := by unfold idP; simp only [beq_eq_false_iff_ne, beq_iff_eq, ne_eq, Bool.or_eq_true, Bool.and_eq_true, decide_eq_true_eq, decide_eq_false_iff_not] at *; omega
                 have H2 := H'.out
                 rw [if_pos hP] at H2
                 exact ⟨(wrap64 (x3_1 + 1)), (by first | rfl | (simp; done) | (simp [*]; done)), ⟨H2⟩, ⟨by have := HK1.out; omega⟩, by repeat (first | exact Drawn0.refl _ | apply Drawn0.step)⟩)
            | (go_ret
               have hP : ¬ idP (bt a0 x3_1) := by unfold idP; simp only [beq_eq_false_iff_ne, beq_iff_eq, ne_eq, Bool.or_eq_true, Bool.and_eq_true, decide_eq_true_eq, decide_eq_false_iff_not] at *; omega
               have H2 := H'.out
               rw [if_neg hP] at H2
               obtain rfl := Option.some.inj H2
               exact ⟨by first | rfl | (simp; done) | (simp [*]; done), by repeat (first | exact Drawn0.refl _ | apply Drawn0.step)⟩)
        · rw [if_neg c3] at H
          exact absurd H (by simp)
      · rw [if_neg c2] at H
        have c2b0 : decide (x3_1 < (a0.size : Int)) = false := decide_eq_false c2
        clear c2
        obtain rfl := Option.some.inj H
        go_wp2
        go_ret
        exact ⟨by first | rfl | (simp; done) | (simp [*]; done), by repeat (first | exact Drawn0.refl _ | apply Drawn0.step)⟩
end Go.Proofs.YtnjobjogddjelaaGreatDoor.Print
end

section
namespace Go.Proofs.YtnjobjogddjelaaGreatDoor.Print
open Go.RowKit Go.Proofs.YtnjobjogddjelaaGreatDoorX Go.Proofs.YtnjobjogddjelaaGreatDoorW.PrintWords Go.Proofs.YtnjobjogddjelaaGreatDoorW.PrintLast Go.Proofs.YtnjobjogddjelaaGreatDoorW.PrintMore
attribute [local go_sem] max2_int min2_int max_two min_two max_three min_three max_four min_four

/-! ### lex_ident: function 24 -/
def lex_ident.f (k : Nat) (a0 : ByteArray) : Option (Int × Int × ByteArray × Bool × Int × Int × Int) := (lex_many42.f k a0).bind fun t102 => (if t102 > 20 then (some (0, 0, (⟨#[]⟩ : ByteArray), false, 0, 0, 0)) else (if 0 ≤ t102 then (if t102 ≤ (a0.size : Int) then (some (1, 0, a0.extract 0 (t102 : Int).toNat, false, 0, 0, t102)) else (none)) else (none)))
theorem lex_ident.mono : ∀ a0 k, LeO (lex_ident.f k a0) (lex_ident.f (k + 1) a0) := by
 intro a0 k
 unfold lex_ident.f
 repeat' first
   | (with_reducible exact lex_many42.mono _ _)
   | (with_reducible exact LeO.refl _)
   | (with_reducible exact LeO.none _)
   | (with_reducible refine LeO.ite ?_ ?_)
   | (with_reducible refine LeO.bind ?_ (fun _ => ?_))
   | exact lex_many42.mono _ _
   | exact LeO.none _
   | refine LeO.ite ?_ ?_
   | refine LeO.bind ?_ (fun _ => ?_)
set_option maxHeartbeats 8000000 in
set_option maxRecDepth 100000 in
theorem lex_ident.calls (k : Nat) (a0 : ByteArray) (r1 : Int) (r2 : Int) (r3 : ByteArray) (r4 : Bool) (r5 : Int) (r6 : Int) (r7 : Int) (w : World) (h : lex_ident.f k a0 = some (r1, r2, r3, r4, r5, r6, r7)) :
  Calls Tryz.prog 24 #[.string a0] w fun e w' => e = .returned (.tuple #[.agg #[.int .i64 r1, .int .i64 r2, .string r3, .bool r4, .int .i64 r5, .int .i64 r6], .int .i64 r7]) ∧ Below w.heap.size w w' := by
 have hu36 := Tryz.underlying36
 have HB := Aside0.mk (Below.refl w.heap.size w)
 have H : ((lex_many42.f k a0).bind fun t102 => (if t102 > 20 then (some (0, 0, (⟨#[]⟩ : ByteArray), false, 0, 0, 0)) else (if 0 ≤ t102 then (if t102 ≤ (a0.size : Int) then (some (1, 0, a0.extract 0 (t102 : Int).toNat, false, 0, 0, t102)) else (none)) else (none)))) = some (r1, r2, r3, r4, r5, r6, r7) := h
 clear h
 replace H := Option.bind_eq_some_iff.mp H
 obtain ⟨t102, A20, H⟩ := H
 replace H : (if t102 > 20 then (some (0, 0, (⟨#[]⟩ : ByteArray), false, 0, 0, 0)) else (if 0 ≤ t102 then (if t102 ≤ (a0.size : Int) then (some (1, 0, a0.extract 0 (t102 : Int).toNat, false, 0, 0, t102)) else (none)) else (none))) = some (r1, r2, r3, r4, r5, r6, r7) := H
 have A2 := Aside0.mk A20
 clear A20
 by_cases c3 : t102 > 20
 ·rw [if_pos c3] at H
  have c3b0 : decide (20 < t102) = true := decide_eq_true c3
  clear c3
  simp only [Option.some.injEq, Prod.mk.injEq] at H
  obtain ⟨rfl, rfl, rfl, rfl, rfl, rfl, rfl⟩ := H
  go_enter Tryz.func24, Tryz.ntmps24
  go_wp2_with (first | ((with_reducible refine gate_dst (N := 2) rfl ?_); refine box_event ?hg (N := 2) ?hd (cs := #[.int .i64 0, .int .i64 0, .string (⟨#[]⟩ : ByteArray), .bool false, .int .i64 0, .int .i64 0]) (t := 36) ?hr ?_; (case hd => rfl); (case hg => rfl); (case hr => first | (go_simp; done) | (go_simp; rfl)); intro gb101 hg w4 hbox hb; have n0_ := Aside0.mk (below_step (by repeat (first | (with_reducible first | exact HB.out | apply below_alloc | apply pw_below_drewN | apply below_drew1) | exact HB.out)) hb); have n1_ := Aside0.mk (hbox); have n2_ := Aside0.mk ((by rw [hg]; exact (below_size (by repeat (first | (with_reducible first | exact HB.out | apply below_alloc | apply pw_below_drewN | apply below_drew1) | exact HB.out))) : w.heap.size ≤ gb101)); have n3_ := Aside0.mk ((by rw [hg]; exact (below_size (by repeat (first | (with_reducible first | exact HB.out | apply below_alloc | apply pw_below_drewN | apply below_drew1) | exact HB.out))) : w.heap.size ≤ gb101)); clear HB; have HB := n0_; have BK101 := n1_; have GW101 := n2_; have GE101 := n3_; clear n0_ n1_ n2_ n3_; clear hb hbox hg) | ((with_reducible refine gate_callee (f := 41) rfl ?_); refine goesL_ (some 6) rfl rfl Tryz.func41 (by kernel_rfl) rfl #[.string a0, .func (.func 42) #[] #[]] rfl (by (try simp only [List.map_toArray, List.map_cons, List.map_nil]); first | done | rfl | (simp only [List.length_drop, List.length_take]; rfl)) ?_; (with_reducible refine (lex_many42.calls k a0 t102 _ A2.out).mono ?_); rintro e w' ⟨rfl, ⟨nd, rfl⟩⟩; refine ⟨_, rfl, ?_⟩; (try (rw [drewN_self w4]; generalize hq_ : World.drewN w4 _ = w4; have n0_ : Aside0 (w4.heap[gb101]? = some (.cells #[.int .i64 0, .int .i64 0, .string (⟨#[]⟩ : ByteArray), .bool false, .int .i64 0, .int .i64 0] 36 (0, 0))) := ⟨by rw [← hq_]; exact (by (with_reducible repeat (first | refine blk_drewN ?_ _ | refine blk_drew ?_ | refine blk_alloc ?_ _)); exact BK101.out)⟩; have n1_ : Aside0 (Below w.heap.size w w4) := ⟨by rw [← hq_]; exact (by repeat (first | (with_reducible first | exact HB.out | apply below_alloc | apply pw_below_drewN | apply below_drew1 | refine below_set ?_ GE101.out) | exact HB.out))⟩; clear BK101 HB hq_; have BK101 := n0_; have HB := n1_; clear n0_ n1_)); have hcz5_0 : w4.cell? ⟨gb101, 0, none⟩ = some (.int .i64 0) := (blk_cell BK101.out 0).trans rfl; have hcz5_1 : w4.cell? ⟨gb101, 1, none⟩ = some (.int .i64 0) := (blk_cell BK101.out 1).trans rfl; have hcz5_2 : w4.cell? ⟨gb101, 2, none⟩ = some (.string (⟨#[]⟩ : ByteArray)) := (blk_cell BK101.out 2).trans rfl; have hcz5_3 : w4.cell? ⟨gb101, 3, none⟩ = some (.bool false) := (blk_cell BK101.out 3).trans rfl; have hcz5_4 : w4.cell? ⟨gb101, 4, none⟩ = some (.int .i64 0) := (blk_cell BK101.out 4).trans rfl; have hcz5_5 : w4.cell? ⟨gb101, 5, none⟩ = some (.int .i64 0) := (blk_cell BK101.out 5).trans rfl; have hfz5_0 := blk_frozen BK101.out 0; have hfz5_1 := blk_frozen BK101.out 1; have hfz5_2 := blk_frozen BK101.out 2; have hfz5_3 := blk_frozen BK101.out 3; have hfz5_4 := blk_frozen BK101.out 4; have hfz5_5 := blk_frozen BK101.out 5))
  refine bodyPost_ret (results_ct rfl _ _ gb101 36 #[.int .i64 0, .int .i64 0, .string (⟨#[]⟩ : ByteArray), .bool false, .int .i64 0, .int .i64 0] (0, 0) _ rfl (by (with_reducible repeat (first | refine blk_drewN ?_ _ | refine blk_drew ?_ | refine blk_alloc ?_ _)); refine blk_put (cs := #[.int .i64 0, .int .i64 0, .string (⟨#[]⟩ : ByteArray), .bool false, .int .i64 0, .int .i64 0]) ?_ 5 _ rfl; (with_reducible repeat (first | refine blk_drewN ?_ _ | refine blk_drew ?_ | refine blk_alloc ?_ _)); refine blk_put (cs := #[.int .i64 0, .int .i64 0, .string (⟨#[]⟩ : ByteArray), .bool false, .int .i64 0, .int .i64 0]) ?_ 4 _ rfl; (with_reducible repeat (first | refine blk_drewN ?_ _ | refine blk_drew ?_ | refine blk_alloc ?_ _)); refine blk_put (cs := #[.int .i64 0, .int .i64 0, .string (⟨#[]⟩ : ByteArray), .bool false, .int .i64 0, .int .i64 0]) ?_ 3 _ rfl; (with_reducible repeat (first | refine blk_drewN ?_ _ | refine blk_drew ?_ | refine blk_alloc ?_ _)); refine blk_put (cs := #[.int .i64 0, .int .i64 0, .string (⟨#[]⟩ : ByteArray), .bool false, .int .i64 0, .int .i64 0]) ?_ 2 _ rfl; (with_reducible repeat (first | refine blk_drewN ?_ _ | refine blk_drew ?_ | refine blk_alloc ?_ _)); refine blk_put (cs := #[.int .i64 0, .int .i64 0, .string (⟨#[]⟩ : ByteArray), .bool false, .int .i64 0, .int .i64 0]) ?_ 1 _ rfl; (with_reducible repeat (first | refine blk_drewN ?_ _ | refine blk_drew ?_ | refine blk_alloc ?_ _)); refine blk_put (cs := #[.int .i64 0, .int .i64 0, .string (⟨#[]⟩ : ByteArray), .bool false, .int .i64 0, .int .i64 0]) ?_ 0 _ rfl; (with_reducible repeat (first | refine blk_drewN ?_ _ | refine blk_drew ?_ | refine blk_alloc ?_ _)); exact BK101.out) Tryz.underlying36 rfl (by kernel_rfl)) rfl ?_
  exact ⟨by first | rfl | (simp [errW_none, errW_some] <;> rfl) | (simp [*, errW_none, errW_some] <;> rfl), by repeat (first | (with_reducible first | exact HB.out | apply below_alloc | apply pw_below_drewN | apply below_drew1 | refine below_set ?_ GE101.out) | exact HB.out)⟩
 ·rw [if_neg c3] at H
  have c3b0 : decide (20 < t102) = false := decide_eq_false c3
  clear c3
  by_cases c6 : 0 ≤ t102
  ·rw [if_pos c6] at H
   have c6b0 := eq_true c6
   have c6b1 : decide (0 ≤ t102) = true := decide_eq_true c6
   clear c6
   by_cases c7 : t102 ≤ (a0.size : Int)
   ·rw [if_pos c7] at H
    have c7b0 := eq_true c7
    have c7b1 : decide (t102 ≤ (a0.size : Int)) = true := decide_eq_true c7
    clear c7
    simp only [Option.some.injEq, Prod.mk.injEq] at H
    obtain ⟨rfl, rfl, rfl, rfl, rfl, rfl, rfl⟩ := H
    go_enter Tryz.func24, Tryz.ntmps24
    go_wp2_with (first | ((with_reducible refine gate_dst (N := 2) rfl ?_); refine box_event ?hg (N := 2) ?hd (cs := #[.int .i64 0, .int .i64 0, .string (⟨#[]⟩ : ByteArray), .bool false, .int .i64 0, .int .i64 0]) (t := 36) ?hr ?_; (case hd => rfl); (case hg => rfl); (case hr => first | (go_simp; done) | (go_simp; rfl)); intro gb101 hg w8 hbox hb; have n0_ := Aside0.mk (below_step (by repeat (first | (with_reducible first | exact HB.out | apply below_alloc | apply pw_below_drewN | apply below_drew1) | exact HB.out)) hb); have n1_ := Aside0.mk (hbox); have n2_ := Aside0.mk ((by rw [hg]; exact (below_size (by repeat (first | (with_reducible first | exact HB.out | apply below_alloc | apply pw_below_drewN | apply below_drew1) | exact HB.out))) : w.heap.size ≤ gb101)); have n3_ := Aside0.mk ((by rw [hg]; exact (below_size (by repeat (first | (with_reducible first | exact HB.out | apply below_alloc | apply pw_below_drewN | apply below_drew1) | exact HB.out))) : w.heap.size ≤ gb101)); clear HB; have HB := n0_; have BK101 := n1_; have GW101 := n2_; have GE101 := n3_; clear n0_ n1_ n2_ n3_; clear hb hbox hg) | ((with_reducible refine gate_callee (f := 41) rfl ?_); refine goesL_ (some 6) rfl rfl Tryz.func41 (by kernel_rfl) rfl #[.string a0, .func (.func 42) #[] #[]] rfl (by (try simp only [List.map_toArray, List.map_cons, List.map_nil]); first | done | rfl | (simp only [List.length_drop, List.length_take]; rfl)) ?_; (with_reducible refine (lex_many42.calls k a0 t102 _ A2.out).mono ?_); rintro e w' ⟨rfl, ⟨nd, rfl⟩⟩; refine ⟨_, rfl, ?_⟩; (try (rw [drewN_self w8]; generalize hq_ : World.drewN w8 _ = w8; have n0_ : Aside0 (w8.heap[gb101]? = some (.cells #[.int .i64 0, .int .i64 0, .string (⟨#[]⟩ : ByteArray), .bool false, .int .i64 0, .int .i64 0] 36 (0, 0))) := ⟨by rw [← hq_]; exact (by (with_reducible repeat (first | refine blk_drewN ?_ _ | refine blk_drew ?_ | refine blk_alloc ?_ _)); exact BK101.out)⟩; have n1_ : Aside0 (Below w.heap.size w w8) := ⟨by rw [← hq_]; exact (by repeat (first | (with_reducible first | exact HB.out | apply below_alloc | apply pw_below_drewN | apply below_drew1 | refine below_set ?_ GE101.out) | exact HB.out))⟩; clear BK101 HB hq_; have BK101 := n0_; have HB := n1_; clear n0_ n1_)); have hcz9_0 : w8.cell? ⟨gb101, 0, none⟩ = some (.int .i64 0) := (blk_cell BK101.out 0).trans rfl; have hcz9_1 : w8.cell? ⟨gb101, 1, none⟩ = some (.int .i64 0) := (blk_cell BK101.out 1).trans rfl; have hcz9_2 : w8.cell? ⟨gb101, 2, none⟩ = some (.string (⟨#[]⟩ : ByteArray)) := (blk_cell BK101.out 2).trans rfl; have hcz9_3 : w8.cell? ⟨gb101, 3, none⟩ = some (.bool false) := (blk_cell BK101.out 3).trans rfl; have hcz9_4 : w8.cell? ⟨gb101, 4, none⟩ = some (.int .i64 0) := (blk_cell BK101.out 4).trans rfl; have hcz9_5 : w8.cell? ⟨gb101, 5, none⟩ = some (.int .i64 0) := (blk_cell BK101.out 5).trans rfl; have hfz9_0 := blk_frozen BK101.out 0; have hfz9_1 := blk_frozen BK101.out 1; have hfz9_2 := blk_frozen BK101.out 2; have hfz9_3 := blk_frozen BK101.out 3; have hfz9_4 := blk_frozen BK101.out 4; have hfz9_5 := blk_frozen BK101.out 5))
    refine bodyPost_ret (results_ct rfl _ _ gb101 36 #[.int .i64 1, .int .i64 0, .string (a0.extract 0 (t102 : Int).toNat), .bool false, .int .i64 0, .int .i64 0] (0, 0) _ rfl (by (with_reducible repeat (first | refine blk_drewN ?_ _ | refine blk_drew ?_ | refine blk_alloc ?_ _)); refine blk_put (cs := #[.int .i64 1, .int .i64 0, .string (a0.extract 0 (t102 : Int).toNat), .bool false, .int .i64 0, .int .i64 0]) ?_ 5 _ rfl; (with_reducible repeat (first | refine blk_drewN ?_ _ | refine blk_drew ?_ | refine blk_alloc ?_ _)); refine blk_put (cs := #[.int .i64 1, .int .i64 0, .string (a0.extract 0 (t102 : Int).toNat), .bool false, .int .i64 0, .int .i64 0]) ?_ 4 _ rfl; (with_reducible repeat (first | refine blk_drewN ?_ _ | refine blk_drew ?_ | refine blk_alloc ?_ _)); refine blk_put (cs := #[.int .i64 1, .int .i64 0, .string (a0.extract 0 (t102 : Int).toNat), .bool false, .int .i64 0, .int .i64 0]) ?_ 3 _ rfl; (with_reducible repeat (first | refine blk_drewN ?_ _ | refine blk_drew ?_ | refine blk_alloc ?_ _)); refine blk_put (cs := #[.int .i64 1, .int .i64 0, .string (⟨#[]⟩ : ByteArray), .bool false, .int .i64 0, .int .i64 0]) ?_ 2 _ rfl; (with_reducible repeat (first | refine blk_drewN ?_ _ | refine blk_drew ?_ | refine blk_alloc ?_ _)); refine blk_put (cs := #[.int .i64 1, .int .i64 0, .string (⟨#[]⟩ : ByteArray), .bool false, .int .i64 0, .int .i64 0]) ?_ 1 _ rfl; (with_reducible repeat (first | refine blk_drewN ?_ _ | refine blk_drew ?_ | refine blk_alloc ?_ _)); refine blk_put (cs := #[.int .i64 0, .int .i64 0, .string (⟨#[]⟩ : ByteArray), .bool false, .int .i64 0, .int .i64 0]) ?_ 0 _ rfl; (with_reducible repeat (first | refine blk_drewN ?_ _ | refine blk_drew ?_ | refine blk_alloc ?_ _)); exact BK101.out) Tryz.underlying36 rfl (by kernel_rfl)) rfl ?_
    exact ⟨by first | rfl | (simp [errW_none, errW_some] <;> rfl) | (simp [*, errW_none, errW_some] <;> rfl), by repeat (first | (with_reducible first | exact HB.out | apply below_alloc | apply pw_below_drewN | apply below_drew1 | refine below_set ?_ GE101.out) | exact HB.out)⟩
   ·rw [if_neg c7] at H
    exact absurd H (by simp)
  ·rw [if_neg c6] at H
   exact absurd H (by simp)

end Go.Proofs.YtnjobjogddjelaaGreatDoor.Print
end

section
namespace Go.Proofs.YtnjobjogddjelaaGreatDoor.Print
open Go.RowKit Go.Proofs.YtnjobjogddjelaaGreatDoorX Go.Proofs.YtnjobjogddjelaaGreatDoorW.PrintWords Go.Proofs.YtnjobjogddjelaaGreatDoorW.PrintLast Go.Proofs.YtnjobjogddjelaaGreatDoorW.PrintMore
attribute [local go_sem] max2_int min2_int max_two min_two max_three min_three max_four min_four

/-! ### lex_digit: function 25 -/
def lex_digit.f (a0 : Int) : Option (Bool) := if a0 ≥ 48 then (some (decide (a0 ≤ 57))) else (some false)
set_option maxHeartbeats 8000000 in
set_option maxRecDepth 100000 in
theorem lex_digit.calls (a0 : Int) (r : Bool) (w : World) (h : lex_digit.f a0 = some r) :
  Calls Tryz.prog 25 #[.int .u8 a0] w fun e w' => e = .returned (.bool r) ∧ Drawn0 w w' := by
 have H : (if a0 ≥ 48 then (some (decide (a0 ≤ 57))) else (some false)) = some r := h
 clear h
 by_cases c2 : a0 ≥ 48
 ·rw [if_pos c2] at H
  have c2b0 : decide (48 ≤ a0) = true := decide_eq_true c2
  clear c2
  obtain rfl := Option.some.inj H
  go_enter Tryz.func25, Tryz.ntmps25
  go_wp2
  go_ret
  exact ⟨by first | rfl | (simp; done) | (simp [*]; done), by repeat (first | exact Drawn0.refl _ | apply Drawn0.step)⟩
 ·rw [if_neg c2] at H
  have c2b0 : decide (48 ≤ a0) = false := decide_eq_false c2
  clear c2
  obtain rfl := Option.some.inj H
  go_enter Tryz.func25, Tryz.ntmps25
  go_wp2
  go_ret
  exact ⟨by first | rfl | (simp; done) | (simp [*]; done), by repeat (first | exact Drawn0.refl _ | apply Drawn0.step)⟩

end Go.Proofs.YtnjobjogddjelaaGreatDoor.Print
end

section
namespace Go.Proofs.YtnjobjogddjelaaGreatDoor.Print
open Go.RowKit Go.Proofs.YtnjobjogddjelaaGreatDoorX Go.Proofs.YtnjobjogddjelaaGreatDoorW.PrintWords Go.Proofs.YtnjobjogddjelaaGreatDoorW.PrintLast Go.Proofs.YtnjobjogddjelaaGreatDoorW.PrintMore
attribute [local go_sem] max2_int min2_int max_two min_two max_three min_three max_four min_four

/-! lex.many with digit, by hand. -/
def lex_many25.l0 : Nat → ByteArray → Int → Option Int
  | 0, _, _ => none
  | k + 1, x0, x3 => if x3 < (x0.size : Int) then (if 0 ≤ x3 then (if 48 ≤ bt x0 x3 then (if bt x0 x3 ≤ 57 then lex_many25.l0 k x0 (wrap64 (x3 + 1)) else some x3) else some x3) else none) else some x3
theorem lex_many25.mono_l : ∀ k, (∀ y0 y1, LeO (lex_many25.l0 k y0 y1) (lex_many25.l0 (k + 1) y0 y1))
  | 0 => fun _ _ r h => by simp [lex_many25.l0] at h
  | k + 1 => by
    have ih0 := lex_many25.mono_l k
    intro y0 y1
    unfold lex_many25.l0
    repeat' first
      | (with_reducible exact ih0 _ _)
      | (with_reducible exact LeO.refl _)
      | (with_reducible exact LeO.none _)
      | (with_reducible refine LeO.ite ?_ ?_)
      | exact ih0 _ _
      | exact LeO.none _
      | refine LeO.ite ?_ ?_
def lex_many25.f (k : Nat) (a0 : ByteArray) : Option Int := lex_many25.l0 k a0 0
theorem lex_many25.mono : ∀ a0 k, LeO (lex_many25.f k a0) (lex_many25.f (k + 1) a0) := fun a0 k => lex_many25.mono_l k a0 0
set_option maxHeartbeats 8000000 in
set_option maxRecDepth 100000 in
theorem lex_many25.calls (k : Nat) (a0 : ByteArray) (r : Int) (w : World) (h : lex_many25.f k a0 = some r) :
    Calls Tryz.prog 41 #[.string a0, .func (.func 25) #[] #[]] w fun e w' => e = .returned (.int .i64 r) ∧ Drawn0 w w' := by
  have H' : Aside0 (lex_many25.l0 k a0 0 = some r) := ⟨h⟩
  clear h
  go_enter Tryz.func41, Tryz.ntmps41
  go_wp2
  go_loopg [5] k (fun kq v3 w' => ∃ (x3_1 : Int), v3 = .int .i64 x3_1 ∧ Aside0 (lex_many25.l0 kq a0 x3_1 = some r) ∧ Aside0 (kq ≤ k) ∧ Drawn0 w w')
  case atStart => exact ⟨(0), (by first | rfl | (simp; done) | (simp [*]; done)), H', ⟨Nat.le_refl _⟩, by repeat (first | exact Drawn0.refl _ | apply Drawn0.step)⟩
  case round =>
    clear H'
    obtain ⟨x3_1, rfl, HA, HK1, ⟨m1, rfl⟩⟩ := hrel
    cases gk with
    | zero => exact absurd HA.out (by simp [lex_many25.l0])
    | succ k1 =>
      have H := HA.out
      clear HA
      simp only [lex_many25.l0] at H
      by_cases c2 : x3_1 < (a0.size : Int)
      · rw [if_pos c2] at H
        have c2b0 : decide (x3_1 < (a0.size : Int)) = true := decide_eq_true c2
        by_cases c3 : 0 ≤ x3_1
        · rw [if_pos c3] at H
          have p4 : 0 ≤ (x3_1 : Int) := c3
          have q4 : x3_1 < (a0.size : Int) := c2
          have hx4 := bt_at a0 x3_1
          replace p4 := eq_true p4
          replace q4 := eq_true q4
          by_cases c5 : 48 ≤ bt a0 x3_1
          · rw [if_pos c5] at H
            have c5b : decide (48 ≤ bt a0 x3_1) = true := decide_eq_true c5
            by_cases c6 : bt a0 x3_1 ≤ 57
            · rw [if_pos c6] at H
              have c6b : decide (bt a0 x3_1 ≤ 57) = true := decide_eq_true c6
              have H' := Aside0.mk H
              clear H c2 c3 c5 c6
              go_wp2_with (first | go_in)
              go_roundg k1
              case measure => have := HK1.out; omega
              case rel => exact ⟨(wrap64 (x3_1 + 1)), (by first | rfl | (simp; done) | (simp [*]; done)), H', ⟨by have := HK1.out; omega⟩, by repeat (first | exact Drawn0.refl _ | apply Drawn0.step)⟩
            · rw [if_neg c6] at H
              have c6b : decide (bt a0 x3_1 ≤ 57) = false := decide_eq_false c6
              clear c2 c3 c5 c6
              obtain rfl := Option.some.inj H
              go_wp2_with (first | go_in)
              go_ret
              exact ⟨by first | rfl | (simp; done) | (simp [*]; done), by repeat (first | exact Drawn0.refl _ | apply Drawn0.step)⟩
          · rw [if_neg c5] at H
            have c5b : decide (48 ≤ bt a0 x3_1) = false := decide_eq_false c5
            clear c2 c3 c5
            obtain rfl := Option.some.inj H
            go_wp2_with (first | go_in)
            go_ret
            exact ⟨by first | rfl | (simp; done) | (simp [*]; done), by repeat (first | exact Drawn0.refl _ | apply Drawn0.step)⟩
        · rw [if_neg c3] at H
          exact absurd H (by simp)
      · rw [if_neg c2] at H
        have c2b0 : decide (x3_1 < (a0.size : Int)) = false := decide_eq_false c2
        clear c2
        obtain rfl := Option.some.inj H
        go_wp2
        go_ret
        exact ⟨by first | rfl | (simp; done) | (simp [*]; done), by repeat (first | exact Drawn0.refl _ | apply Drawn0.step)⟩
end Go.Proofs.YtnjobjogddjelaaGreatDoor.Print
end

section
namespace Go.Proofs.YtnjobjogddjelaaGreatDoor.Print
open Go.Sort Go.Shelf
open Go.RowKit Go.Proofs.YtnjobjogddjelaaGreatDoorX Go.Proofs.YtnjobjogddjelaaGreatDoorW.PrintWords Go.Proofs.YtnjobjogddjelaaGreatDoorW.PrintLast Go.Proofs.YtnjobjogddjelaaGreatDoorW.PrintMore
attribute [local go_sem] max2_int min2_int max_two min_two max_three min_three max_four min_four

/-! lex.duration, by hand: Atoi reads the digits. -/
def durBad (n c v : Int) : Prop := 3 < n ∨ c = 48 ∨ v < 1 ∨ 100 < v
instance (n c v : Int) : Decidable (durBad n c v) := by unfold durBad; infer_instance
theorem atoi_good (s : ByteArray) (v : Int) (w : World) (h : s.size ≤ 1000 ∧ Lib.atoiAll s.data.toList = Lib.NumEnd.ok v) :
  Calls Tryz.prog 57 #[.string s] w fun e w' => e = .returned (.tuple #[.int .i64 v, .nilIface]) ∧ Below w.heap.size w w' := by
 refine (Tryz.strconv_Atoi_ok s (by omega) v h.2 w).mono fun e w' hh => ⟨hh.1, ?_⟩
 rcases hh.2 with rfl | ⟨t, rfl⟩
 ·exact Below.refl _ _
 ·exact conv_below w t
set_option maxHeartbeats 8000000 in
set_option maxRecDepth 100000 in
theorem lex_duration.good (s : ByteArray) (n v : Int) (w : World) (hg_ : LaidW w) (h0 : 0 ≤ n) (h1 : n ≤ (s.size : Int)) (hs : 0 < s.size) (hm : (s.size : Int) ≤ 1000)
  (ha : (s.extract 0 n.toNat).size ≤ 1000 ∧ Lib.atoiAll (s.extract 0 n.toNat).data.toList = Lib.NumEnd.ok v) (hb : ¬ durBad n (bt s 0) v) :
  Calls Tryz.prog 43 #[.string s, .int .i64 n] w fun e w' => e = .returned (.tuple #[.agg #[.int .i64 3, .int .i64 0, .string ⟨#[]⟩, .bool false, .int .i64 0, .int .i64 v], .int .i64 (wrap64 (n + 1))]) ∧ Below w.heap.size w w' := by
 have hb' : ¬ (3 < n ∨ bt s 0 = 48 ∨ v < 1 ∨ 100 < v) := hb
 have f1 : decide (3 < n) = false := decide_eq_false (by omega)
 have f2 : (bt s 0 == 48) = false := beq_eq_false_iff_ne.mpr (by omega)
 have f3 : decide (v < 1) = false := decide_eq_false (by omega)
 have f4 : decide (100 < v) = false := decide_eq_false (by omega)
 have HA := Aside0.mk ha
 have HB := Aside0.mk (Below.refl w.heap.size w)
 have HLW := Aside0.mk hg_
 have p3 : 0 ≤ (0 : Int) := by omega
 have q3 : 0 < s.size := hs
 have hx3 : ∀ h : 0 < s.size, ((s[0]'h).toNat : Int) = bt s 0 := bt_at s 0
 have qi3 : (0 < (s.size : Int)) = True := eq_true (by omega)
 replace q3 := eq_true q3
 have c6 := eq_true h0
 have c7 := eq_true h1
 clear ha hb hb' hm hg_ p3 hs h0 h1
 go_enter Tryz.func43, Tryz.ntmps43
 go_wp2_with (first | ((with_reducible refine gate_dst (N := 4) rfl ?_); refine box_event ?hg (N := 4) ?hd (cs := #[.int .i64 0, .int .i64 0, .string (⟨#[]⟩ : ByteArray), .bool false, .int .i64 0, .int .i64 0]) (t := 36) ?hr ?_; (case hd => rfl); (case hg => rfl); (case hr => first | (go_simp; done) | (go_simp; rfl)); intro gb hg w4 hbox hb; have n0_ := Aside0.mk (below_step (by repeat (first | (with_reducible first | exact HB.out | apply below_alloc | apply pw_below_drewN | apply below_drew1) | exact HB.out)) hb); have n1_ := Aside0.mk (hbox); have n2_ := Aside0.mk ((by rw [hg]; exact (below_size (by repeat (first | (with_reducible first | exact HB.out | apply below_alloc | apply pw_below_drewN | apply below_drew1) | exact HB.out))) : w.heap.size ≤ gb)); have n3_ := Aside0.mk ((by rw [hg]; exact (below_size (by repeat (first | (with_reducible first | exact HB.out | apply below_alloc | apply pw_below_drewN | apply below_drew1) | exact HB.out))) : w.heap.size ≤ gb)); clear HB; have HB := n0_; have BK := n1_; have GW := n2_; have GE := n3_; clear n0_ n1_ n2_ n3_; clear hb hbox hg))
 refine (atoi_good (s.extract 0 n.toNat) v _ HA.out).mono ?_
 rintro e w13 ⟨rfl, hb⟩
 have n0_ := Aside0.mk (blk_below (g := gb) (o := .cells #[.int .i64 0, .int .i64 0, .string (⟨#[]⟩ : ByteArray), .bool false, .int .i64 0, .int .i64 0] 36 (0, 0)) (by (with_reducible repeat (first | refine blk_drewN ?_ _ | refine blk_drew ?_ | refine blk_alloc ?_ _)); exact BK.out) hb)
 have n1_ := Aside0.mk (below_step (by repeat (first | (with_reducible first | exact HB.out | apply below_alloc | apply pw_below_drewN | apply below_drew1 | refine below_set ?_ GE.out) | exact HB.out)) hb)
 clear BK
 clear HB
 have BK := n0_
 have HB := n1_
 clear n0_ n1_
 clear hb
 have hcz0 : w13.cell? ⟨gb, 0, none⟩ = some (.int .i64 0) := (blk_cell BK.out 0).trans rfl
 have hcz1 : w13.cell? ⟨gb, 1, none⟩ = some (.int .i64 0) := (blk_cell BK.out 1).trans rfl
 have hcz2 : w13.cell? ⟨gb, 2, none⟩ = some (.string (⟨#[]⟩ : ByteArray)) := (blk_cell BK.out 2).trans rfl
 have hcz3 : w13.cell? ⟨gb, 3, none⟩ = some (.bool false) := (blk_cell BK.out 3).trans rfl
 have hcz4 : w13.cell? ⟨gb, 4, none⟩ = some (.int .i64 0) := (blk_cell BK.out 4).trans rfl
 have hcz5 : w13.cell? ⟨gb, 5, none⟩ = some (.int .i64 0) := (blk_cell BK.out 5).trans rfl
 have hfz0 := blk_frozen BK.out 0
 have hfz1 := blk_frozen BK.out 1
 have hfz2 := blk_frozen BK.out 2
 have hfz3 := blk_frozen BK.out 3
 have hfz4 := blk_frozen BK.out 4
 have hfz5 := blk_frozen BK.out 5
 go_wp2
 refine bodyPost_ret (results_ct rfl _ _ gb 36 #[.int .i64 3, .int .i64 0, .string (⟨#[]⟩ : ByteArray), .bool false, .int .i64 0, .int .i64 v] (0, 0) _ rfl (by (with_reducible repeat (first | refine blk_drewN ?_ _ | refine blk_drew ?_ | refine blk_alloc ?_ _)); refine blk_put (cs := #[.int .i64 3, .int .i64 0, .string (⟨#[]⟩ : ByteArray), .bool false, .int .i64 0, .int .i64 0]) ?_ 5 _ rfl; (with_reducible repeat (first | refine blk_drewN ?_ _ | refine blk_drew ?_ | refine blk_alloc ?_ _)); refine blk_put (cs := #[.int .i64 3, .int .i64 0, .string (⟨#[]⟩ : ByteArray), .bool false, .int .i64 0, .int .i64 0]) ?_ 4 _ rfl; (with_reducible repeat (first | refine blk_drewN ?_ _ | refine blk_drew ?_ | refine blk_alloc ?_ _)); refine blk_put (cs := #[.int .i64 3, .int .i64 0, .string (⟨#[]⟩ : ByteArray), .bool false, .int .i64 0, .int .i64 0]) ?_ 3 _ rfl; (with_reducible repeat (first | refine blk_drewN ?_ _ | refine blk_drew ?_ | refine blk_alloc ?_ _)); refine blk_put (cs := #[.int .i64 3, .int .i64 0, .string (⟨#[]⟩ : ByteArray), .bool false, .int .i64 0, .int .i64 0]) ?_ 2 _ rfl; (with_reducible repeat (first | refine blk_drewN ?_ _ | refine blk_drew ?_ | refine blk_alloc ?_ _)); refine blk_put (cs := #[.int .i64 3, .int .i64 0, .string (⟨#[]⟩ : ByteArray), .bool false, .int .i64 0, .int .i64 0]) ?_ 1 _ rfl; (with_reducible repeat (first | refine blk_drewN ?_ _ | refine blk_drew ?_ | refine blk_alloc ?_ _)); refine blk_put (cs := #[.int .i64 0, .int .i64 0, .string (⟨#[]⟩ : ByteArray), .bool false, .int .i64 0, .int .i64 0]) ?_ 0 _ rfl; (with_reducible repeat (first | refine blk_drewN ?_ _ | refine blk_drew ?_ | refine blk_alloc ?_ _)); exact BK.out) Tryz.underlying36 rfl (by kernel_rfl)) rfl ?_
 exact ⟨by first | rfl | (simp [*] <;> rfl), (by repeat (first | (with_reducible first | exact HB.out | apply below_alloc | apply pw_below_drewN | apply below_drew1 | refine below_set ?_ GE.out) | exact HB.out))⟩
set_option maxHeartbeats 8000000 in
set_option maxRecDepth 100000 in
theorem lex_duration.bad (s : ByteArray) (n v : Int) (w : World) (hg_ : LaidW w) (h0 : 0 ≤ n) (h1 : n ≤ (s.size : Int)) (hs : 0 < s.size) (hm : (s.size : Int) ≤ 1000)
  (ha : (s.extract 0 n.toNat).size ≤ 1000 ∧ Lib.atoiAll (s.extract 0 n.toNat).data.toList = Lib.NumEnd.ok v) (hb : durBad n (bt s 0) v) :
  Calls Tryz.prog 43 #[.string s, .int .i64 n] w fun e w' => e = .returned (.tuple #[.agg #[.int .i64 0, .int .i64 0, .string ⟨#[]⟩, .bool false, .int .i64 0, .int .i64 0], .int .i64 0]) ∧ Below w.heap.size w w' := by
 have hb' : decide (3 < n) = true ∨ (decide (3 < n) = false ∧ (bt s 0 == 48) = true) ∨ (decide (3 < n) = false ∧ (bt s 0 == 48) = false ∧ decide (v < 1) = true) ∨ (decide (3 < n) = false ∧ (bt s 0 == 48) = false ∧ decide (v < 1) = false ∧ decide (100 < v) = true) := by
  have hb : 3 < n ∨ bt s 0 = 48 ∨ v < 1 ∨ 100 < v := hb
  by_cases k1 : 3 < n
  ·exact Or.inl (decide_eq_true k1)
  ·by_cases k2 : bt s 0 = 48
   ·exact Or.inr (Or.inl ⟨decide_eq_false k1, beq_iff_eq.mpr k2⟩)
   ·by_cases k3 : v < 1
    ·exact Or.inr (Or.inr (Or.inl ⟨decide_eq_false k1, beq_eq_false_iff_ne.mpr k2, decide_eq_true k3⟩))
    ·exact Or.inr (Or.inr (Or.inr ⟨decide_eq_false k1, beq_eq_false_iff_ne.mpr k2, decide_eq_false k3, decide_eq_true (by omega)⟩))
 have HA := Aside0.mk ha
 have HB := Aside0.mk (Below.refl w.heap.size w)
 have HLW := Aside0.mk hg_
 have p3 : 0 ≤ (0 : Int) := by omega
 have q3 : 0 < s.size := hs
 have hx3 : ∀ h : 0 < s.size, ((s[0]'h).toNat : Int) = bt s 0 := bt_at s 0
 have qi3 : (0 < (s.size : Int)) = True := eq_true (by omega)
 replace q3 := eq_true q3
 have c6 := eq_true h0
 have c7 := eq_true h1
 clear ha hb hm hg_ p3 hs h0 h1
 rcases hb' with f1 | ⟨f1, f2⟩ | ⟨f1, f2, f3⟩ | ⟨f1, f2, f3, f4⟩
 all_goals
  go_enter Tryz.func43, Tryz.ntmps43
  go_wp2_with (first | ((with_reducible refine gate_dst (N := 4) rfl ?_); refine box_event ?hg (N := 4) ?hd (cs := #[.int .i64 0, .int .i64 0, .string (⟨#[]⟩ : ByteArray), .bool false, .int .i64 0, .int .i64 0]) (t := 36) ?hr ?_; (case hd => rfl); (case hg => rfl); (case hr => first | (go_simp; done) | (go_simp; rfl)); intro gb hg w4 hbox hb; have n0_ := Aside0.mk (below_step (by repeat (first | (with_reducible first | exact HB.out | apply below_alloc | apply pw_below_drewN | apply below_drew1) | exact HB.out)) hb); have n1_ := Aside0.mk (hbox); have n2_ := Aside0.mk ((by rw [hg]; exact (below_size (by repeat (first | (with_reducible first | exact HB.out | apply below_alloc | apply pw_below_drewN | apply below_drew1) | exact HB.out))) : w.heap.size ≤ gb)); have n3_ := Aside0.mk ((by rw [hg]; exact (below_size (by repeat (first | (with_reducible first | exact HB.out | apply below_alloc | apply pw_below_drewN | apply below_drew1) | exact HB.out))) : w.heap.size ≤ gb)); clear HB; have HB := n0_; have BK := n1_; have GW := n2_; have GE := n3_; clear n0_ n1_ n2_ n3_; clear hb hbox hg))
  refine (atoi_good (s.extract 0 n.toNat) v _ HA.out).mono ?_
  rintro e w13 ⟨rfl, hb⟩
  have n0_ := Aside0.mk (blk_below (g := gb) (o := .cells #[.int .i64 0, .int .i64 0, .string (⟨#[]⟩ : ByteArray), .bool false, .int .i64 0, .int .i64 0] 36 (0, 0)) (by (with_reducible repeat (first | refine blk_drewN ?_ _ | refine blk_drew ?_ | refine blk_alloc ?_ _)); exact BK.out) hb)
  have n1_ := Aside0.mk (below_step (by repeat (first | (with_reducible first | exact HB.out | apply below_alloc | apply pw_below_drewN | apply below_drew1 | refine below_set ?_ GE.out) | exact HB.out)) hb)
  clear BK
  clear HB
  have BK := n0_
  have HB := n1_
  clear n0_ n1_
  clear hb
  have hcz0 : w13.cell? ⟨gb, 0, none⟩ = some (.int .i64 0) := (blk_cell BK.out 0).trans rfl
  have hcz1 : w13.cell? ⟨gb, 1, none⟩ = some (.int .i64 0) := (blk_cell BK.out 1).trans rfl
  have hcz2 : w13.cell? ⟨gb, 2, none⟩ = some (.string (⟨#[]⟩ : ByteArray)) := (blk_cell BK.out 2).trans rfl
  have hcz3 : w13.cell? ⟨gb, 3, none⟩ = some (.bool false) := (blk_cell BK.out 3).trans rfl
  have hcz4 : w13.cell? ⟨gb, 4, none⟩ = some (.int .i64 0) := (blk_cell BK.out 4).trans rfl
  have hcz5 : w13.cell? ⟨gb, 5, none⟩ = some (.int .i64 0) := (blk_cell BK.out 5).trans rfl
  have hfz0 := blk_frozen BK.out 0
  have hfz1 := blk_frozen BK.out 1
  have hfz2 := blk_frozen BK.out 2
  have hfz3 := blk_frozen BK.out 3
  have hfz4 := blk_frozen BK.out 4
  have hfz5 := blk_frozen BK.out 5
  go_wp2
  refine bodyPost_ret (results_ct rfl _ _ gb 36 #[.int .i64 0, .int .i64 0, .string (⟨#[]⟩ : ByteArray), .bool false, .int .i64 0, .int .i64 0] (0, 0) _ rfl (by (with_reducible repeat (first | refine blk_drewN ?_ _ | refine blk_drew ?_ | refine blk_alloc ?_ _)); refine blk_put (cs := #[.int .i64 0, .int .i64 0, .string (⟨#[]⟩ : ByteArray), .bool false, .int .i64 0, .int .i64 0]) ?_ 5 _ rfl; (with_reducible repeat (first | refine blk_drewN ?_ _ | refine blk_drew ?_ | refine blk_alloc ?_ _)); refine blk_put (cs := #[.int .i64 0, .int .i64 0, .string (⟨#[]⟩ : ByteArray), .bool false, .int .i64 0, .int .i64 0]) ?_ 4 _ rfl; (with_reducible repeat (first | refine blk_drewN ?_ _ | refine blk_drew ?_ | refine blk_alloc ?_ _)); refine blk_put (cs := #[.int .i64 0, .int .i64 0, .string (⟨#[]⟩ : ByteArray), .bool false, .int .i64 0, .int .i64 0]) ?_ 3 _ rfl; (with_reducible repeat (first | refine blk_drewN ?_ _ | refine blk_drew ?_ | refine blk_alloc ?_ _)); refine blk_put (cs := #[.int .i64 0, .int .i64 0, .string (⟨#[]⟩ : ByteArray), .bool false, .int .i64 0, .int .i64 0]) ?_ 2 _ rfl; (with_reducible repeat (first | refine blk_drewN ?_ _ | refine blk_drew ?_ | refine blk_alloc ?_ _)); refine blk_put (cs := #[.int .i64 0, .int .i64 0, .string (⟨#[]⟩ : ByteArray), .bool false, .int .i64 0, .int .i64 0]) ?_ 1 _ rfl; (with_reducible repeat (first | refine blk_drewN ?_ _ | refine blk_drew ?_ | refine blk_alloc ?_ _)); refine blk_put (cs := #[.int .i64 0, .int .i64 0, .string (⟨#[]⟩ : ByteArray), .bool false, .int .i64 0, .int .i64 0]) ?_ 0 _ rfl; (with_reducible repeat (first | refine blk_drewN ?_ _ | refine blk_drew ?_ | refine blk_alloc ?_ _)); exact BK.out) Tryz.underlying36 rfl (by kernel_rfl)) rfl ?_
  exact ⟨by first | rfl | (simp [*] <;> rfl), (by repeat (first | (with_reducible first | exact HB.out | apply below_alloc | apply pw_below_drewN | apply below_drew1 | refine below_set ?_ GE.out) | exact HB.out))⟩
theorem atoi_range (s : ByteArray) (w : World) (hg_ : LaidW w) (h : s.size ≤ 1000 ∧ Lib.atoiAll s.data.toList = Lib.NumEnd.range) :
  Calls Tryz.prog 57 #[.string s] w fun e w' => ∃ (x : Int) (N : Nat), e = .returned (.tuple #[.int .i64 x, .iface 124 (.pointer (some ⟨N, 0, none⟩))]) ∧ Below w.heap.size w w' := by
 obtain ⟨ev, he, hv⟩ := hg_.rng
 refine (Tryz.strconv_Atoi_range s (by omega) h.2 ev w he hv).mono fun e w' hh => ?_
 obtain ⟨N, h1, _, _, h4⟩ := hh
 exact ⟨_, N, h1, h4⟩
set_option maxHeartbeats 8000000 in
set_option maxRecDepth 100000 in
theorem lex_duration.range (s : ByteArray) (n : Int) (w : World) (hg_ : LaidW w) (h0 : 0 ≤ n) (h1 : n ≤ (s.size : Int)) (hs : 0 < s.size) (hm : (s.size : Int) ≤ 1000)
  (ha : (s.extract 0 n.toNat).size ≤ 1000 ∧ Lib.atoiAll (s.extract 0 n.toNat).data.toList = Lib.NumEnd.range) :
  Calls Tryz.prog 43 #[.string s, .int .i64 n] w fun e w' => e = .returned (.tuple #[.agg #[.int .i64 0, .int .i64 0, .string ⟨#[]⟩, .bool false, .int .i64 0, .int .i64 0], .int .i64 0]) ∧ Below w.heap.size w w' := by
 have HA := Aside0.mk ha
 have HB := Aside0.mk (Below.refl w.heap.size w)
 have HLW := Aside0.mk hg_
 have p3 : 0 ≤ (0 : Int) := by omega
 have q3 : 0 < s.size := hs
 have hx3 : ∀ h : 0 < s.size, ((s[0]'h).toNat : Int) = bt s 0 := bt_at s 0
 have qi3 : (0 < (s.size : Int)) = True := eq_true (by omega)
 replace q3 := eq_true q3
 have c6 := eq_true h0
 have c7 := eq_true h1
 clear ha hm hg_ p3 hs h0 h1
 go_enter Tryz.func43, Tryz.ntmps43
 go_wp2_with (first | ((with_reducible refine gate_dst (N := 4) rfl ?_); refine box_event ?hg (N := 4) ?hd (cs := #[.int .i64 0, .int .i64 0, .string (⟨#[]⟩ : ByteArray), .bool false, .int .i64 0, .int .i64 0]) (t := 36) ?hr ?_; (case hd => rfl); (case hg => rfl); (case hr => first | (go_simp; done) | (go_simp; rfl)); intro gb hg w4 hbox hb; have n0_ := Aside0.mk (below_step (by repeat (first | (with_reducible first | exact HB.out | apply below_alloc | apply pw_below_drewN | apply below_drew1) | exact HB.out)) hb); have n1_ := Aside0.mk (hbox); have n2_ := Aside0.mk ((by rw [hg]; exact (below_size (by repeat (first | (with_reducible first | exact HB.out | apply below_alloc | apply pw_below_drewN | apply below_drew1) | exact HB.out))) : w.heap.size ≤ gb)); have n3_ := Aside0.mk ((by rw [hg]; exact (below_size (by repeat (first | (with_reducible first | exact HB.out | apply below_alloc | apply pw_below_drewN | apply below_drew1) | exact HB.out))) : w.heap.size ≤ gb)); clear HB; have HB := n0_; have BK := n1_; have GW := n2_; have GE := n3_; clear n0_ n1_ n2_ n3_; clear hb hbox hg))
 refine (atoi_range (s.extract 0 n.toNat) _ (LaidW.below HLW.out HB.out) HA.out).mono ?_
 rintro e w13 ⟨x, N, rfl, hb⟩
 have n0_ := Aside0.mk (blk_below (g := gb) (o := .cells #[.int .i64 0, .int .i64 0, .string (⟨#[]⟩ : ByteArray), .bool false, .int .i64 0, .int .i64 0] 36 (0, 0)) (by (with_reducible repeat (first | refine blk_drewN ?_ _ | refine blk_drew ?_ | refine blk_alloc ?_ _)); exact BK.out) hb)
 have n1_ := Aside0.mk (below_step (by repeat (first | (with_reducible first | exact HB.out | apply below_alloc | apply pw_below_drewN | apply below_drew1 | refine below_set ?_ GE.out) | exact HB.out)) hb)
 clear BK
 clear HB
 have BK := n0_
 have HB := n1_
 clear n0_ n1_
 clear hb
 have hcz0 : w13.cell? ⟨gb, 0, none⟩ = some (.int .i64 0) := (blk_cell BK.out 0).trans rfl
 have hcz1 : w13.cell? ⟨gb, 1, none⟩ = some (.int .i64 0) := (blk_cell BK.out 1).trans rfl
 have hcz2 : w13.cell? ⟨gb, 2, none⟩ = some (.string (⟨#[]⟩ : ByteArray)) := (blk_cell BK.out 2).trans rfl
 have hcz3 : w13.cell? ⟨gb, 3, none⟩ = some (.bool false) := (blk_cell BK.out 3).trans rfl
 have hcz4 : w13.cell? ⟨gb, 4, none⟩ = some (.int .i64 0) := (blk_cell BK.out 4).trans rfl
 have hcz5 : w13.cell? ⟨gb, 5, none⟩ = some (.int .i64 0) := (blk_cell BK.out 5).trans rfl
 have hfz0 := blk_frozen BK.out 0
 have hfz1 := blk_frozen BK.out 1
 have hfz2 := blk_frozen BK.out 2
 have hfz3 := blk_frozen BK.out 3
 have hfz4 := blk_frozen BK.out 4
 have hfz5 := blk_frozen BK.out 5
 go_wp2
 refine bodyPost_ret (results_ct rfl _ _ gb 36 #[.int .i64 0, .int .i64 0, .string (⟨#[]⟩ : ByteArray), .bool false, .int .i64 0, .int .i64 0] (0, 0) _ rfl (by (with_reducible repeat (first | refine blk_drewN ?_ _ | refine blk_drew ?_ | refine blk_alloc ?_ _)); refine blk_put (cs := #[.int .i64 0, .int .i64 0, .string (⟨#[]⟩ : ByteArray), .bool false, .int .i64 0, .int .i64 0]) ?_ 5 _ rfl; (with_reducible repeat (first | refine blk_drewN ?_ _ | refine blk_drew ?_ | refine blk_alloc ?_ _)); refine blk_put (cs := #[.int .i64 0, .int .i64 0, .string (⟨#[]⟩ : ByteArray), .bool false, .int .i64 0, .int .i64 0]) ?_ 4 _ rfl; (with_reducible repeat (first | refine blk_drewN ?_ _ | refine blk_drew ?_ | refine blk_alloc ?_ _)); refine blk_put (cs := #[.int .i64 0, .int .i64 0, .string (⟨#[]⟩ : ByteArray), .bool false, .int .i64 0, .int .i64 0]) ?_ 3 _ rfl; (with_reducible repeat (first | refine blk_drewN ?_ _ | refine blk_drew ?_ | refine blk_alloc ?_ _)); refine blk_put (cs := #[.int .i64 0, .int .i64 0, .string (⟨#[]⟩ : ByteArray), .bool false, .int .i64 0, .int .i64 0]) ?_ 2 _ rfl; (with_reducible repeat (first | refine blk_drewN ?_ _ | refine blk_drew ?_ | refine blk_alloc ?_ _)); refine blk_put (cs := #[.int .i64 0, .int .i64 0, .string (⟨#[]⟩ : ByteArray), .bool false, .int .i64 0, .int .i64 0]) ?_ 1 _ rfl; (with_reducible repeat (first | refine blk_drewN ?_ _ | refine blk_drew ?_ | refine blk_alloc ?_ _)); refine blk_put (cs := #[.int .i64 0, .int .i64 0, .string (⟨#[]⟩ : ByteArray), .bool false, .int .i64 0, .int .i64 0]) ?_ 0 _ rfl; (with_reducible repeat (first | refine blk_drewN ?_ _ | refine blk_drew ?_ | refine blk_alloc ?_ _)); exact BK.out) Tryz.underlying36 rfl (by kernel_rfl)) rfl ?_
 exact ⟨by first | rfl | (simp [*] <;> rfl), (by repeat (first | (with_reducible first | exact HB.out | apply below_alloc | apply pw_below_drewN | apply below_drew1 | refine below_set ?_ GE.out) | exact HB.out))⟩
def lex_duration.f (s : ByteArray) (n : Int) : Option (Int × Int × ByteArray × Bool × Int × Int × Int) :=
 if 0 ≤ n ∧ n ≤ (s.size : Int) ∧ 0 < s.size ∧ (s.size : Int) ≤ 1000 then
  match Lib.atoiAll (s.extract 0 n.toNat).data.toList with
  | .ok v => if durBad n (bt s 0) v then some (0, 0, ⟨#[]⟩, false, 0, 0, 0) else some (3, 0, ⟨#[]⟩, false, 0, v, wrap64 (n + 1))
  | .range => some (0, 0, ⟨#[]⟩, false, 0, 0, 0)
  | _ => none
 else none
theorem lex_duration.calls (s : ByteArray) (n r1 r2 : Int) (r3 : ByteArray) (r4 : Bool) (r5 r6 r7 : Int) (w : World) (hg_ : LaidW w) (h : lex_duration.f s n = some (r1, r2, r3, r4, r5, r6, r7)) :
  Calls Tryz.prog 43 #[.string s, .int .i64 n] w fun e w' => e = .returned (.tuple #[.agg #[.int .i64 r1, .int .i64 r2, .string r3, .bool r4, .int .i64 r5, .int .i64 r6], .int .i64 r7]) ∧ Below w.heap.size w w' := by
 unfold lex_duration.f at h
 by_cases g : 0 ≤ n ∧ n ≤ (s.size : Int) ∧ 0 < s.size ∧ (s.size : Int) ≤ 1000
 ·rw [if_pos g] at h
  obtain ⟨g1, g2, g3, g4⟩ := g
  have hsz : (s.extract 0 n.toNat).size ≤ 1000 := by
   rw [ByteArray.size_extract]
   omega
  split at h
  ·rename_i v hv
   by_cases hb : durBad n (bt s 0) v
   ·rw [if_pos hb] at h
    simp only [Option.some.injEq, Prod.mk.injEq] at h
    obtain ⟨rfl, rfl, rfl, rfl, rfl, rfl, rfl⟩ := h
    exact lex_duration.bad s n v w hg_ g1 g2 g3 g4 ⟨hsz, hv⟩ hb
   ·rw [if_neg hb] at h
    simp only [Option.some.injEq, Prod.mk.injEq] at h
    obtain ⟨rfl, rfl, rfl, rfl, rfl, rfl, rfl⟩ := h
    exact lex_duration.good s n v w hg_ g1 g2 g3 g4 ⟨hsz, hv⟩ hb
  ·rename_i hv
   simp only [Option.some.injEq, Prod.mk.injEq] at h
   obtain ⟨rfl, rfl, rfl, rfl, rfl, rfl, rfl⟩ := h
   exact lex_duration.range s n w hg_ g1 g2 g3 g4 ⟨hsz, hv⟩
  ·exact absurd h (by simp)
 ·rw [if_neg g] at h
  exact absurd h (by simp)
end Go.Proofs.YtnjobjogddjelaaGreatDoor.Print
end
