/- A part of the proof of LexSigns: what the functions that the law reaches come to. -/
import Derived.Test.YtnjobjogddjelaaGreatDoorC02
import Derived.Test.YtnjobjogddjelaaGreatDoorC03
import Derived.Test.YtnjobjogddjelaaGreatDoorC01
set_option linter.unusedVariables false
set_option linter.unusedSimpArgs false
section
namespace Go.Proofs.YtnjobjogddjelaaGreatDoor.PureN
open Go.RowKit Go.Proofs.YtnjobjogddjelaaGreatDoor.Print Go.Proofs.YtnjobjogddjelaaGreatDoor.Pure Go.Proofs.YtnjobjogddjelaaGreatDoorW.PrintWords Go.Proofs.YtnjobjogddjelaaGreatDoorW.PrintLast Go.Proofs.YtnjobjogddjelaaGreatDoorW.PrintMore

/-! What the printed functions of lex come to. -/
theorem u8_dec (p : UInt8 → Bool) (h : (List.range 256).all (fun n => p (UInt8.ofNat n)) = true) : ∀ c, p c = true := by
 intro c
 have := List.all_eq_true.1 h c.toNat (List.mem_range.2 c.toNat_lt)
 rwa [UInt8.ofNat_toNat] at this
theorem letter_eq (c : UInt8) : lex_letter.f (c.toNat : Int) = some (isL c) := of_decide_eq_true (u8_dec (fun c => decide (lex_letter.f (c.toNat : Int) = some (isL c))) (by decide +kernel) c)
theorem digit_eq (c : UInt8) : lex_digit.f (c.toNat : Int) = some (isD c) := of_decide_eq_true (u8_dec (fun c => decide (lex_digit.f (c.toNat : Int) = some (isD c))) (by decide +kernel) c)
theorem idP_eq (c : UInt8) : decide (idP (c.toNat : Int)) = idc c := of_decide_eq_true (u8_dec (fun c => decide (decide (idP (c.toNat : Int)) = idc c)) (by decide +kernel) c)
theorem isD_int (c : UInt8) : isD c = (decide (48 ≤ (c.toNat : Int)) && decide ((c.toNat : Int) ≤ 57)) := of_decide_eq_true (u8_dec (fun c => decide (isD c = (decide (48 ≤ (c.toNat : Int)) && decide ((c.toNat : Int) ≤ 57)))) (by decide +kernel) c)
theorem ext_take (l : List UInt8) (n : Nat) : (⟨l.toArray⟩ : ByteArray).extract 0 n = ⟨(l.take n).toArray⟩ := by
 apply ByteArray.ext
 apply Array.ext'
 rw [ByteArray.data_extract, Array.toList_extract]
 simp
theorem drop_cons (l : List UInt8) (i : Nat) (h : i < l.length) : l.drop i = l[i] :: l.drop (i + 1) := List.drop_eq_getElem_cons h
theorem w1 (i : Nat) (h : i ≤ 100000) : wrap64 ((i : Int) + 1) = ((i + 1 : Nat) : Int) := by unfold wrap64; omega
theorem many25_l0 (l : List UInt8) (hl : l.length ≤ 700) : ∀ (d k i : Nat), i + d = l.length → d < k → lex_many25.l0 k ⟨l.toArray⟩ (i : Int) = some ((i + ((l.drop i).takeWhile isD).length : Nat) : Int)
 | 0, k, i, h, hk => by
  obtain ⟨k, rfl⟩ : ∃ m, k = m + 1 := ⟨k - 1, by omega⟩
  unfold lex_many25.l0
  rw [size_list, if_neg (by omega), List.drop_eq_nil_of_le (by omega)]
  simp
 | d + 1, k, i, h, hk => by
  obtain ⟨k, rfl⟩ : ∃ m, k = m + 1 := ⟨k - 1, by omega⟩
  have hi : i < l.length := by omega
  unfold lex_many25.l0
  rw [size_list, if_pos (by omega), if_pos (by omega), bt_list l i hi, drop_cons l i hi, List.takeWhile_cons, w1 i (by omega)]
  have hd := isD_int l[i]
  cases c : isD l[i]
  ·rw [c] at hd
   simp only [Bool.false_eq_true, if_false, List.length_nil, Nat.add_zero]
   split
   ·split
    ·rename_i h1 h2
     rw [decide_eq_true h1, decide_eq_true h2] at hd
     simp at hd
    ·rfl
   ·rfl
  ·rw [c] at hd
   have hd := Bool.and_eq_true_iff.1 hd.symm
   rw [if_pos (of_decide_eq_true hd.1), if_pos (of_decide_eq_true hd.2), many25_l0 l hl d k (i + 1) (by omega) (by omega)]
   simp only [if_true, List.length_cons]
   congr 2
   omega
theorem many25_eq (l : List UInt8) (k : Nat) (hl : l.length ≤ 700) (hk : 700 < k) : lex_many25.f k ⟨l.toArray⟩ = some ((l.takeWhile isD).length : Int) := by
 have := many25_l0 l hl l.length k 0 (by omega) (by omega)
 simpa [lex_many25.f] using this
theorem many42_l0 (l : List UInt8) (hl : l.length ≤ 700) : ∀ (d k i : Nat), i + d = l.length → d < k → lex_many42.l0 k ⟨l.toArray⟩ (i : Int) = some ((i + ((l.drop i).takeWhile idc).length : Nat) : Int)
 | 0, k, i, h, hk => by
  obtain ⟨k, rfl⟩ : ∃ m, k = m + 1 := ⟨k - 1, by omega⟩
  unfold lex_many42.l0
  rw [size_list, if_neg (by omega), List.drop_eq_nil_of_le (by omega)]
  simp
 | d + 1, k, i, h, hk => by
  obtain ⟨k, rfl⟩ : ∃ m, k = m + 1 := ⟨k - 1, by omega⟩
  have hi : i < l.length := by omega
  unfold lex_many42.l0
  rw [size_list, if_pos (by omega), if_pos (by omega), bt_list l i hi, drop_cons l i hi, List.takeWhile_cons, w1 i (by omega)]
  have hd := idP_eq l[i]
  cases c : idc l[i]
  ·rw [c] at hd
   rw [if_neg (of_decide_eq_false hd)]
   simp
  ·rw [c] at hd
   rw [if_pos (of_decide_eq_true hd), many42_l0 l hl d k (i + 1) (by omega) (by omega)]
   simp only [if_true, List.length_cons]
   congr 2
   omega
theorem many42_eq (l : List UInt8) (k : Nat) (hl : l.length ≤ 700) (hk : 700 < k) : lex_many42.f k ⟨l.toArray⟩ = some ((l.takeWhile idc).length : Int) := by
 have := many42_l0 l hl l.length k 0 (by omega) (by omega)
 simpa [lex_many42.f] using this
abbrev Out := Int × Int × ByteArray × Bool × Int × Int × Int
def zeroO : Out := (0, 0, ⟨#[]⟩, false, 0, 0, 0)
def outR : Option (Tok × Nat) → Out
 | some x => (x.1.kind, 0, ⟨x.1.text.toArray⟩, false, x.1.v, x.1.n, (x.2 : Int))
 | none => zeroO
theorem ident_eq (l : List UInt8) (k : Nat) (hl : l.length ≤ 700) (hk : 700 < k) : lex_ident.f k ⟨l.toArray⟩ = some (outR (readId l)) := by
 unfold lex_ident.f readId
 rw [many42_eq l k hl hk, Option.bind_some]
 have hle := tw_le (p := idc) l
 by_cases h : (l.takeWhile idc).length ≤ 20
 ·rw [if_neg (by omega), if_pos (by omega), size_list, if_pos (by omega), if_pos h, Int.toNat_natCast, ext_take, take_tw]
  rfl
 ·rw [if_pos (by omega), if_neg h]
  rfl
/-! Durations. -/
theorem pu_ok : ∀ (l : List UInt8) (a : Nat), l.all isD = true → valF a l < 1000000000000000000 → Lib.parseUint10 a l = .ok (valF a l)
 | [], a, _, _ => rfl
 | c :: l, a, h, hv => by
  simp only [List.all_cons, Bool.and_eq_true] at h
  have hc : 48 ≤ c.toNat ∧ c.toNat ≤ 57 := by
   have := h.1
   unfold isD at this
   simpa using this
  have e : valF a (c :: l) = valF (a * 10 + (c.toNat - 48)) l := rfl
  rw [e] at hv ⊢
  have h3 := valF_lin l (a * 10 + (c.toNat - 48))
  have hp : 1 ≤ 10 ^ l.length := Nat.one_le_pow _ _ (by omega)
  have h4 : a * 10 + (c.toNat - 48) ≤ (a * 10 + (c.toNat - 48)) * 10 ^ l.length := Nat.le_mul_of_pos_right _ hp
  unfold Lib.parseUint10
  rw [if_pos hc, if_neg (by omega), if_neg (by omega)]
  exact pu_ok l _ h.2 hv
theorem pu_any : ∀ (l : List UInt8) (a : Nat), l.all isD = true → (∃ r, Lib.parseUint10 a l = .ok r) ∨ Lib.parseUint10 a l = .range
 | [], a, _ => Or.inl ⟨_, rfl⟩
 | c :: l, a, h => by
  simp only [List.all_cons, Bool.and_eq_true] at h
  have hc : 48 ≤ c.toNat ∧ c.toNat ≤ 57 := by
   have := h.1
   unfold isD at this
   simpa using this
  unfold Lib.parseUint10
  rw [if_pos hc]
  split
  ·exact Or.inr rfl
  ·split
   ·exact Or.inr rfl
   ·exact pu_any l _ h.2
theorem atoi_cons (c : UInt8) (l : List UInt8) (h : (c :: l).all isD = true) : (∀ u, Lib.parseUint10 0 (c :: l) = .ok u → Lib.atoiAll (c :: l) = if 9223372036854775808 ≤ u then .range else .ok (u : Int)) ∧ (Lib.parseUint10 0 (c :: l) = .range → Lib.atoiAll (c :: l) = .range) := by
 have hc : 48 ≤ c.toNat ∧ c.toNat ≤ 57 := by
  simp only [List.all_cons, Bool.and_eq_true] at h
  have := h.1
  unfold isD at this
  simpa using this
 unfold Lib.atoiAll
 simp only
 rw [if_neg (show ¬ (c.toNat = 43 ∨ c.toNat = 45) by omega)]
 unfold Lib.parseMag
 rw [if_neg (by simp)]
 have h45 : ¬ c.toNat = 45 := by omega
 refine ⟨fun u e => ?_, fun e => ?_⟩
 ·rw [e]
  simp [h45]
 ·rw [e]
theorem atoi_any (c : UInt8) (l : List UInt8) (h : (c :: l).all isD = true) : (∃ v, Lib.atoiAll (c :: l) = .ok v) ∨ Lib.atoiAll (c :: l) = .range := by
 rcases pu_any (c :: l) 0 h with ⟨r, e⟩ | e
 ·rw [(atoi_cons c l h).1 r e]
  split
  ·exact Or.inr rfl
  ·exact Or.inl ⟨_, rfl⟩
 ·rw [(atoi_cons c l h).2 e]
  exact Or.inr rfl
theorem atoi_small (c : UInt8) (l : List UInt8) (h : (c :: l).all isD = true) (hl : (c :: l).length ≤ 3) : Lib.atoiAll (c :: l) = .ok (valN (c :: l) : Int) := by
 have h1 := valN_lt (c :: l) h
 have h2 : 10 ^ (c :: l).length ≤ 10 ^ 3 := Nat.pow_le_pow_right (by omega) hl
 have h3 : valN (c :: l) < 1000 := by omega
 rw [(atoi_cons c l h).1 _ (pu_ok (c :: l) 0 h (by unfold valN at h3; omega))]
 rw [if_neg (by unfold valN at h3; omega)]
 rfl
def durO (d : List UInt8) (n : Nat) : Out := match durS d with | some t => (3, 0, ⟨#[]⟩, false, 0, (t : Int), ((n + 1 : Nat) : Int)) | none => zeroO
theorem duration_eq (l : List UInt8) (hl : l.length ≤ 700) (h1 : l.takeWhile isD ≠ []) : lex_duration.f ⟨l.toArray⟩ ((l.takeWhile isD).length : Int) = some (durO (l.takeWhile isD) (l.takeWhile isD).length) := by
 have hle := tw_le (p := isD) l
 have hall := tw_D l
 obtain ⟨c, d, hd⟩ : ∃ c d, l.takeWhile isD = c :: d := by
  cases e : l.takeWhile isD with
  | nil => exact absurd e h1
  | cons c d => exact ⟨c, d, rfl⟩
 have hl0 : 0 < l.length := by rw [hd, List.length_cons] at hle; omega
 have hc0 : l[0] = c := by
  cases l with
  | nil => simp at hl0
  | cons b r =>
   rw [List.takeWhile_cons] at hd
   split at hd
   ·exact (List.cons.inj hd).1
   ·simp at hd
 have hbt : bt ⟨l.toArray⟩ 0 = (c.toNat : Int) := by
  have := bt_list l 0 hl0
  rw [hc0] at this
  exact this
 unfold lex_duration.f
 rw [size_list, if_pos ⟨by omega, by omega, hl0, by omega⟩, Int.toNat_natCast, ext_take, take_tw, hbt]
 show (match Lib.atoiAll (l.takeWhile isD) with | .ok v => _ | .range => _ | _ => _) = _
 generalize hW : l.takeWhile isD = W at *
 subst hd
 have hw : wrap64 (((c :: d).length : Int) + 1) = (((c :: d).length + 1 : Nat) : Int) := by
  unfold wrap64
  omega
 unfold durO durS
 by_cases h3 : (c :: d).length ≤ 3
 ·rw [atoi_small c d hall h3]
  simp only
  generalize hv : valN (c :: d) = v
  rw [List.head?_cons]
  by_cases h4 : c = 48
  ·rw [if_pos, if_neg]
   ·rfl
   ·rintro ⟨_, h, _⟩
    exact h (by rw [h4])
   ·exact Or.inr (Or.inl (by rw [h4]; rfl))
  ·have h4' : ¬ (c.toNat : Int) = 48 := by
    intro e
    apply h4
    apply UInt8.toNat_inj.1
    show c.toNat = 48
    omega
   by_cases h5 : 1 ≤ v ∧ v ≤ 100
   ·rw [if_neg, if_pos]
    ·rw [hw]
    ·exact ⟨h3, by simpa using h4, h5.1, h5.2⟩
    ·rintro (h | h | h | h)
     ·omega
     ·exact h4' h
     ·omega
     ·omega
   ·rw [if_pos, if_neg]
    ·rfl
    ·rintro ⟨_, _, h⟩
     exact h5 h
    ·by_cases h6 : 1 ≤ v
     ·exact Or.inr (Or.inr (Or.inr (by omega)))
     ·exact Or.inr (Or.inr (Or.inl (by omega)))
 ·rw [if_neg (fun h => h3 h.1)]
  rcases atoi_any c d hall with ⟨v, e⟩ | e
  ·rw [e]
   simp only
   rw [if_pos (show durBad _ _ _ from Or.inl (by omega))]
   rfl
  ·rw [e]
   rfl
end Go.Proofs.YtnjobjogddjelaaGreatDoor.PureN
end

section
namespace Go.Proofs.YtnjobjogddjelaaGreatDoor.PureN
open Go.RowKit Go.Proofs.YtnjobjogddjelaaGreatDoor.Print Go.Proofs.YtnjobjogddjelaaGreatDoor.Pure Go.Proofs.YtnjobjogddjelaaGreatDoorW.PrintWords Go.Proofs.YtnjobjogddjelaaGreatDoorW.PrintLast Go.Proofs.YtnjobjogddjelaaGreatDoorW.PrintMore

/-! Numbers. -/
theorem w2 (a b : Nat) (h : a + b ≤ 100000) : wrap64 ((a : Int) + wrap64 (1 + (b : Int))) = ((a + (1 + b) : Nat) : Int) := by
 have e : wrap64 (1 + (b : Int)) = ((1 + b : Nat) : Int) := by unfold wrap64; omega
 rw [e]
 clear e
 unfold wrap64
 omega
def numO (l : List UInt8) (n : Nat) : Out := match rdNum (l.take n) with | some v => (2, 0, ⟨#[]⟩, false, v, 0, (n : Int)) | none => zeroO
theorem numP (l : List UInt8) (n : Nat) : (if (parseS (l.take n)).2.2 = 0 then (if (parseS (l.take n)).1 = true then (some zeroO) else (some ((2, 0, (⟨#[]⟩ : ByteArray), (parseS (l.take n)).1, (parseS (l.take n)).2.1, 0, (n : Int)) : Out))) else (some zeroO)) = some (numO l n) := by
 unfold numO rdNum
 generalize parseS (l.take n) = p
 obtain ⟨a, v, e⟩ := p
 simp only
 by_cases he : e = 0
 ·rw [if_pos he]
  cases a
  ·rw [if_neg (by simp), if_pos ⟨he, rfl⟩]
  ·rw [if_pos rfl, if_neg (by simp)]
 ·rw [if_neg he, if_neg (fun h => he h.1)]
theorem num_at (l : List UInt8) (n k : Nat) (hl : l.length ≤ 620) (hn : n ≤ l.length) (hk : 1200 < k) :
  ((fix_Parse.f k ((⟨l.toArray⟩ : ByteArray).extract 0 (n : Int).toNat)).bind fun bt147 => (if bt147.2.2 = 0 then (if bt147.1 = true then (some zeroO) else (some ((2, 0, (⟨#[]⟩ : ByteArray), bt147.1, bt147.2.1, 0, (n : Int)) : Out))) else (some zeroO))) = some (numO l n) := by
 rw [Int.toNat_natCast, ext_take, fixparse_eq k (l.take n) hk (by rw [List.length_take]; omega), Option.bind_some]
 exact numP l n
theorem number_eq (l : List UInt8) (k : Nat) (hl : l.length ≤ 600) (hk : 1210 < k) (h1 : l.takeWhile isD ≠ []) : lex_number.f k ⟨l.toArray⟩ = some (outR (readNum l)) := by
 obtain ⟨k2, rfl⟩ : ∃ m, k = m + 1 + 1 := ⟨k - 2, by omega⟩
 have hw := tw_le (p := isD) l
 have hs := List.takeWhile_append_dropWhile (p := isD) (l := l)
 have hlen := congrArg List.length hs
 rw [List.length_append] at hlen
 unfold lex_number.f readNum
 rw [many25_eq l (k2 + 1 + 1) (by omega) (by omega), Option.bind_some, size_list]
 cases hr : l.dropWhile isD with
 | nil =>
  rw [hr, List.length_nil] at hlen
  rw [if_neg (by omega), List.head?_nil, if_neg (by simp)]
  have hp : numLen l = (l.takeWhile isD).length := by unfold numLen; rw [hr]; rfl
  rw [hp]
  rw [lex_number.j0, if_neg (by simp), size_list, if_neg (by omega)]
  rw [lex_number.j1, if_neg (by simp), size_list, if_pos (by omega), if_pos (by omega)]
  refine (num_at l _ k2 (by omega) hw (by omega)).trans ?_
  unfold numO
  cases rdNum (l.take (l.takeWhile isD).length) <;> rfl
 | cons c r =>
  rw [hr, List.length_cons] at hlen
  have hlt : (l.takeWhile isD).length < l.length := by omega
  have hat : l[(l.takeWhile isD).length] = c := by
   have : (l.takeWhile isD ++ l.dropWhile isD)[(l.takeWhile isD).length]'(by rw [hs]; exact hlt) = c := by
    rw [List.getElem_append_right (Nat.le_refl _)]
    simp [hr]
   simpa [hs] using this
  have hbt := bt_list l _ hlt
  rw [hat] at hbt
  have hdrop : l.drop ((l.takeWhile isD).length + 1) = r := by
   have := congrArg (List.drop ((l.takeWhile isD).length + 1)) hs
   rw [List.drop_append, List.drop_eq_nil_of_le (by omega), List.nil_append, hr, show (l.takeWhile isD).length + 1 - (l.takeWhile isD).length = 1 by omega] at this
   exact this.symm
  rw [if_pos (by omega), if_pos (by omega), hbt, List.head?_cons]
  rw [lex_number.j0]
  by_cases h116 : c = 116
  ·rw [if_pos (by rw [h116]; rfl), if_pos (by rw [h116]), duration_eq l (by omega) h1, Option.bind_some]
   unfold durO
   cases durS (l.takeWhile isD) <;> rfl
  ·have hb : (((c.toNat : Int)) == 116) = false := beq_eq_false_iff_ne.mpr (fun e => h116 ((Print.toNat_is c 116 (by omega)).1 e))
   rw [hb, if_neg (by simp), size_list, if_pos (by omega), if_pos (by omega), hbt, if_neg (by simpa using h116)]
   rw [lex_number.j1]
   have hp : numLen l = (l.takeWhile isD).length + part (c :: r) := by unfold numLen; rw [hr]
   by_cases h46 : c = 46
   ·have hb2 : (((c.toNat : Int)) == 46) = true := by rw [h46]; rfl
    rw [if_pos hb2, w1 _ (by omega), if_pos (by omega), size_list, if_pos (by omega), Int.toNat_natCast]
    have he : (⟨l.toArray⟩ : ByteArray).extract ((l.takeWhile isD).length + 1) l.length = ⟨r.toArray⟩ := by rw [extract_list, hdrop]
    rw [he, many25_eq r k2 (by omega) (by omega), Option.bind_some]
    have hr2 := tw_le (p := isD) r
    by_cases hz : (r.takeWhile isD).length = 0
    ·have hpart : part (c :: r) = 0 := by rw [part, if_neg (fun h => h.2 hz)]
     rw [if_neg (by omega), if_pos (by omega), if_pos (by omega), hp, hpart, Nat.add_zero]
     refine (num_at l _ k2 (by omega) hw (by omega)).trans ?_
     unfold numO
     cases rdNum (l.take (l.takeWhile isD).length) <;> rfl
    ·have hpart : part (c :: r) = 1 + (r.takeWhile isD).length := by rw [part, if_pos ⟨h46, hz⟩]
     have hw2 : wrap64 (((l.takeWhile isD).length : Int) + wrap64 (1 + ((r.takeWhile isD).length : Int))) = (((l.takeWhile isD).length + (1 + (r.takeWhile isD).length) : Nat) : Int) := w2 _ _ (by omega)
     rw [if_pos (by omega), hw2, if_pos (by omega), if_pos (by omega), hp, hpart]
     refine (num_at l _ k2 (by omega) (by omega) (by omega)).trans ?_
     unfold numO
     cases rdNum (l.take ((l.takeWhile isD).length + (1 + (r.takeWhile isD).length))) <;> rfl
   ·have hb2 : (((c.toNat : Int)) == 46) = false := beq_eq_false_iff_ne.mpr (fun e => h46 ((Print.toNat_is c 46 (by omega)).1 e))
    have hpart : part (c :: r) = 0 := by rw [part, if_neg (fun h => h46 h.1)]
    rw [hb2, if_neg (by simp), size_list, if_pos (by omega), if_pos (by omega), hp, hpart, Nat.add_zero]
    refine (num_at l _ k2 (by omega) hw (by omega)).trans ?_
    unfold numO
    cases rdNum (l.take (l.takeWhile isD).length) <;> rfl
end Go.Proofs.YtnjobjogddjelaaGreatDoor.PureN
end

section
namespace Go.Proofs.YtnjobjogddjelaaGreatDoor.PureN
open Go.RowKit Go.Proofs.YtnjobjogddjelaaGreatDoor.Print Go.Proofs.YtnjobjogddjelaaGreatDoor.Pure Go.Proofs.YtnjobjogddjelaaGreatDoorW.PrintWords Go.Proofs.YtnjobjogddjelaaGreatDoorW.PrintLast Go.Proofs.YtnjobjogddjelaaGreatDoorW.PrintMore

/-! Texts, signs, the whole. -/
theorem ib_mem (c : UInt8) : ∀ l : List UInt8, 0 ≤ Lib.indexByte l c ↔ c ∈ l
 | [] => by simp [Lib.indexByte]
 | b :: l => by
  have ih := ib_mem c l
  have hge := Lib.indexByte_ge l c
  unfold Lib.indexByte
  by_cases h : b = c
  ·rw [if_pos (beq_iff_eq.2 h)]
   simp [h]
  ·rw [if_neg (by simpa using h), List.mem_cons, ← ih]
   have h' : ¬ c = b := fun e => h e.symm
   simp only [h', false_or]
   split
   ·rename_i e
    have : Lib.indexByte l c = -1 := by simpa using e
    rw [this]
   ·rename_i e
    have : ¬ Lib.indexByte l c = -1 := by simpa using e
    omega
theorem ib_eq (l : List UInt8) (c : UInt8) : strings_IndexByte.f ⟨l.toArray⟩ (c.toNat : Int) = some (Lib.indexByte l c) := by
 unfold strings_IndexByte.f
 rw [Int.toNat_natCast]
 congr 2
 simp
theorem text_eq (r : List UInt8) (hl : (34 :: r).length ≤ 700) : lex_text.f ⟨(34 :: r).toArray⟩ = some (outR (readText r)) := by
 have hu : unqR ⟨(34 :: r).toArray⟩ = fin ⟨(34 :: r).toArray⟩ [] r := by
  unfold unqR
  simp
 unfold lex_text.f label_Unquote.f readText
 rw [if_pos (by show (34 :: r).length ≤ _; omega), Option.bind_some, hu]
 unfold fin
 cases e : unq r with
 | none => rfl
 | some y =>
  obtain ⟨v, n⟩ := y
  have hy := unq_take r v n e
  simp only [List.nil_append, if_true]
  rw [size_list]
  by_cases h30 : v.length ≤ 30
  ·rw [if_neg (by omega)]
   have h10 := ib_eq v 10
   rw [show (((10 : UInt8).toNat : Nat) : Int) = 10 from rfl] at h10
   rw [h10, Option.bind_some]
   have hm := ib_mem 10 v
   by_cases hin : (10 : UInt8) ∈ v
   ·rw [if_pos (hm.2 hin), if_neg (fun h => h.2 hin)]
    rfl
   ·rw [if_neg (fun h => hin (hm.1 h)), if_pos ⟨h30, hin⟩, size_list, size_list, List.length_drop, List.length_cons]
    rw [List.length_cons] at hl
    have : wrap64 (((r.length + 1 : Nat) : Int) - ((r.length - n : Nat) : Int)) = ((n + 1 : Nat) : Int) := by
     have := hy.2.2
     unfold wrap64
     omega
    rw [this]
    rfl
  ·rw [if_pos (by omega), if_neg (fun h => h30 h.1)]
   rfl
theorem sign_eq (c : UInt8) (r : List UInt8) (k : Nat) (hl : (c :: r).length ≤ 700) (hk : 1 < k) : lex_sign.f k ⟨(c :: r).toArray⟩ = some (outR (readSign (c :: r))) := by
 obtain ⟨k, rfl⟩ : ∃ m, k = m + 1 := ⟨k - 1, by omega⟩
 have hb0 : bt ⟨(c :: r).toArray⟩ 0 = (c.toNat : Int) := bt_list (c :: r) 0 (by simp)
 have h1 := ib_eq ones c
 have h2 := ib_eq twos c
 have m1 := ib_mem c ones
 have m2 := ib_mem c twos
 have hx : ∀ l : List UInt8, (⟨l.toArray⟩ : ByteArray).extract 0 1 = ⟨(l.take 1).toArray⟩ := fun l => ext_take l 1
 have hx2 : ∀ l : List UInt8, (⟨l.toArray⟩ : ByteArray).extract 0 2 = ⟨(l.take 2).toArray⟩ := fun l => ext_take l 2
 have hj : ∀ b, lex_sign.j0 (k + 1) ⟨(c :: r).toArray⟩ 0 b = some (if b = true ∧ 2 ≤ (c :: r).length then ((5, 0, ⟨((c :: r).take 2).toArray⟩, false, 0, 0, 2) : Out) else if b = true then zeroO else if c ∈ ones then ((5, 0, ⟨((c :: r).take 1).toArray⟩, false, 0, 0, 1) : Out) else zeroO) ∨ (b = true ∧ ¬ 2 ≤ (c :: r).length) := by
  intro b
  rw [lex_sign.j0]
  cases b
  ·left
   rw [if_neg (by simp), size_list, if_pos (by rw [List.length_cons]; omega), hb0]
   have h1' : strings_IndexByte.f (⟨#[40, 41, 123, 125, 91, 93, 44, 43, 45, 42, 47, 61, 62, 60]⟩ : ByteArray) (c.toNat : Int) = some (Lib.indexByte ones c) := h1
   rw [h1', Option.bind_some]
   by_cases hin : c ∈ ones
   ·rw [if_pos (m1.2 hin), if_neg (by omega), if_pos (by omega), if_pos (by rw [List.length_cons]; omega), hx, if_neg (by simp), if_neg (by simp), if_pos hin]
   ·rw [if_neg (fun h => hin (m1.1 h)), if_pos rfl, if_neg (by simp), if_neg (by simp), if_neg hin]
    rfl
  ·by_cases h : 2 ≤ (c :: r).length
   ·left
    rw [if_pos rfl, if_neg (by omega), if_pos (by omega), size_list, if_pos (by omega), if_pos ⟨rfl, h⟩, hx2]
   ·exact Or.inr ⟨rfl, h⟩
 unfold lex_sign.f readSign
 rw [size_list]
 cases r with
 | nil =>
  have hj0 := (hj false).resolve_right (by simp)
  rw [if_neg (by simp), hj0]
  unfold signLen
  simp only [Bool.false_eq_true, false_and, if_false, List.head?_nil, reduceCtorEq]
  by_cases hin : c ∈ ones
  ·rw [if_pos hin, if_pos hin, if_neg (by omega)]
   rfl
  ·rw [if_neg hin, if_neg hin, if_pos rfl]
   rfl
 | cons d r =>
  have hb1 : bt ⟨(c :: d :: r).toArray⟩ 1 = (d.toNat : Int) := bt_list (c :: d :: r) 1 (by simp)
  have hlen : 2 ≤ (c :: d :: r).length := by simp
  rw [if_pos (by simp only [List.length_cons]; omega), if_pos (by simp only [List.length_cons]; omega), hb1]
  have h2' : strings_IndexByte.f (⟨#[94, 42, 33, 61, 62, 60]⟩ : ByteArray) (c.toNat : Int) = some (Lib.indexByte twos c) := h2
  have hj0 := (hj false).resolve_right (by simp)
  have hj1 := (hj true).resolve_right (fun h => h.2 hlen)
  simp only [Bool.false_eq_true, false_and, if_false] at hj0
  simp only [true_and] at hj1
  rw [if_pos hlen] at hj1
  have fin1 : (some (if c ∈ ones then ((5, 0, ⟨((c :: d :: r).take 1).toArray⟩, false, 0, 0, 1) : Out) else zeroO)) = some (outR (if (if c ∈ ones then 1 else 0) = 0 then none else some (⟨5, 0, (c :: d :: r).take (if c ∈ ones then 1 else 0), 0, 0⟩, (if c ∈ ones then 1 else 0)))) := by
   by_cases hin : c ∈ ones
   ·rw [if_pos hin, if_pos hin, if_neg (by omega)]
    rfl
   ·rw [if_neg hin, if_neg hin, if_pos rfl]
    rfl
  unfold signLen
  simp only [List.head?_cons, Option.some.injEq]
  by_cases h61 : d = 61
  ·rw [if_pos (by rw [h61]; rfl), if_pos (by simp only [List.length_cons]; omega), hb0, h2', Option.bind_some]
   by_cases hin2 : c ∈ twos
   ·have hs2 : (if d = 61 ∧ c ∈ twos then 2 else if c ∈ ones then 1 else 0) = 2 := if_pos ⟨h61, hin2⟩
    rw [decide_eq_true (m2.2 hin2), hj1, hs2]
    rfl
   ·have hs2 : (if d = 61 ∧ c ∈ twos then 2 else if c ∈ ones then 1 else 0) = (if c ∈ ones then 1 else 0) := if_neg (fun h => hin2 h.2)
    rw [decide_eq_false (fun h => hin2 (m2.1 h)), hj0, hs2]
    exact fin1
  ·have hs2 : (if d = 61 ∧ c ∈ twos then 2 else if c ∈ ones then 1 else 0) = (if c ∈ ones then 1 else 0) := if_neg (fun h => h61 h.1)
   have hne : ¬ (d.toNat : Int) = 61 := fun e => h61 ((Print.toNat_is d 61 (by omega)).1 e)
   rw [if_neg hne, hj0, hs2]
   exact fin1
theorem read_eq (c : UInt8) (r : List UInt8) (k : Nat) (hl : (c :: r).length ≤ 600) (hk : 1210 < k) : lex_read.f k ⟨(c :: r).toArray⟩ = some (outR (readS (c :: r))) := by
 have hb0 : bt ⟨(c :: r).toArray⟩ 0 = (c.toNat : Int) := bt_list (c :: r) 0 (by simp)
 have eta : ∀ x : Out, (some ((x.1, x.2.1, x.2.2.1, x.2.2.2.1, x.2.2.2.2.1, x.2.2.2.2.2.1, x.2.2.2.2.2.2) : Out)) = some x := fun x => rfl
 unfold lex_read.f
 rw [size_list, if_pos (by rw [List.length_cons]; omega), hb0, letter_eq, Option.bind_some, readS]
 cases h1 : isL c
 ·simp only [Bool.false_eq_true, if_false]
  rw [digit_eq, Option.bind_some]
  cases h2 : isD c
  ·simp only [Bool.false_eq_true, if_false]
   by_cases h3 : c = 34
   ·rw [if_pos (by rw [h3]; rfl), if_pos h3]
    subst h3
    rw [text_eq r (by omega), Option.bind_some]
   ·have hne : ¬ (c.toNat : Int) = 34 := fun e => h3 ((Print.toNat_is c 34 (by omega)).1 e)
    rw [if_neg hne, if_neg h3, sign_eq c r k (by omega) (by omega), Option.bind_some]
  ·simp only [if_true]
   rw [number_eq (c :: r) k hl hk (by rw [List.takeWhile_cons, if_pos h2]; simp), Option.bind_some]
 ·simp only [if_true]
  rw [ident_eq (c :: r) k (by omega) (by omega), Option.bind_some]
/-! The scan. -/
theorem w_nat (a b : Nat) (h : a + b ≤ 100000) : wrap64 ((a : Int) + (b : Int)) = ((a + b : Nat) : Int) := by
 unfold wrap64
 omega
def toS (t : Tok) : S36 := ⟨t.kind, t.place, ⟨t.text.toArray⟩, ⟨false, t.v⟩, t.n⟩
def scanO (acc : List S36) : Except Nat (List Tok) → List S36 × Int × Int
 | .ok ts => (acc ++ ts.map toS, 0, 0)
 | .error j => ([], (j : Int), 70)
theorem blank_eq (c : UInt8) : ((decide ((c.toNat : Int) = 32)) || ((c.toNat : Int) == 9)) = blank c := of_decide_eq_true (u8_dec (fun c => decide (((decide ((c.toNat : Int) = 32)) || ((c.toNat : Int) == 9)) = blank c)) (by decide +kernel) c)
theorem scan_l0 (l : List UInt8) (hl : l.length ≤ 600) : ∀ (d k i : Nat) (acc : List S36), l.length - i ≤ d → i ≤ l.length → 2 * d + 1300 < k → acc.length ≤ i →
  lex_Scan.l0 k ⟨l.toArray⟩ acc (i : Int) = some (scanO acc (scanS i (l.drop i))) := by
 intro d
 induction d with
 | zero =>
  intro k i acc h1 h2 hk ha
  obtain ⟨k, rfl⟩ : ∃ m, k = m + 1 := ⟨k - 1, by omega⟩
  rw [lex_Scan.l0, size_list, if_neg (by omega), if_pos (by omega), List.drop_eq_nil_of_le (by omega), scanS_nil]
  have : i = l.length := by omega
  rw [← this]
  rfl
 | succ d ih =>
  intro k i acc h1 h2 hk ha
  by_cases hi : i < l.length
  ·obtain ⟨k, rfl⟩ : ∃ m, k = m + 1 + 1 := ⟨k - 2, by omega⟩
   have hd := drop_cons l i hi
   have hbt := bt_list l i hi
   rw [lex_Scan.l0, size_list, if_pos (by omega), if_pos (by omega), hbt]
   generalize l[i] = c at hd hbt ⊢
   have hb := blank_eq c
   have hstep : (if (c.toNat : Int) = 32 then lex_Scan.j1 (k + 1) ⟨l.toArray⟩ acc (i : Int) true else lex_Scan.j1 (k + 1) ⟨l.toArray⟩ acc (i : Int) ((c.toNat : Int) == 9)) = lex_Scan.j1 (k + 1) ⟨l.toArray⟩ acc (i : Int) (blank c) := by
    rw [← hb]
    by_cases h32 : (c.toNat : Int) = 32
    ·rw [if_pos h32, decide_eq_true h32]
     rfl
    ·rw [if_neg h32, decide_eq_false h32]
     rfl
   rw [hstep, hd, lex_Scan.j1]
   cases hbl : blank c
   ·rw [if_neg (by simp), if_pos (by omega), size_list, if_pos (by omega), Int.toNat_natCast, extract_list, hd]
    have hlen : (c :: l.drop (i + 1)).length = l.length - i := by rw [← hd, List.length_drop]
    rw [read_eq c _ k (by rw [hlen]; omega) (by omega), Option.bind_some]
    cases hr : readS (c :: l.drop (i + 1)) with
    | none =>
     rw [scanS_bad i c _ hbl hr]
     rfl
    | some x =>
     have hp := readS_pos _ x hr
     rw [hlen] at hp
     rw [scanS_good i c _ x hr]
     show (if (x.2 : Int) = 0 then _ else _) = _
     rw [if_neg (by omega), if_pos (by omega)]
     show lex_Scan.l0 k ⟨l.toArray⟩ (acc ++ [toS { x.1 with place := (i : Int) }]) (wrap64 ((i : Int) + (x.2 : Int))) = _
     have hw : wrap64 ((i : Int) + (x.2 : Int)) = ((i + x.2 : Nat) : Int) := w_nat _ _ (by omega)
     clear hstep hb hbl hr hbt
     rw [hw, ih k (i + x.2) _ (by omega) (by omega) (by omega) (by rw [List.length_append, List.length_singleton]; omega), List.drop_drop]
     rw [show i + 1 + (x.2 - 1) = i + x.2 by omega]
     cases scanS (i + x.2) (l.drop (i + x.2)) with
     | error j => rfl
     | ok ts =>
      unfold scanO
      simp
   ·rw [if_pos rfl, w1 i (by omega), ih k (i + 1) acc (by omega) (by omega) (by omega) (by omega), scanS_blank i c _ hbl]
  ·obtain ⟨k, rfl⟩ : ∃ m, k = m + 1 := ⟨k - 1, by omega⟩
   rw [lex_Scan.l0, size_list, if_neg (by omega), if_pos (by omega), List.drop_eq_nil_of_le (by omega), scanS_nil]
   have : i = l.length := by omega
   rw [← this]
   rfl
/-- The whole: signs, or where it stops; too long. -/
def scanW (l : List UInt8) : List S36 × Int × Int := if 600 < l.length then ([], 0, 11) else scanO [] (scanS 0 l)
theorem lexscan_eq (l : List UInt8) (k : Nat) (hk : 3000 < k) : lex_Scan.f k ⟨l.toArray⟩ = some (scanW l) := by
 unfold lex_Scan.f scanW
 rw [size_list]
 by_cases h : 600 < l.length
 ·rw [if_pos (by omega), if_pos h]
 ·rw [if_neg (by omega), if_neg h]
  exact scan_l0 l (by omega) l.length k 0 [] (by omega) (by omega) (by omega) (by simp)
end Go.Proofs.YtnjobjogddjelaaGreatDoor.PureN
end

section
namespace Go.Proofs.YtnjobjogddjelaaGreatDoor.Print
open Go.RowKit Go.Proofs.YtnjobjogddjelaaGreatDoorX Go.Proofs.YtnjobjogddjelaaGreatDoorW.PrintWords Go.Proofs.YtnjobjogddjelaaGreatDoorW.PrintLast Go.Proofs.YtnjobjogddjelaaGreatDoorW.PrintMore
attribute [local go_sem] max2_int min2_int max_two min_two max_three min_three max_four min_four

/-! ### lex_one: function 20 -/
def lex_one.f (a0_0 : Int) (a0_1 : Int) (a0_2 : ByteArray) (a0_3 : Bool) (a0_4 : Int) (a0_5 : Int) : Option (ByteArray) := if a0_0 = 2 then ((fix_Print.f a0_3 a0_4).bind fun t216 => (some t216)) else (if a0_0 = 3 then ((strconv_Itoa.f (mx a0_5 0)).bind fun t217 => (if t217.size + 1 ≤ 9223372036854775807 then (some (t217 ++ (⟨#[116]⟩ : ByteArray))) else (none))) else (if a0_0 = 4 then ((label_Quote.f a0_2).bind fun t218 => (some t218)) else (if a0_0 = 1 then (some a0_2) else (if a0_0 = 5 then (some a0_2) else (some (⟨#[]⟩ : ByteArray))))))
set_option maxHeartbeats 8000000 in
set_option maxRecDepth 100000 in
theorem lex_one.calls (a0_0 : Int) (a0_1 : Int) (a0_2 : ByteArray) (a0_3 : Bool) (a0_4 : Int) (a0_5 : Int) (r : ByteArray) (w : World) (hg_ : LaidW w) (h : lex_one.f a0_0 a0_1 a0_2 a0_3 a0_4 a0_5 = some r) :
  Calls Tryz.prog 20 #[.agg #[.int .i64 a0_0, .int .i64 a0_1, .string a0_2, .bool a0_3, .int .i64 a0_4, .int .i64 a0_5]] w fun e w' => e = .returned (.string r) ∧ Below w.heap.size w w' := by
 have HLW := Aside0.mk hg_
 clear hg_
 have hu36 := Tryz.underlying36
 have hu34 := Tryz.underlying34
 have HB := Aside0.mk (Below.refl w.heap.size w)
 have H : (if a0_0 = 2 then ((fix_Print.f a0_3 a0_4).bind fun t216 => (some t216)) else (if a0_0 = 3 then ((strconv_Itoa.f (mx a0_5 0)).bind fun t217 => (if t217.size + 1 ≤ 9223372036854775807 then (some (t217 ++ (⟨#[116]⟩ : ByteArray))) else (none))) else (if a0_0 = 4 then ((label_Quote.f a0_2).bind fun t218 => (some t218)) else (if a0_0 = 1 then (some a0_2) else (if a0_0 = 5 then (some a0_2) else (some (⟨#[]⟩ : ByteArray))))))) = some r := h
 clear h
 by_cases c2 : a0_0 = 2
 ·rw [if_pos c2] at H
  have c2b0 : (a0_0 == 2) = true := beq_iff_eq.mpr c2
  have c2b1 : (a0_0 != 2) = false := bne_eq_false_iff_eq.mpr c2
  clear c2
  replace H := Option.bind_eq_some_iff.mp H
  obtain ⟨t216, A30, H⟩ := H
  replace H : (some t216) = some r := H
  have A3 := Aside0.mk A30
  clear A30
  obtain rfl := Option.some.inj H
  go_enter Tryz.func20, Tryz.ntmps20
  go_wp2_with (first | ((with_reducible refine gate_dst (N := 1) rfl ?_); refine box_event ?hg (N := 1) ?hd (cs := #[.int .i64 a0_0, .int .i64 a0_1, .string a0_2, .bool a0_3, .int .i64 a0_4, .int .i64 a0_5]) (t := 36) ?hr ?_; (case hd => rfl); (case hg => rfl); (case hr => first | (go_simp; done) | (go_simp; rfl)); intro gb215 hg w4 hbox hb; have n0_ := Aside0.mk (below_step (by repeat (first | (with_reducible first | exact HB.out | apply below_alloc | apply pw_below_drewN | apply below_drew1) | exact HB.out)) hb); have n1_ := Aside0.mk (hbox); have n2_ := Aside0.mk ((by rw [hg]; exact (below_size (by repeat (first | (with_reducible first | exact HB.out | apply below_alloc | apply pw_below_drewN | apply below_drew1) | exact HB.out))) : w.heap.size ≤ gb215)); have n3_ := Aside0.mk ((by rw [hg]; exact (below_size (by repeat (first | (with_reducible first | exact HB.out | apply below_alloc | apply pw_below_drewN | apply below_drew1) | exact HB.out))) : w.heap.size ≤ gb215)); clear HB; have HB := n0_; have BK215 := n1_; have GW215 := n2_; have GE215 := n3_; clear n0_ n1_ n2_ n3_; clear hb hbox hg; have hcz5_0 : w4.cell? ⟨gb215, 0, none⟩ = some (.int .i64 a0_0) := (blk_cell BK215.out 0).trans rfl; have hcz5_1 : w4.cell? ⟨gb215, 1, none⟩ = some (.int .i64 a0_1) := (blk_cell BK215.out 1).trans rfl; have hcz5_2 : w4.cell? ⟨gb215, 2, none⟩ = some (.string a0_2) := (blk_cell BK215.out 2).trans rfl; have hcz5_3 : w4.cell? ⟨gb215, 3, none⟩ = some (.bool a0_3) := (blk_cell BK215.out 3).trans rfl; have hcz5_4 : w4.cell? ⟨gb215, 4, none⟩ = some (.int .i64 a0_4) := (blk_cell BK215.out 4).trans rfl; have hcz5_5 : w4.cell? ⟨gb215, 5, none⟩ = some (.int .i64 a0_5) := (blk_cell BK215.out 5).trans rfl; have hfz5_0 := blk_frozen BK215.out 0; have hfz5_1 := blk_frozen BK215.out 1; have hfz5_2 := blk_frozen BK215.out 2; have hfz5_3 := blk_frozen BK215.out 3; have hfz5_4 := blk_frozen BK215.out 4; have hfz5_5 := blk_frozen BK215.out 5) | ((with_reducible refine gate_callee (f := 33) rfl ?_); refine goesL_ (some 9) rfl rfl Tryz.func33 (by kernel_rfl) rfl #[.agg #[.bool a0_3, .int .i64 a0_4]] rfl (by (try simp only [List.map_toArray, List.map_cons, List.map_nil]); first | done | rfl | (simp only [List.length_drop, List.length_take]; rfl)) ?_; (with_reducible refine (fix_Print.calls a0_3 a0_4 t216 _ ?side1 A3.out).mono ?_); (case side1 => exact LaidW.below HLW.out (by repeat (first | (with_reducible first | exact HB.out | apply below_alloc | apply pw_below_drewN | apply below_drew1) | exact HB.out | (refine below_set ?_ (Aside0.out ?hge); (case hge => assumption))))); rintro e w6 ⟨rfl, hb⟩; refine ⟨_, rfl, ?_⟩; have n0_ := Aside0.mk (blk_below (g := gb215) (o := .cells #[.int .i64 a0_0, .int .i64 a0_1, .string a0_2, .bool a0_3, .int .i64 a0_4, .int .i64 a0_5] 36 (0, 0)) (by (with_reducible repeat (first | refine blk_drewN ?_ _ | refine blk_drew ?_ | refine blk_alloc ?_ _)); exact BK215.out) hb); have n1_ := Aside0.mk (below_step (by repeat (first | (with_reducible first | exact HB.out | apply below_alloc | apply pw_below_drewN | apply below_drew1 | refine below_set ?_ GE215.out) | exact HB.out)) hb); clear BK215; clear HB; have BK215 := n0_; have HB := n1_; clear n0_ n1_; (try clear hb); (try clear hb2); (try clear hk); (try clear hi)))
  go_ret
  exact ⟨by first | rfl | (simp [errW_none, errW_some] <;> rfl) | (simp [*, errW_none, errW_some] <;> rfl), by repeat (first | (with_reducible first | exact HB.out | apply below_alloc | apply pw_below_drewN | apply below_drew1 | refine below_set ?_ GE215.out) | exact HB.out)⟩
 ·rw [if_neg c2] at H
  have c2b0 : (a0_0 == 2) = false := beq_eq_false_iff_ne.mpr c2
  have c2b1 : (a0_0 != 2) = true := bne_iff_ne.mpr c2
  by_cases c7 : a0_0 = 3
  ·rw [if_pos c7] at H
   have c7b0 : (a0_0 == 3) = true := beq_iff_eq.mpr c7
   have c7b1 : (a0_0 != 3) = false := bne_eq_false_iff_eq.mpr c7
   clear c7
   obtain ⟨ji8, hji8⟩ : ∃ j_ : Int, (mx a0_5 0) = j_ := ⟨_, rfl⟩
   replace H : ((strconv_Itoa.f (ji8)).bind fun t217 => (if t217.size + 1 ≤ 9223372036854775807 then (some (t217 ++ (⟨#[116]⟩ : ByteArray))) else (none))) = some r := by first | (rw [hji8] at H; exact H) | (simp only [hji8] at H ⊢; exact H)
   (try (have hji8l : 0 ≤ ji8 := by (rw [← hji8]; unfold mx; (repeat' split) <;> omega)))
   (try (have hji8m : 0 ≤ ji8 := by omega))
   have hji8_ : (if a0_5 < 0 then 0 else a0_5) = ji8 := hji8
   replace H := Option.bind_eq_some_iff.mp H
   obtain ⟨t217, A90, H⟩ := H
   replace H : (if t217.size + 1 ≤ 9223372036854775807 then (some (t217 ++ (⟨#[116]⟩ : ByteArray))) else (none)) = some r := H
   have A9 := Aside0.mk A90
   clear A90
   by_cases c10 : t217.size + 1 ≤ 9223372036854775807
   ·rw [if_pos c10] at H
    have c10b0 := eq_true c10
    have c10b1 : decide (t217.size + 1 ≤ 9223372036854775807) = true := decide_eq_true c10
    try have c10b2 : (9223372036854775807 < t217.size + 1) = False := eq_false (Nat.not_lt.2 c10)
    obtain rfl := Option.some.inj H
    go_enter Tryz.func20, Tryz.ntmps20
    go_wp2_with (first | ((with_reducible refine gate_dst (N := 1) rfl ?_); refine box_event ?hg (N := 1) ?hd (cs := #[.int .i64 a0_0, .int .i64 a0_1, .string a0_2, .bool a0_3, .int .i64 a0_4, .int .i64 a0_5]) (t := 36) ?hr ?_; (case hd => rfl); (case hg => rfl); (case hr => first | (go_simp; done) | (go_simp; rfl)); intro gb215 hg w11 hbox hb; have n0_ := Aside0.mk (below_step (by repeat (first | (with_reducible first | exact HB.out | apply below_alloc | apply pw_below_drewN | apply below_drew1) | exact HB.out)) hb); have n1_ := Aside0.mk (hbox); have n2_ := Aside0.mk ((by rw [hg]; exact (below_size (by repeat (first | (with_reducible first | exact HB.out | apply below_alloc | apply pw_below_drewN | apply below_drew1) | exact HB.out))) : w.heap.size ≤ gb215)); have n3_ := Aside0.mk ((by rw [hg]; exact (below_size (by repeat (first | (with_reducible first | exact HB.out | apply below_alloc | apply pw_below_drewN | apply below_drew1) | exact HB.out))) : w.heap.size ≤ gb215)); clear HB; have HB := n0_; have BK215 := n1_; have GW215 := n2_; have GE215 := n3_; clear n0_ n1_ n2_ n3_; clear hb hbox hg; have hcz12_0 : w11.cell? ⟨gb215, 0, none⟩ = some (.int .i64 a0_0) := (blk_cell BK215.out 0).trans rfl; have hcz12_1 : w11.cell? ⟨gb215, 1, none⟩ = some (.int .i64 a0_1) := (blk_cell BK215.out 1).trans rfl; have hcz12_2 : w11.cell? ⟨gb215, 2, none⟩ = some (.string a0_2) := (blk_cell BK215.out 2).trans rfl; have hcz12_3 : w11.cell? ⟨gb215, 3, none⟩ = some (.bool a0_3) := (blk_cell BK215.out 3).trans rfl; have hcz12_4 : w11.cell? ⟨gb215, 4, none⟩ = some (.int .i64 a0_4) := (blk_cell BK215.out 4).trans rfl; have hcz12_5 : w11.cell? ⟨gb215, 5, none⟩ = some (.int .i64 a0_5) := (blk_cell BK215.out 5).trans rfl; have hfz12_0 := blk_frozen BK215.out 0; have hfz12_1 := blk_frozen BK215.out 1; have hfz12_2 := blk_frozen BK215.out 2; have hfz12_3 := blk_frozen BK215.out 3; have hfz12_4 := blk_frozen BK215.out 4; have hfz12_5 := blk_frozen BK215.out 5) | ((with_reducible refine gate_callee (f := 34) rfl ?_); refine goesL_ (some 15) rfl rfl Tryz.func34 (by kernel_rfl) rfl #[.int .i64 ji8] rfl (by (try simp only [List.map_toArray, List.map_cons, List.map_nil]); first | done | (simp only [hji8]; rfl) | rfl | (simp only [List.length_drop, List.length_take]; rfl)) ?_; (with_reducible refine (strconv_Itoa.calls ji8 t217 _ ?side1 A9.out).mono ?_); (case side1 => exact LaidW.below HLW.out (by repeat (first | (with_reducible first | exact HB.out | apply below_alloc | apply pw_below_drewN | apply below_drew1) | exact HB.out | (refine below_set ?_ (Aside0.out ?hge); (case hge => assumption))))); rintro e w13 ⟨rfl, hb⟩; refine ⟨_, rfl, ?_⟩; have n0_ := Aside0.mk (blk_below (g := gb215) (o := .cells #[.int .i64 a0_0, .int .i64 a0_1, .string a0_2, .bool a0_3, .int .i64 a0_4, .int .i64 a0_5] 36 (0, 0)) (by (with_reducible repeat (first | refine blk_drewN ?_ _ | refine blk_drew ?_ | refine blk_alloc ?_ _)); exact BK215.out) hb); have n1_ := Aside0.mk (below_step (by repeat (first | (with_reducible first | exact HB.out | apply below_alloc | apply pw_below_drewN | apply below_drew1 | refine below_set ?_ GE215.out) | exact HB.out)) hb); clear BK215; clear HB; have BK215 := n0_; have HB := n1_; clear n0_ n1_; (try clear hb); (try clear hb2); (try clear hk); (try clear hi)))
    go_ret
    exact ⟨by first | rfl | (simp [errW_none, errW_some] <;> rfl) | (simp only [← hji8]; first | rfl | (simp [errW_none, errW_some] <;> rfl)) | (simp [*, errW_none, errW_some] <;> rfl), by repeat (first | (with_reducible first | exact HB.out | apply below_alloc | apply pw_below_drewN | apply below_drew1 | refine below_set ?_ GE215.out) | exact HB.out)⟩
   ·rw [if_neg c10] at H
    exact absurd H (by simp)
  ·rw [if_neg c7] at H
   have c7b0 : (a0_0 == 3) = false := beq_eq_false_iff_ne.mpr c7
   have c7b1 : (a0_0 != 3) = true := bne_iff_ne.mpr c7
   by_cases c14 : a0_0 = 4
   ·rw [if_pos c14] at H
    have c14b0 : (a0_0 == 4) = true := beq_iff_eq.mpr c14
    have c14b1 : (a0_0 != 4) = false := bne_eq_false_iff_eq.mpr c14
    clear c14
    replace H := Option.bind_eq_some_iff.mp H
    obtain ⟨t218, A150, H⟩ := H
    replace H : (some t218) = some r := H
    have A15 := Aside0.mk A150
    clear A150
    obtain rfl := Option.some.inj H
    go_enter Tryz.func20, Tryz.ntmps20
    go_wp2_with (first | ((with_reducible refine gate_dst (N := 1) rfl ?_); refine box_event ?hg (N := 1) ?hd (cs := #[.int .i64 a0_0, .int .i64 a0_1, .string a0_2, .bool a0_3, .int .i64 a0_4, .int .i64 a0_5]) (t := 36) ?hr ?_; (case hd => rfl); (case hg => rfl); (case hr => first | (go_simp; done) | (go_simp; rfl)); intro gb215 hg w16 hbox hb; have n0_ := Aside0.mk (below_step (by repeat (first | (with_reducible first | exact HB.out | apply below_alloc | apply pw_below_drewN | apply below_drew1) | exact HB.out)) hb); have n1_ := Aside0.mk (hbox); have n2_ := Aside0.mk ((by rw [hg]; exact (below_size (by repeat (first | (with_reducible first | exact HB.out | apply below_alloc | apply pw_below_drewN | apply below_drew1) | exact HB.out))) : w.heap.size ≤ gb215)); have n3_ := Aside0.mk ((by rw [hg]; exact (below_size (by repeat (first | (with_reducible first | exact HB.out | apply below_alloc | apply pw_below_drewN | apply below_drew1) | exact HB.out))) : w.heap.size ≤ gb215)); clear HB; have HB := n0_; have BK215 := n1_; have GW215 := n2_; have GE215 := n3_; clear n0_ n1_ n2_ n3_; clear hb hbox hg; have hcz17_0 : w16.cell? ⟨gb215, 0, none⟩ = some (.int .i64 a0_0) := (blk_cell BK215.out 0).trans rfl; have hcz17_1 : w16.cell? ⟨gb215, 1, none⟩ = some (.int .i64 a0_1) := (blk_cell BK215.out 1).trans rfl; have hcz17_2 : w16.cell? ⟨gb215, 2, none⟩ = some (.string a0_2) := (blk_cell BK215.out 2).trans rfl; have hcz17_3 : w16.cell? ⟨gb215, 3, none⟩ = some (.bool a0_3) := (blk_cell BK215.out 3).trans rfl; have hcz17_4 : w16.cell? ⟨gb215, 4, none⟩ = some (.int .i64 a0_4) := (blk_cell BK215.out 4).trans rfl; have hcz17_5 : w16.cell? ⟨gb215, 5, none⟩ = some (.int .i64 a0_5) := (blk_cell BK215.out 5).trans rfl; have hfz17_0 := blk_frozen BK215.out 0; have hfz17_1 := blk_frozen BK215.out 1; have hfz17_2 := blk_frozen BK215.out 2; have hfz17_3 := blk_frozen BK215.out 3; have hfz17_4 := blk_frozen BK215.out 4; have hfz17_5 := blk_frozen BK215.out 5) | ((with_reducible refine gate_callee (f := 35) rfl ?_); refine goesL_ (some 21) rfl rfl Tryz.func35 (by kernel_rfl) rfl #[.string a0_2] rfl (by (try simp only [List.map_toArray, List.map_cons, List.map_nil]); first | done | rfl | (simp only [List.length_drop, List.length_take]; rfl)) ?_; (with_reducible refine (label_Quote.calls a0_2 t218 _ A15.out).mono ?_); rintro e w18 ⟨rfl, hb⟩; refine ⟨_, rfl, ?_⟩; have n0_ := Aside0.mk (blk_below (g := gb215) (o := .cells #[.int .i64 a0_0, .int .i64 a0_1, .string a0_2, .bool a0_3, .int .i64 a0_4, .int .i64 a0_5] 36 (0, 0)) (by (with_reducible repeat (first | refine blk_drewN ?_ _ | refine blk_drew ?_ | refine blk_alloc ?_ _)); exact BK215.out) hb); have n1_ := Aside0.mk (below_step (by repeat (first | (with_reducible first | exact HB.out | apply below_alloc | apply pw_below_drewN | apply below_drew1 | refine below_set ?_ GE215.out) | exact HB.out)) hb); clear BK215; clear HB; have BK215 := n0_; have HB := n1_; clear n0_ n1_; (try clear hb); (try clear hb2); (try clear hk); (try clear hi)))
    go_ret
    exact ⟨by first | rfl | (simp [errW_none, errW_some] <;> rfl) | (simp [*, errW_none, errW_some] <;> rfl), by repeat (first | (with_reducible first | exact HB.out | apply below_alloc | apply pw_below_drewN | apply below_drew1 | refine below_set ?_ GE215.out) | exact HB.out)⟩
   ·rw [if_neg c14] at H
    have c14b0 : (a0_0 == 4) = false := beq_eq_false_iff_ne.mpr c14
    have c14b1 : (a0_0 != 4) = true := bne_iff_ne.mpr c14
    by_cases c19 : a0_0 = 1
    ·rw [if_pos c19] at H
     have c19b0 : (a0_0 == 1) = true := beq_iff_eq.mpr c19
     have c19b1 : (a0_0 != 1) = false := bne_eq_false_iff_eq.mpr c19
     clear c19
     obtain rfl := Option.some.inj H
     go_enter Tryz.func20, Tryz.ntmps20
     go_wp2_with (first | ((with_reducible refine gate_dst (N := 1) rfl ?_); refine box_event ?hg (N := 1) ?hd (cs := #[.int .i64 a0_0, .int .i64 a0_1, .string a0_2, .bool a0_3, .int .i64 a0_4, .int .i64 a0_5]) (t := 36) ?hr ?_; (case hd => rfl); (case hg => rfl); (case hr => first | (go_simp; done) | (go_simp; rfl)); intro gb215 hg w20 hbox hb; have n0_ := Aside0.mk (below_step (by repeat (first | (with_reducible first | exact HB.out | apply below_alloc | apply pw_below_drewN | apply below_drew1) | exact HB.out)) hb); have n1_ := Aside0.mk (hbox); have n2_ := Aside0.mk ((by rw [hg]; exact (below_size (by repeat (first | (with_reducible first | exact HB.out | apply below_alloc | apply pw_below_drewN | apply below_drew1) | exact HB.out))) : w.heap.size ≤ gb215)); have n3_ := Aside0.mk ((by rw [hg]; exact (below_size (by repeat (first | (with_reducible first | exact HB.out | apply below_alloc | apply pw_below_drewN | apply below_drew1) | exact HB.out))) : w.heap.size ≤ gb215)); clear HB; have HB := n0_; have BK215 := n1_; have GW215 := n2_; have GE215 := n3_; clear n0_ n1_ n2_ n3_; clear hb hbox hg; have hcz21_0 : w20.cell? ⟨gb215, 0, none⟩ = some (.int .i64 a0_0) := (blk_cell BK215.out 0).trans rfl; have hcz21_1 : w20.cell? ⟨gb215, 1, none⟩ = some (.int .i64 a0_1) := (blk_cell BK215.out 1).trans rfl; have hcz21_2 : w20.cell? ⟨gb215, 2, none⟩ = some (.string a0_2) := (blk_cell BK215.out 2).trans rfl; have hcz21_3 : w20.cell? ⟨gb215, 3, none⟩ = some (.bool a0_3) := (blk_cell BK215.out 3).trans rfl; have hcz21_4 : w20.cell? ⟨gb215, 4, none⟩ = some (.int .i64 a0_4) := (blk_cell BK215.out 4).trans rfl; have hcz21_5 : w20.cell? ⟨gb215, 5, none⟩ = some (.int .i64 a0_5) := (blk_cell BK215.out 5).trans rfl; have hfz21_0 := blk_frozen BK215.out 0; have hfz21_1 := blk_frozen BK215.out 1; have hfz21_2 := blk_frozen BK215.out 2; have hfz21_3 := blk_frozen BK215.out 3; have hfz21_4 := blk_frozen BK215.out 4; have hfz21_5 := blk_frozen BK215.out 5))
     go_ret
     exact ⟨by first | rfl | (simp [errW_none, errW_some] <;> rfl) | (simp [*, errW_none, errW_some] <;> rfl), by repeat (first | (with_reducible first | exact HB.out | apply below_alloc | apply pw_below_drewN | apply below_drew1 | refine below_set ?_ GE215.out) | exact HB.out)⟩
    ·rw [if_neg c19] at H
     have c19b0 : (a0_0 == 1) = false := beq_eq_false_iff_ne.mpr c19
     have c19b1 : (a0_0 != 1) = true := bne_iff_ne.mpr c19
     by_cases c22 : a0_0 = 5
     ·rw [if_pos c22] at H
      have c22b0 : (a0_0 == 5) = true := beq_iff_eq.mpr c22
      have c22b1 : (a0_0 != 5) = false := bne_eq_false_iff_eq.mpr c22
      clear c22
      obtain rfl := Option.some.inj H
      go_enter Tryz.func20, Tryz.ntmps20
      go_wp2_with (first | ((with_reducible refine gate_dst (N := 1) rfl ?_); refine box_event ?hg (N := 1) ?hd (cs := #[.int .i64 a0_0, .int .i64 a0_1, .string a0_2, .bool a0_3, .int .i64 a0_4, .int .i64 a0_5]) (t := 36) ?hr ?_; (case hd => rfl); (case hg => rfl); (case hr => first | (go_simp; done) | (go_simp; rfl)); intro gb215 hg w23 hbox hb; have n0_ := Aside0.mk (below_step (by repeat (first | (with_reducible first | exact HB.out | apply below_alloc | apply pw_below_drewN | apply below_drew1) | exact HB.out)) hb); have n1_ := Aside0.mk (hbox); have n2_ := Aside0.mk ((by rw [hg]; exact (below_size (by repeat (first | (with_reducible first | exact HB.out | apply below_alloc | apply pw_below_drewN | apply below_drew1) | exact HB.out))) : w.heap.size ≤ gb215)); have n3_ := Aside0.mk ((by rw [hg]; exact (below_size (by repeat (first | (with_reducible first | exact HB.out | apply below_alloc | apply pw_below_drewN | apply below_drew1) | exact HB.out))) : w.heap.size ≤ gb215)); clear HB; have HB := n0_; have BK215 := n1_; have GW215 := n2_; have GE215 := n3_; clear n0_ n1_ n2_ n3_; clear hb hbox hg; have hcz24_0 : w23.cell? ⟨gb215, 0, none⟩ = some (.int .i64 a0_0) := (blk_cell BK215.out 0).trans rfl; have hcz24_1 : w23.cell? ⟨gb215, 1, none⟩ = some (.int .i64 a0_1) := (blk_cell BK215.out 1).trans rfl; have hcz24_2 : w23.cell? ⟨gb215, 2, none⟩ = some (.string a0_2) := (blk_cell BK215.out 2).trans rfl; have hcz24_3 : w23.cell? ⟨gb215, 3, none⟩ = some (.bool a0_3) := (blk_cell BK215.out 3).trans rfl; have hcz24_4 : w23.cell? ⟨gb215, 4, none⟩ = some (.int .i64 a0_4) := (blk_cell BK215.out 4).trans rfl; have hcz24_5 : w23.cell? ⟨gb215, 5, none⟩ = some (.int .i64 a0_5) := (blk_cell BK215.out 5).trans rfl; have hfz24_0 := blk_frozen BK215.out 0; have hfz24_1 := blk_frozen BK215.out 1; have hfz24_2 := blk_frozen BK215.out 2; have hfz24_3 := blk_frozen BK215.out 3; have hfz24_4 := blk_frozen BK215.out 4; have hfz24_5 := blk_frozen BK215.out 5))
      go_ret
      exact ⟨by first | rfl | (simp [errW_none, errW_some] <;> rfl) | (simp [*, errW_none, errW_some] <;> rfl), by repeat (first | (with_reducible first | exact HB.out | apply below_alloc | apply pw_below_drewN | apply below_drew1 | refine below_set ?_ GE215.out) | exact HB.out)⟩
     ·rw [if_neg c22] at H
      have c22b0 : (a0_0 == 5) = false := beq_eq_false_iff_ne.mpr c22
      have c22b1 : (a0_0 != 5) = true := bne_iff_ne.mpr c22
      obtain rfl := Option.some.inj H
      go_enter Tryz.func20, Tryz.ntmps20
      go_wp2_with (first | ((with_reducible refine gate_dst (N := 1) rfl ?_); refine box_event ?hg (N := 1) ?hd (cs := #[.int .i64 a0_0, .int .i64 a0_1, .string a0_2, .bool a0_3, .int .i64 a0_4, .int .i64 a0_5]) (t := 36) ?hr ?_; (case hd => rfl); (case hg => rfl); (case hr => first | (go_simp; done) | (go_simp; rfl)); intro gb215 hg w25 hbox hb; have n0_ := Aside0.mk (below_step (by repeat (first | (with_reducible first | exact HB.out | apply below_alloc | apply pw_below_drewN | apply below_drew1) | exact HB.out)) hb); have n1_ := Aside0.mk (hbox); have n2_ := Aside0.mk ((by rw [hg]; exact (below_size (by repeat (first | (with_reducible first | exact HB.out | apply below_alloc | apply pw_below_drewN | apply below_drew1) | exact HB.out))) : w.heap.size ≤ gb215)); have n3_ := Aside0.mk ((by rw [hg]; exact (below_size (by repeat (first | (with_reducible first | exact HB.out | apply below_alloc | apply pw_below_drewN | apply below_drew1) | exact HB.out))) : w.heap.size ≤ gb215)); clear HB; have HB := n0_; have BK215 := n1_; have GW215 := n2_; have GE215 := n3_; clear n0_ n1_ n2_ n3_; clear hb hbox hg; have hcz26_0 : w25.cell? ⟨gb215, 0, none⟩ = some (.int .i64 a0_0) := (blk_cell BK215.out 0).trans rfl; have hcz26_1 : w25.cell? ⟨gb215, 1, none⟩ = some (.int .i64 a0_1) := (blk_cell BK215.out 1).trans rfl; have hcz26_2 : w25.cell? ⟨gb215, 2, none⟩ = some (.string a0_2) := (blk_cell BK215.out 2).trans rfl; have hcz26_3 : w25.cell? ⟨gb215, 3, none⟩ = some (.bool a0_3) := (blk_cell BK215.out 3).trans rfl; have hcz26_4 : w25.cell? ⟨gb215, 4, none⟩ = some (.int .i64 a0_4) := (blk_cell BK215.out 4).trans rfl; have hcz26_5 : w25.cell? ⟨gb215, 5, none⟩ = some (.int .i64 a0_5) := (blk_cell BK215.out 5).trans rfl; have hfz26_0 := blk_frozen BK215.out 0; have hfz26_1 := blk_frozen BK215.out 1; have hfz26_2 := blk_frozen BK215.out 2; have hfz26_3 := blk_frozen BK215.out 3; have hfz26_4 := blk_frozen BK215.out 4; have hfz26_5 := blk_frozen BK215.out 5))
      go_ret
      exact ⟨by first | rfl | (simp [errW_none, errW_some] <;> rfl) | (simp [*, errW_none, errW_some] <;> rfl), by repeat (first | (with_reducible first | exact HB.out | apply below_alloc | apply pw_below_drewN | apply below_drew1 | refine below_set ?_ GE215.out) | exact HB.out)⟩

end Go.Proofs.YtnjobjogddjelaaGreatDoor.Print
end

section
namespace Go.Proofs.YtnjobjogddjelaaGreatDoor.Print
open Go.RowKit Go.Proofs.YtnjobjogddjelaaGreatDoorX Go.Proofs.YtnjobjogddjelaaGreatDoorW.PrintWords Go.Proofs.YtnjobjogddjelaaGreatDoorW.PrintLast Go.Proofs.YtnjobjogddjelaaGreatDoorW.PrintMore
attribute [local go_sem] max2_int min2_int max_two min_two max_three min_three max_four min_four

/-! ### lex_Print: function 12 -/
def lex_Print.l0 : Nat → List ByteArray → List (S36) → Int → Int → Option (ByteArray)
 | 0, _, _, _, _ => none
 | k + 1, x3, x7, x8, x9 => if x9 < x8 then (if 0 ≤ x9 then (if x9 < (x7.length : Int) then ((lex_one.f ((rd_T36 x7 x9).f0) ((rd_T36 x7 x9).f1) ((rd_T36 x7 x9).f2) ((rd_T36 x7 x9).f3.f0) ((rd_T36 x7 x9).f3.f1) ((rd_T36 x7 x9).f4)).bind fun t221 => (if t221.toList = ([] : List UInt8) then (lex_Print.l0 k x3 x7 x8 (wrap64 (x9 + 1))) else (if x3.length < 8796093022208 then (lex_Print.l0 k (x3 ++ [t221]) x7 x8 (wrap64 (x9 + 1))) else (none)))) else (none)) else (none)) else ((strings_Join.f x3 (⟨#[32]⟩ : ByteArray)).bind fun t225 => (some t225))
def lex_Print.f (k : Nat) (l0 : List (S36)) : Option (ByteArray) := lex_Print.l0 k ([] : List ByteArray) l0 (l0.length : Int) 0
theorem lex_Print.mono_l : ∀ k, (∀ y0 y1 y2 y3, LeO (lex_Print.l0 k y0 y1 y2 y3) (lex_Print.l0 (k + 1) y0 y1 y2 y3))
 | 0 => fun _ _ _ _ r h => by simp [lex_Print.l0] at h
 | k + 1 => by
  have ih0 := lex_Print.mono_l k
  ·intro y0 y1 y2 y3
   unfold lex_Print.l0
   repeat' first
   | (with_reducible exact ih0 _ _ _ _)
   | (with_reducible exact LeO.refl _)
   | (with_reducible exact LeO.none _)
   | (with_reducible refine LeO.ite ?_ ?_)
   | (with_reducible refine LeO.bind ?_ (fun _ => ?_))
   | exact ih0 _ _ _ _
   | exact LeO.none _
   | refine LeO.ite ?_ ?_
   | refine LeO.bind ?_ (fun _ => ?_)
theorem lex_Print.mono : ∀ a0 k, LeO (lex_Print.f k a0) (lex_Print.f (k + 1) a0) := by
 intro a0 k
 have ih0 := lex_Print.mono_l k
 unfold lex_Print.f
 repeat' first
   | (with_reducible exact ih0 _ _ _ _)
   | (with_reducible exact LeO.refl _)
   | (with_reducible exact LeO.none _)
   | (with_reducible refine LeO.ite ?_ ?_)
   | (with_reducible refine LeO.bind ?_ (fun _ => ?_))
   | exact ih0 _ _ _ _
   | exact LeO.none _
   | refine LeO.ite ?_ ?_
   | refine LeO.bind ?_ (fun _ => ?_)
set_option maxHeartbeats 8000000 in
set_option maxRecDepth 100000 in
theorem lex_Print.calls (k : Nat) (A0 : Option Addr) (c0 : Nat) (l0 : List (S36)) (r : ByteArray) (w : World) (hr0 : Kd.C k36 w A0 l0.length l0) (hc0 : l0.length ≤ c0) (hg_ : LaidW w) (h : lex_Print.f k l0 = some r) :
  Calls Tryz.prog 12 #[.slice A0 l0.length c0] w fun e w' => e = .returned (.string r) ∧ Below w.heap.size w w' := by
 have HLW := Aside0.mk hg_
 clear hg_
 have hu36 := Tryz.underlying36
 have HR0 := Aside0.mk hr0
 have HC0 := Aside0.mk hc0
 clear hr0 hc0
 have HB := Aside0.mk (Below.refl w.heap.size w)
 have H : (lex_Print.l0 k ([] : List ByteArray) l0 (l0.length : Int) 0) = some r := h
 clear h
 have H' := Aside0.mk H
 clear H
 go_enter Tryz.func12, Tryz.ntmps12
 go_wp2
 go_loopg [3, 9] k (fun kq v3 v9 w' => ∃ (x3_1 : List ByteArray) (x9_1 : Int), v9 = .int .i64 x9_1 ∧ Aside0 (lex_Print.l0 kq x3_1 l0 (l0.length : Int) x9_1 = some r) ∧ Aside0 (kq ≤ k) ∧ Aside0 (Kd.R Kd.string 9 w' w.heap.size (fun _ => True) v3 x3_1) ∧ Aside0 (Below w.heap.size w w'))
 case atStart => exact ⟨(([] : List ByteArray)), (0), (by first | rfl | (simp; done) | (simp [*]; done)), H', ⟨Nat.le_refl _⟩, ⟨by first | exact Kd.R_nil _ _ _ _ _ | exact Kd.N_nil _ _ _ _ _ | exact Kd.V_nil _ _ _ _ _ | exact Kd.Q_nil _ _ _ _ _ | exact Kd.S_nil _ _ _ _ _⟩, ⟨by repeat (first | (with_reducible first | exact HB.out | apply below_alloc | apply pw_below_drewN | apply below_drew1) | exact HB.out)⟩⟩
 case round =>
  clear H'
  try clear c1
  obtain ⟨x3_1, x9_1, rfl, HA, HK1, HO_3, HB⟩ := hrel
  cases gk with
  | zero => exact absurd HA.out (by simp [lex_Print.l0])
  | succ k1 =>
   have H := HA.out
   clear HA
   simp only [lex_Print.l0] at H
   by_cases c2 : x9_1 < (l0.length : Int)
   ·rw [if_pos c2] at H
    have c2b0 : decide (x9_1 < (l0.length : Int)) = true := decide_eq_true c2
    clear c2
    by_cases c3 : 0 ≤ x9_1
    ·rw [if_pos c3] at H
     have c3b0 : decide (0 ≤ x9_1) = true := decide_eq_true c3
     clear c3
     by_cases c4 : x9_1 < (l0.length : Int)
     ·rw [if_pos c4] at H
      have c4b0 : decide (x9_1 < (l0.length : Int)) = true := decide_eq_true c4
      clear c4
      replace H := Option.bind_eq_some_iff.mp H
      obtain ⟨t221, A50, H⟩ := H
      replace H : (if t221.toList = ([] : List UInt8) then (lex_Print.l0 k1 x3_1 l0 (l0.length : Int) (wrap64 (x9_1 + 1))) else (if x3_1.length < 8796093022208 then (lex_Print.l0 k1 (x3_1 ++ [t221]) l0 (l0.length : Int) (wrap64 (x9_1 + 1))) else (none))) = some r := H
      have A5 := Aside0.mk A50
      clear A50
      by_cases c6 : t221.toList = ([] : List UInt8)
      ·rw [if_pos c6] at H
       have c6b0 : (t221.toList == ([] : List UInt8)) = true := beq_iff_eq.mpr c6
       have c6b1 : (t221.toList != ([] : List UInt8)) = false := bne_eq_false_iff_eq.mpr c6
       clear c6
       have H' := Aside0.mk H
       clear H
       have p219 : 0 ≤ (x9_1 : Int) := of_decide_eq_true (by first | (with_reducible assumption) | assumption)
       have q219 : x9_1 < (l0.length : Int) := of_decide_eq_true (by first | (with_reducible assumption) | assumption)
       obtain ⟨ad219, e219, hx219_0, hx219_1, hx219_2, hx219_3, hx219_4, hx219_5⟩ := at_T36 HR0.out x9_1 p219 q219
       cases e219
       replace hx219_0 := (HB.out.cell (World.block_lt_of_cell? w _ hx219_0)).trans hx219_0
       replace hx219_1 := (HB.out.cell (World.block_lt_of_cell? w _ hx219_1)).trans hx219_1
       replace hx219_2 := (HB.out.cell (World.block_lt_of_cell? w _ hx219_2)).trans hx219_2
       replace hx219_3 := (HB.out.cell (World.block_lt_of_cell? w _ hx219_3)).trans hx219_3
       replace hx219_4 := (HB.out.cell (World.block_lt_of_cell? w _ hx219_4)).trans hx219_4
       replace hx219_5 := (HB.out.cell (World.block_lt_of_cell? w _ hx219_5)).trans hx219_5
       replace p219 := eq_true p219
       replace q219 := eq_true q219
       go_wp2_with (first | ((with_reducible refine gate_dst (N := 5) rfl ?_); refine box_event ?hg (N := 5) ?hd (cs := #[.int .i64 0, .int .i64 0, .string (⟨#[]⟩ : ByteArray), .bool false, .int .i64 0, .int .i64 0]) (t := 36) ?hr ?_; (case hd => rfl); (case hg => rfl); (case hr => first | (go_simp; done) | (go_simp; rfl)); intro gb220 hg w7 hbox hb; have n0_ := Aside0.mk (Kd.R_below (by (with_reducible repeat (first | apply Kd.R_alloc | apply Kd.R_drewN | apply Kd.R_drew)); exact HO_3.out) hb); have n1_ := Aside0.mk (below_step (by repeat (first | (with_reducible first | exact HB.out | apply below_alloc | apply pw_below_drewN | apply below_drew1) | exact HB.out)) hb); have n2_ := Aside0.mk (hbox); have n3_ := Aside0.mk ((by rw [hg]; exact (below_size (by repeat (first | (with_reducible first | exact HB.out | apply below_alloc | apply pw_below_drewN | apply below_drew1) | exact HB.out))) : w.heap.size ≤ gb220)); have n4_ := Aside0.mk ((by rw [hg]; exact (below_size (by repeat (first | (with_reducible first | exact HB.out | apply below_alloc | apply pw_below_drewN | apply below_drew1) | exact HB.out))) : w.heap.size ≤ gb220)); clear HO_3; clear HB; have HO_3 := n0_; have HB := n1_; have BK220 := n2_; have GW220 := n3_; have GE220 := n4_; clear n0_ n1_ n2_ n3_ n4_; clear hb hbox hg; have hcz8_0 : w7.cell? ⟨gb220, 0, none⟩ = some (.int .i64 0) := (blk_cell BK220.out 0).trans rfl; have hcz8_1 : w7.cell? ⟨gb220, 1, none⟩ = some (.int .i64 0) := (blk_cell BK220.out 1).trans rfl; have hcz8_2 : w7.cell? ⟨gb220, 2, none⟩ = some (.string (⟨#[]⟩ : ByteArray)) := (blk_cell BK220.out 2).trans rfl; have hcz8_3 : w7.cell? ⟨gb220, 3, none⟩ = some (.bool false) := (blk_cell BK220.out 3).trans rfl; have hcz8_4 : w7.cell? ⟨gb220, 4, none⟩ = some (.int .i64 0) := (blk_cell BK220.out 4).trans rfl; have hcz8_5 : w7.cell? ⟨gb220, 5, none⟩ = some (.int .i64 0) := (blk_cell BK220.out 5).trans rfl; have hfz8_0 := blk_frozen BK220.out 0; have hfz8_1 := blk_frozen BK220.out 1; have hfz8_2 := blk_frozen BK220.out 2; have hfz8_3 := blk_frozen BK220.out 3; have hfz8_4 := blk_frozen BK220.out 4; have hfz8_5 := blk_frozen BK220.out 5) | ((with_reducible refine gate_callee (f := 20) rfl ?_); refine goesL_ (some 14) rfl rfl Tryz.func20 (by kernel_rfl) rfl #[.agg #[.int .i64 ((rd_T36 l0 x9_1).f0), .int .i64 ((rd_T36 l0 x9_1).f1), .string ((rd_T36 l0 x9_1).f2), .bool ((rd_T36 l0 x9_1).f3.f0), .int .i64 ((rd_T36 l0 x9_1).f3.f1), .int .i64 ((rd_T36 l0 x9_1).f4)]] rfl (by (try simp only [List.map_toArray, List.map_cons, List.map_nil]); first | done | rfl | (simp only [List.length_drop, List.length_take]; rfl)) ?_; (with_reducible refine (lex_one.calls ((rd_T36 l0 x9_1).f0) ((rd_T36 l0 x9_1).f1) ((rd_T36 l0 x9_1).f2) ((rd_T36 l0 x9_1).f3.f0) ((rd_T36 l0 x9_1).f3.f1) ((rd_T36 l0 x9_1).f4) t221 _ ?side1 A5.out).mono ?_); (case side1 => exact LaidW.below HLW.out (by repeat (first | (with_reducible first | exact HB.out | apply below_alloc | apply pw_below_drewN | apply below_drew1) | exact HB.out | (refine below_set ?_ (Aside0.out ?hge); (case hge => assumption))))); rintro e w9 ⟨rfl, hb⟩; refine ⟨_, rfl, ?_⟩; have n0_ := Aside0.mk (Kd.R_below (by (with_reducible repeat (first | apply Kd.R_alloc | apply Kd.R_drewN | apply Kd.R_drew)); exact (Kd.R_mono (Kd.R_far (p := ⟨gb220, 5, none⟩) (Kd.R_far (p := ⟨gb220, 4, none⟩) (Kd.R_far (p := ⟨gb220, 3, none⟩) (Kd.R_far (p := ⟨gb220, 2, none⟩) (Kd.R_far (p := ⟨gb220, 1, none⟩) (Kd.R_far (p := ⟨gb220, 0, none⟩) (Kd.R_types HO_3.out BK220.out (by decide)) (fun _ hk => hk.2) (.int .i64 ((rd_T36 l0 x9_1).f0))) (fun _ hk => hk.2) (.int .i64 ((rd_T36 l0 x9_1).f1))) (fun _ hk => hk.2) (.string ((rd_T36 l0 x9_1).f2))) (fun _ hk => hk.2) (.bool ((rd_T36 l0 x9_1).f3.f0))) (fun _ hk => hk.2) (.int .i64 ((rd_T36 l0 x9_1).f3.f1))) (fun _ hk => hk.2) (.int .i64 ((rd_T36 l0 x9_1).f4))) (fun _ h_ => h_.1))) hb); have n1_ := Aside0.mk (blk_below (g := gb220) (o := .cells #[.int .i64 ((rd_T36 l0 x9_1).f0), .int .i64 ((rd_T36 l0 x9_1).f1), .string ((rd_T36 l0 x9_1).f2), .bool ((rd_T36 l0 x9_1).f3.f0), .int .i64 ((rd_T36 l0 x9_1).f3.f1), .int .i64 ((rd_T36 l0 x9_1).f4)] 36 (0, 0)) (by (with_reducible repeat (first | refine blk_drewN ?_ _ | refine blk_drew ?_ | refine blk_alloc ?_ _)); refine blk_put (cs := #[.int .i64 ((rd_T36 l0 x9_1).f0), .int .i64 ((rd_T36 l0 x9_1).f1), .string ((rd_T36 l0 x9_1).f2), .bool ((rd_T36 l0 x9_1).f3.f0), .int .i64 ((rd_T36 l0 x9_1).f3.f1), .int .i64 0]) ?_ 5 _ rfl; (with_reducible repeat (first | refine blk_drewN ?_ _ | refine blk_drew ?_ | refine blk_alloc ?_ _)); refine blk_put (cs := #[.int .i64 ((rd_T36 l0 x9_1).f0), .int .i64 ((rd_T36 l0 x9_1).f1), .string ((rd_T36 l0 x9_1).f2), .bool ((rd_T36 l0 x9_1).f3.f0), .int .i64 0, .int .i64 0]) ?_ 4 _ rfl; (with_reducible repeat (first | refine blk_drewN ?_ _ | refine blk_drew ?_ | refine blk_alloc ?_ _)); refine blk_put (cs := #[.int .i64 ((rd_T36 l0 x9_1).f0), .int .i64 ((rd_T36 l0 x9_1).f1), .string ((rd_T36 l0 x9_1).f2), .bool false, .int .i64 0, .int .i64 0]) ?_ 3 _ rfl; (with_reducible repeat (first | refine blk_drewN ?_ _ | refine blk_drew ?_ | refine blk_alloc ?_ _)); refine blk_put (cs := #[.int .i64 ((rd_T36 l0 x9_1).f0), .int .i64 ((rd_T36 l0 x9_1).f1), .string (⟨#[]⟩ : ByteArray), .bool false, .int .i64 0, .int .i64 0]) ?_ 2 _ rfl; (with_reducible repeat (first | refine blk_drewN ?_ _ | refine blk_drew ?_ | refine blk_alloc ?_ _)); refine blk_put (cs := #[.int .i64 ((rd_T36 l0 x9_1).f0), .int .i64 0, .string (⟨#[]⟩ : ByteArray), .bool false, .int .i64 0, .int .i64 0]) ?_ 1 _ rfl; (with_reducible repeat (first | refine blk_drewN ?_ _ | refine blk_drew ?_ | refine blk_alloc ?_ _)); refine blk_put (cs := #[.int .i64 0, .int .i64 0, .string (⟨#[]⟩ : ByteArray), .bool false, .int .i64 0, .int .i64 0]) ?_ 0 _ rfl; (with_reducible repeat (first | refine blk_drewN ?_ _ | refine blk_drew ?_ | refine blk_alloc ?_ _)); exact BK220.out) hb); have n2_ := Aside0.mk (below_step (by repeat (first | (with_reducible first | exact HB.out | apply below_alloc | apply pw_below_drewN | apply below_drew1 | refine below_set ?_ GE220.out) | exact HB.out)) hb); clear HO_3; clear BK220; clear HB; have HO_3 := n0_; have BK220 := n1_; have HB := n2_; clear n0_ n1_ n2_; (try clear hb); (try clear hb2); (try clear hk); (try clear hi)))
       go_roundg k1
       case measure => have := HK1.out; omega
       case rel => exact ⟨(x3_1), (wrap64 (x9_1 + 1)), (by first | rfl | (simp; done) | (simp [*]; done)), H', ⟨by have := HK1.out; omega⟩, ⟨by (with_reducible repeat (first | apply Kd.R_alloc | apply Kd.R_drewN | apply Kd.R_drew)); exact HO_3.out⟩, ⟨by repeat (first | (with_reducible first | exact HB.out | apply below_alloc | apply pw_below_drewN | apply below_drew1 | refine below_set ?_ GE220.out) | exact HB.out)⟩⟩
      ·rw [if_neg c6] at H
       have c6b0 : (t221.toList == ([] : List UInt8)) = false := beq_eq_false_iff_ne.mpr c6
       have c6b1 : (t221.toList != ([] : List UInt8)) = true := bne_iff_ne.mpr c6
       by_cases c10 : x3_1.length < 8796093022208
       ·rw [if_pos c10] at H
        have LMc10 := Aside0.mk c10
        clear c10
        obtain ⟨y222, hy222⟩ : ∃ y_ : List ByteArray, y_ = (x3_1 ++ [t221]) := ⟨_, rfl⟩
        replace H : (lex_Print.l0 k1 y222 l0 (l0.length : Int) (wrap64 (x9_1 + 1))) = some r := by first | (rw [hy222]; with_reducible exact H) | (have H2_ := (Option.bind_some _ _).symm.trans H; rw [hy222]; with_reducible exact H2_) | (have H2_ := (Option.bind_some _ _).symm.trans H; with_reducible exact H2_) | with_reducible exact H | (rw [hy222]; exact H) | exact H
        have Ny222 := Aside0.mk hy222
        clear hy222
        have H' := Aside0.mk H
        clear H
        have p219 : 0 ≤ (x9_1 : Int) := of_decide_eq_true (by first | (with_reducible assumption) | assumption)
        have q219 : x9_1 < (l0.length : Int) := of_decide_eq_true (by first | (with_reducible assumption) | assumption)
        obtain ⟨ad219, e219, hx219_0, hx219_1, hx219_2, hx219_3, hx219_4, hx219_5⟩ := at_T36 HR0.out x9_1 p219 q219
        cases e219
        replace hx219_0 := (HB.out.cell (World.block_lt_of_cell? w _ hx219_0)).trans hx219_0
        replace hx219_1 := (HB.out.cell (World.block_lt_of_cell? w _ hx219_1)).trans hx219_1
        replace hx219_2 := (HB.out.cell (World.block_lt_of_cell? w _ hx219_2)).trans hx219_2
        replace hx219_3 := (HB.out.cell (World.block_lt_of_cell? w _ hx219_3)).trans hx219_3
        replace hx219_4 := (HB.out.cell (World.block_lt_of_cell? w _ hx219_4)).trans hx219_4
        replace hx219_5 := (HB.out.cell (World.block_lt_of_cell? w _ hx219_5)).trans hx219_5
        replace p219 := eq_true p219
        replace q219 := eq_true q219
        go_wp2_with (first | ((with_reducible refine gate_dst (N := 5) rfl ?_); refine box_event ?hg (N := 5) ?hd (cs := #[.int .i64 0, .int .i64 0, .string (⟨#[]⟩ : ByteArray), .bool false, .int .i64 0, .int .i64 0]) (t := 36) ?hr ?_; (case hd => rfl); (case hg => rfl); (case hr => first | (go_simp; done) | (go_simp; rfl)); intro gb220 hg w11 hbox hb; have n0_ := Aside0.mk (Kd.R_below (by (with_reducible repeat (first | apply Kd.R_alloc | apply Kd.R_drewN | apply Kd.R_drew)); exact HO_3.out) hb); have n1_ := Aside0.mk (below_step (by repeat (first | (with_reducible first | exact HB.out | apply below_alloc | apply pw_below_drewN | apply below_drew1) | exact HB.out)) hb); have n2_ := Aside0.mk (hbox); have n3_ := Aside0.mk ((by rw [hg]; exact (below_size (by repeat (first | (with_reducible first | exact HB.out | apply below_alloc | apply pw_below_drewN | apply below_drew1) | exact HB.out))) : w.heap.size ≤ gb220)); have n4_ := Aside0.mk ((by rw [hg]; exact (below_size (by repeat (first | (with_reducible first | exact HB.out | apply below_alloc | apply pw_below_drewN | apply below_drew1) | exact HB.out))) : w.heap.size ≤ gb220)); clear HO_3; clear HB; have HO_3 := n0_; have HB := n1_; have BK220 := n2_; have GW220 := n3_; have GE220 := n4_; clear n0_ n1_ n2_ n3_ n4_; clear hb hbox hg; have hcz12_0 : w11.cell? ⟨gb220, 0, none⟩ = some (.int .i64 0) := (blk_cell BK220.out 0).trans rfl; have hcz12_1 : w11.cell? ⟨gb220, 1, none⟩ = some (.int .i64 0) := (blk_cell BK220.out 1).trans rfl; have hcz12_2 : w11.cell? ⟨gb220, 2, none⟩ = some (.string (⟨#[]⟩ : ByteArray)) := (blk_cell BK220.out 2).trans rfl; have hcz12_3 : w11.cell? ⟨gb220, 3, none⟩ = some (.bool false) := (blk_cell BK220.out 3).trans rfl; have hcz12_4 : w11.cell? ⟨gb220, 4, none⟩ = some (.int .i64 0) := (blk_cell BK220.out 4).trans rfl; have hcz12_5 : w11.cell? ⟨gb220, 5, none⟩ = some (.int .i64 0) := (blk_cell BK220.out 5).trans rfl; have hfz12_0 := blk_frozen BK220.out 0; have hfz12_1 := blk_frozen BK220.out 1; have hfz12_2 := blk_frozen BK220.out 2; have hfz12_3 := blk_frozen BK220.out 3; have hfz12_4 := blk_frozen BK220.out 4; have hfz12_5 := blk_frozen BK220.out 5) | ((with_reducible refine gate_callee (f := 20) rfl ?_); refine goesL_ (some 14) rfl rfl Tryz.func20 (by kernel_rfl) rfl #[.agg #[.int .i64 ((rd_T36 l0 x9_1).f0), .int .i64 ((rd_T36 l0 x9_1).f1), .string ((rd_T36 l0 x9_1).f2), .bool ((rd_T36 l0 x9_1).f3.f0), .int .i64 ((rd_T36 l0 x9_1).f3.f1), .int .i64 ((rd_T36 l0 x9_1).f4)]] rfl (by (try simp only [List.map_toArray, List.map_cons, List.map_nil]); first | done | rfl | (simp only [List.length_drop, List.length_take]; rfl)) ?_; (with_reducible refine (lex_one.calls ((rd_T36 l0 x9_1).f0) ((rd_T36 l0 x9_1).f1) ((rd_T36 l0 x9_1).f2) ((rd_T36 l0 x9_1).f3.f0) ((rd_T36 l0 x9_1).f3.f1) ((rd_T36 l0 x9_1).f4) t221 _ ?side1 A5.out).mono ?_); (case side1 => exact LaidW.below HLW.out (by repeat (first | (with_reducible first | exact HB.out | apply below_alloc | apply pw_below_drewN | apply below_drew1) | exact HB.out | (refine below_set ?_ (Aside0.out ?hge); (case hge => assumption))))); rintro e w13 ⟨rfl, hb⟩; refine ⟨_, rfl, ?_⟩; have n0_ := Aside0.mk (Kd.R_below (by (with_reducible repeat (first | apply Kd.R_alloc | apply Kd.R_drewN | apply Kd.R_drew)); exact (Kd.R_mono (Kd.R_far (p := ⟨gb220, 5, none⟩) (Kd.R_far (p := ⟨gb220, 4, none⟩) (Kd.R_far (p := ⟨gb220, 3, none⟩) (Kd.R_far (p := ⟨gb220, 2, none⟩) (Kd.R_far (p := ⟨gb220, 1, none⟩) (Kd.R_far (p := ⟨gb220, 0, none⟩) (Kd.R_types HO_3.out BK220.out (by decide)) (fun _ hk => hk.2) (.int .i64 ((rd_T36 l0 x9_1).f0))) (fun _ hk => hk.2) (.int .i64 ((rd_T36 l0 x9_1).f1))) (fun _ hk => hk.2) (.string ((rd_T36 l0 x9_1).f2))) (fun _ hk => hk.2) (.bool ((rd_T36 l0 x9_1).f3.f0))) (fun _ hk => hk.2) (.int .i64 ((rd_T36 l0 x9_1).f3.f1))) (fun _ hk => hk.2) (.int .i64 ((rd_T36 l0 x9_1).f4))) (fun _ h_ => h_.1))) hb); have n1_ := Aside0.mk (blk_below (g := gb220) (o := .cells #[.int .i64 ((rd_T36 l0 x9_1).f0), .int .i64 ((rd_T36 l0 x9_1).f1), .string ((rd_T36 l0 x9_1).f2), .bool ((rd_T36 l0 x9_1).f3.f0), .int .i64 ((rd_T36 l0 x9_1).f3.f1), .int .i64 ((rd_T36 l0 x9_1).f4)] 36 (0, 0)) (by (with_reducible repeat (first | refine blk_drewN ?_ _ | refine blk_drew ?_ | refine blk_alloc ?_ _)); refine blk_put (cs := #[.int .i64 ((rd_T36 l0 x9_1).f0), .int .i64 ((rd_T36 l0 x9_1).f1), .string ((rd_T36 l0 x9_1).f2), .bool ((rd_T36 l0 x9_1).f3.f0), .int .i64 ((rd_T36 l0 x9_1).f3.f1), .int .i64 0]) ?_ 5 _ rfl; (with_reducible repeat (first | refine blk_drewN ?_ _ | refine blk_drew ?_ | refine blk_alloc ?_ _)); refine blk_put (cs := #[.int .i64 ((rd_T36 l0 x9_1).f0), .int .i64 ((rd_T36 l0 x9_1).f1), .string ((rd_T36 l0 x9_1).f2), .bool ((rd_T36 l0 x9_1).f3.f0), .int .i64 0, .int .i64 0]) ?_ 4 _ rfl; (with_reducible repeat (first | refine blk_drewN ?_ _ | refine blk_drew ?_ | refine blk_alloc ?_ _)); refine blk_put (cs := #[.int .i64 ((rd_T36 l0 x9_1).f0), .int .i64 ((rd_T36 l0 x9_1).f1), .string ((rd_T36 l0 x9_1).f2), .bool false, .int .i64 0, .int .i64 0]) ?_ 3 _ rfl; (with_reducible repeat (first | refine blk_drewN ?_ _ | refine blk_drew ?_ | refine blk_alloc ?_ _)); refine blk_put (cs := #[.int .i64 ((rd_T36 l0 x9_1).f0), .int .i64 ((rd_T36 l0 x9_1).f1), .string (⟨#[]⟩ : ByteArray), .bool false, .int .i64 0, .int .i64 0]) ?_ 2 _ rfl; (with_reducible repeat (first | refine blk_drewN ?_ _ | refine blk_drew ?_ | refine blk_alloc ?_ _)); refine blk_put (cs := #[.int .i64 ((rd_T36 l0 x9_1).f0), .int .i64 0, .string (⟨#[]⟩ : ByteArray), .bool false, .int .i64 0, .int .i64 0]) ?_ 1 _ rfl; (with_reducible repeat (first | refine blk_drewN ?_ _ | refine blk_drew ?_ | refine blk_alloc ?_ _)); refine blk_put (cs := #[.int .i64 0, .int .i64 0, .string (⟨#[]⟩ : ByteArray), .bool false, .int .i64 0, .int .i64 0]) ?_ 0 _ rfl; (with_reducible repeat (first | refine blk_drewN ?_ _ | refine blk_drew ?_ | refine blk_alloc ?_ _)); exact BK220.out) hb); have n2_ := Aside0.mk (below_step (by repeat (first | (with_reducible first | exact HB.out | apply below_alloc | apply pw_below_drewN | apply below_drew1 | refine below_set ?_ GE220.out) | exact HB.out)) hb); clear HO_3; clear BK220; clear HB; have HO_3 := n0_; have BK220 := n1_; have HB := n2_; clear n0_ n1_ n2_; (try clear hb); (try clear hb2); (try clear hk); (try clear hi)) | ((with_reducible refine gate_builtin (b := .append) (xs := #[.tmp 17, .tmp 19]) rfl ?_); at_builtin; refine Kd.R_append Kd.string (w0 := w) w.heap.size rfl (.tmp 17) (.tmp 19) 50 9 (.string ⟨#[]⟩) 16 rfl Tryz.underlying50 info9 rfl (by decide) (by omega) u3 x3_1 t221 [.string t221] (fun _ => True) (fun _ => False) rfl rfl ?aP (fun _ hk => hk.elim) ?aF ?aO ?aB ?aS ?aL ?_; (case aP => exact rfl); (case aB => exact (by repeat (first | (with_reducible first | exact HB.out | apply below_alloc | apply pw_below_drewN | apply below_drew1 | refine below_set ?_ GE220.out) | exact HB.out))); (case aF => exact (fun _ _ => trivial)); (case aO => exact (by (with_reducible repeat (first | apply Kd.R_alloc | apply Kd.R_drewN | apply Kd.R_drew)); exact HO_3.out)); (case aS => exact (below_size (by repeat (first | (with_reducible first | exact HB.out | apply below_alloc | apply pw_below_drewN | apply below_drew1 | refine below_set ?_ GE220.out) | exact HB.out)))); (case aL => have := LMc10.out; omega); intro v223 w14 ho hb hg hat; rw [← Ny222.out] at ho; have n0_ := Aside0.mk (blk_grown (g := gb220) (o := .cells #[.int .i64 ((rd_T36 l0 x9_1).f0), .int .i64 ((rd_T36 l0 x9_1).f1), .string ((rd_T36 l0 x9_1).f2), .bool ((rd_T36 l0 x9_1).f3.f0), .int .i64 ((rd_T36 l0 x9_1).f3.f1), .int .i64 ((rd_T36 l0 x9_1).f4)] 36 (0, 0)) (by (with_reducible repeat (first | refine blk_drewN ?_ _ | refine blk_drew ?_ | refine blk_alloc ?_ _)); exact BK220.out) hg (Kd.R_ne HO_3.out BK220.out (by decide))); have n1_ := Aside0.mk (hb); have n2_ := Aside0.mk (ho); clear BK220; clear HB; clear HO_3; have BK220 := n0_; have HB := n1_; have HO224 := n2_; clear n0_ n1_ n2_; clear ho hb hg hat))
        go_roundg k1
        case measure => have := HK1.out; omega
        case rel => exact ⟨(y222), (wrap64 (x9_1 + 1)), (by first | rfl | (simp; done) | (simp [*]; done)), H', ⟨by have := HK1.out; omega⟩, ⟨by (with_reducible repeat (first | apply Kd.R_alloc | apply Kd.R_drewN | apply Kd.R_drew)); exact HO224.out⟩, ⟨by repeat (first | (with_reducible first | exact HB.out | apply below_alloc | apply pw_below_drewN | apply below_drew1 | refine below_set ?_ GE220.out) | exact HB.out)⟩⟩
       ·rw [if_neg c10] at H
        exact absurd H (by simp)
     ·rw [if_neg c4] at H
      exact absurd H (by simp)
    ·rw [if_neg c3] at H
     exact absurd H (by simp)
   ·rw [if_neg c2] at H
    have c2b0 : decide (x9_1 < (l0.length : Int)) = false := decide_eq_false c2
    clear c2
    replace H := Option.bind_eq_some_iff.mp H
    obtain ⟨t225, A150, H⟩ := H
    replace H : (some t225) = some r := H
    have A15 := Aside0.mk A150
    clear A150
    obtain rfl := Option.some.inj H
    obtain ⟨Ao16, co16, eo16⟩ := Kd.R_slice HO_3.out
    subst eo16
    go_wp2_with (first | ((with_reducible refine gate_callee (f := 21) rfl ?_); refine goesL_ (some 23) rfl rfl Tryz.func21 (by kernel_rfl) rfl #[.slice Ao16 x3_1.length co16, .string (⟨#[32]⟩ : ByteArray)] rfl (by (try simp only [List.map_toArray, List.map_cons, List.map_nil]); first | done | rfl | (simp only [List.length_drop, List.length_take]; rfl)) ?_; (with_reducible refine (strings_Join.calls _ _ x3_1 (⟨#[32]⟩ : ByteArray) t225 _ ?side1 ?side2 A15.out).mono ?_); (case side1 => repeat (first | exact (Kd.R_reads' HO_3.out).2.2 | (with_reducible refine Kd.C_alloc ?_ _) | (with_reducible refine Kd.C_drewN ?_ _) | (with_reducible refine Kd.C_drew ?_))); (case side2 => exact (Kd.R_reads' HO_3.out).2.1); rintro e w17 ⟨rfl, hb⟩; refine ⟨_, rfl, ?_⟩; have n0_ := Aside0.mk (Kd.R_below (by (with_reducible repeat (first | apply Kd.R_alloc | apply Kd.R_drewN | apply Kd.R_drew)); exact HO_3.out) hb); have n1_ := Aside0.mk (below_step (by repeat (first | (with_reducible first | exact HB.out | apply below_alloc | apply pw_below_drewN | apply below_drew1) | exact HB.out)) hb); clear HO_3; clear HB; have HO_3 := n0_; have HB := n1_; clear n0_ n1_; (try clear hb); (try clear hb2); (try clear hk); (try clear hi)))
    go_ret
    exact ⟨by first | rfl | (simp [errW_none, errW_some] <;> rfl) | (simp [*, errW_none, errW_some] <;> rfl), by repeat (first | (with_reducible first | exact HB.out | apply below_alloc | apply pw_below_drewN | apply below_drew1) | exact HB.out)⟩

end Go.Proofs.YtnjobjogddjelaaGreatDoor.Print
end

section
namespace Go.Proofs.YtnjobjogddjelaaGreatDoor.Print
open Go.RowKit Go.Proofs.YtnjobjogddjelaaGreatDoorX Go.Proofs.YtnjobjogddjelaaGreatDoorW.PrintWords Go.Proofs.YtnjobjogddjelaaGreatDoorW.PrintLast Go.Proofs.YtnjobjogddjelaaGreatDoorW.PrintMore
attribute [local go_sem] max2_int min2_int max_two min_two max_three min_three max_four min_four

/-! ### spillwaylaw7_known: function 8 -/
def spillwaylaw7_known.f (k : Nat)  : Option (Bool) := (lex_Scan.f k (⟨#[114, 97, 116, 101, 40, 120, 91, 53, 116, 93, 41, 32, 62, 61, 32, 49, 46, 53]⟩ : ByteArray)).bind fun bt226 => ((lex_Scan.f k (⟨#[97, 32, 36]⟩ : ByteArray)).bind fun bt231 => (if bt226.2.2 = 0 then (if bt226.2.1 = 0 then (if (bt226.1.length : Int) = 10 then (if 4 < (bt226.1.length : Int) then (if ((rd_T36 bt226.1 4).f0) = 3 then (if ((rd_T36 bt226.1 4).f4) = 5 then (if 7 < (bt226.1.length : Int) then (if ((rd_T36 bt226.1 7).f2).toList = ([62, 61] : List UInt8) then (if 8 < (bt226.1.length : Int) then (if ((rd_T36 bt226.1 8).f3.f1) = 1500000 then (if 9 < (bt226.1.length : Int) then (if ((rd_T36 bt226.1 9).f0) = 0 then (if bt231.2.2 = 70 then (if bt231.2.1 = 2 then ((lex_Print.f k bt226.1).bind fun t241 => (some (t241.toList == ([114, 97, 116, 101, 32, 40, 32, 120, 32, 91, 32, 53, 116, 32, 93, 32, 41, 32, 62, 61, 32, 49, 46, 53] : List UInt8)))) else (none)) else (none)) else (none)) else (none)) else (none)) else (none)) else (none)) else (none)) else (none)) else (none)) else (none)) else (none)) else (none)) else (none)))
theorem spillwaylaw7_known.mono : ∀ k, LeO (spillwaylaw7_known.f k ) (spillwaylaw7_known.f (k + 1) ) := by
 intro  k
 unfold spillwaylaw7_known.f
 repeat' first
   | (with_reducible exact lex_Print.mono _ _)
   | (with_reducible exact lex_Scan.mono _ _)
   | (with_reducible exact LeO.refl _)
   | (with_reducible exact LeO.none _)
   | (with_reducible refine LeO.ite ?_ ?_)
   | (with_reducible refine LeO.bind ?_ (fun _ => ?_))
   | exact lex_Print.mono _ _
   | exact lex_Scan.mono _ _
   | exact LeO.none _
   | refine LeO.ite ?_ ?_
   | refine LeO.bind ?_ (fun _ => ?_)
set_option maxHeartbeats 8000000 in
set_option maxRecDepth 100000 in
theorem spillwaylaw7_known.calls (k : Nat)  (r : Bool) (w : World) (hg_ : LaidW w) (h : spillwaylaw7_known.f k  = some r) :
  Calls Tryz.prog 8 #[] w fun e w' => e = .returned (.bool r) ∧ Below w.heap.size w w' := by
 have HLW := Aside0.mk hg_
 clear hg_
 have HB := Aside0.mk (Below.refl w.heap.size w)
 have H : ((lex_Scan.f k (⟨#[114, 97, 116, 101, 40, 120, 91, 53, 116, 93, 41, 32, 62, 61, 32, 49, 46, 53]⟩ : ByteArray)).bind fun bt226 => ((lex_Scan.f k (⟨#[97, 32, 36]⟩ : ByteArray)).bind fun bt231 => (if bt226.2.2 = 0 then (if bt226.2.1 = 0 then (if (bt226.1.length : Int) = 10 then (if 4 < (bt226.1.length : Int) then (if ((rd_T36 bt226.1 4).f0) = 3 then (if ((rd_T36 bt226.1 4).f4) = 5 then (if 7 < (bt226.1.length : Int) then (if ((rd_T36 bt226.1 7).f2).toList = ([62, 61] : List UInt8) then (if 8 < (bt226.1.length : Int) then (if ((rd_T36 bt226.1 8).f3.f1) = 1500000 then (if 9 < (bt226.1.length : Int) then (if ((rd_T36 bt226.1 9).f0) = 0 then (if bt231.2.2 = 70 then (if bt231.2.1 = 2 then ((lex_Print.f k bt226.1).bind fun t241 => (some (t241.toList == ([114, 97, 116, 101, 32, 40, 32, 120, 32, 91, 32, 53, 116, 32, 93, 32, 41, 32, 62, 61, 32, 49, 46, 53] : List UInt8)))) else (none)) else (none)) else (none)) else (none)) else (none)) else (none)) else (none)) else (none)) else (none)) else (none)) else (none)) else (none)) else (none)) else (none)))) = some r := h
 clear h
 replace H := Option.bind_eq_some_iff.mp H
 obtain ⟨⟨t226, t227, t228⟩, A10, H⟩ := H
 replace H : ((lex_Scan.f k (⟨#[97, 32, 36]⟩ : ByteArray)).bind fun bt231 => (if t228 = 0 then (if t227 = 0 then (if (t226.length : Int) = 10 then (if 4 < (t226.length : Int) then (if ((rd_T36 t226 4).f0) = 3 then (if ((rd_T36 t226 4).f4) = 5 then (if 7 < (t226.length : Int) then (if ((rd_T36 t226 7).f2).toList = ([62, 61] : List UInt8) then (if 8 < (t226.length : Int) then (if ((rd_T36 t226 8).f3.f1) = 1500000 then (if 9 < (t226.length : Int) then (if ((rd_T36 t226 9).f0) = 0 then (if bt231.2.2 = 70 then (if bt231.2.1 = 2 then ((lex_Print.f k t226).bind fun t241 => (some (t241.toList == ([114, 97, 116, 101, 32, 40, 32, 120, 32, 91, 32, 53, 116, 32, 93, 32, 41, 32, 62, 61, 32, 49, 46, 53] : List UInt8)))) else (none)) else (none)) else (none)) else (none)) else (none)) else (none)) else (none)) else (none)) else (none)) else (none)) else (none)) else (none)) else (none)) else (none))) = some r := H
 have A1 := Aside0.mk A10
 clear A10
 replace H := Option.bind_eq_some_iff.mp H
 obtain ⟨⟨t231, t232, t233⟩, A20, H⟩ := H
 replace H : (if t228 = 0 then (if t227 = 0 then (if (t226.length : Int) = 10 then (if 4 < (t226.length : Int) then (if ((rd_T36 t226 4).f0) = 3 then (if ((rd_T36 t226 4).f4) = 5 then (if 7 < (t226.length : Int) then (if ((rd_T36 t226 7).f2).toList = ([62, 61] : List UInt8) then (if 8 < (t226.length : Int) then (if ((rd_T36 t226 8).f3.f1) = 1500000 then (if 9 < (t226.length : Int) then (if ((rd_T36 t226 9).f0) = 0 then (if t233 = 70 then (if t232 = 2 then ((lex_Print.f k t226).bind fun t241 => (some (t241.toList == ([114, 97, 116, 101, 32, 40, 32, 120, 32, 91, 32, 53, 116, 32, 93, 32, 41, 32, 62, 61, 32, 49, 46, 53] : List UInt8)))) else (none)) else (none)) else (none)) else (none)) else (none)) else (none)) else (none)) else (none)) else (none)) else (none)) else (none)) else (none)) else (none)) else (none)) = some r := H
 have A2 := Aside0.mk A20
 clear A20
 by_cases c3 : t228 = 0
 ·rw [if_pos c3] at H
  have c3b0 : (t228 == 0) = true := beq_iff_eq.mpr c3
  have c3b1 : (t228 != 0) = false := bne_eq_false_iff_eq.mpr c3
  clear c3
  by_cases c4 : t227 = 0
  ·rw [if_pos c4] at H
   have c4b0 : (t227 == 0) = true := beq_iff_eq.mpr c4
   have c4b1 : (t227 != 0) = false := bne_eq_false_iff_eq.mpr c4
   clear c4
   by_cases c5 : (t226.length : Int) = 10
   ·rw [if_pos c5] at H
    have c5b0 : ((t226.length : Int) == 10) = true := beq_iff_eq.mpr c5
    have c5b1 : ((t226.length : Int) != 10) = false := bne_eq_false_iff_eq.mpr c5
    clear c5
    by_cases c6 : 4 < (t226.length : Int)
    ·rw [if_pos c6] at H
     have c6b0 : decide (4 < (t226.length : Int)) = true := decide_eq_true c6
     have c6b1 : decide (4 < t226.length) = true := decide_eq_true (by omega)
     clear c6
     by_cases c7 : ((rd_T36 t226 4).f0) = 3
     ·rw [if_pos c7] at H
      have c7b0 : (((rd_T36 t226 4).f0) == 3) = true := beq_iff_eq.mpr c7
      have c7b1 : (((rd_T36 t226 4).f0) != 3) = false := bne_eq_false_iff_eq.mpr c7
      clear c7
      by_cases c8 : ((rd_T36 t226 4).f4) = 5
      ·rw [if_pos c8] at H
       have c8b0 : (((rd_T36 t226 4).f4) == 5) = true := beq_iff_eq.mpr c8
       have c8b1 : (((rd_T36 t226 4).f4) != 5) = false := bne_eq_false_iff_eq.mpr c8
       clear c8
       by_cases c9 : 7 < (t226.length : Int)
       ·rw [if_pos c9] at H
        have c9b0 : decide (7 < (t226.length : Int)) = true := decide_eq_true c9
        have c9b1 : decide (7 < t226.length) = true := decide_eq_true (by omega)
        clear c9
        by_cases c10 : ((rd_T36 t226 7).f2).toList = ([62, 61] : List UInt8)
        ·rw [if_pos c10] at H
         have c10b0 : (((rd_T36 t226 7).f2).toList == ([62, 61] : List UInt8)) = true := beq_iff_eq.mpr c10
         have c10b1 : (((rd_T36 t226 7).f2).toList != ([62, 61] : List UInt8)) = false := bne_eq_false_iff_eq.mpr c10
         clear c10
         by_cases c11 : 8 < (t226.length : Int)
         ·rw [if_pos c11] at H
          have c11b0 : decide (8 < (t226.length : Int)) = true := decide_eq_true c11
          have c11b1 : decide (8 < t226.length) = true := decide_eq_true (by omega)
          clear c11
          by_cases c12 : ((rd_T36 t226 8).f3.f1) = 1500000
          ·rw [if_pos c12] at H
           have c12b0 : (((rd_T36 t226 8).f3.f1) == 1500000) = true := beq_iff_eq.mpr c12
           have c12b1 : (((rd_T36 t226 8).f3.f1) != 1500000) = false := bne_eq_false_iff_eq.mpr c12
           clear c12
           by_cases c13 : 9 < (t226.length : Int)
           ·rw [if_pos c13] at H
            have c13b0 : decide (9 < (t226.length : Int)) = true := decide_eq_true c13
            have c13b1 : decide (9 < t226.length) = true := decide_eq_true (by omega)
            clear c13
            by_cases c14 : ((rd_T36 t226 9).f0) = 0
            ·rw [if_pos c14] at H
             have c14b0 : (((rd_T36 t226 9).f0) == 0) = true := beq_iff_eq.mpr c14
             have c14b1 : (((rd_T36 t226 9).f0) != 0) = false := bne_eq_false_iff_eq.mpr c14
             clear c14
             by_cases c15 : t233 = 70
             ·rw [if_pos c15] at H
              have c15b0 : (t233 == 70) = true := beq_iff_eq.mpr c15
              have c15b1 : (t233 != 70) = false := bne_eq_false_iff_eq.mpr c15
              clear c15
              by_cases c16 : t232 = 2
              ·rw [if_pos c16] at H
               have c16b0 : (t232 == 2) = true := beq_iff_eq.mpr c16
               have c16b1 : (t232 != 2) = false := bne_eq_false_iff_eq.mpr c16
               clear c16
               replace H := Option.bind_eq_some_iff.mp H
               obtain ⟨t241, A170, H⟩ := H
               replace H : (some (t241.toList == ([114, 97, 116, 101, 32, 40, 32, 120, 32, 91, 32, 53, 116, 32, 93, 32, 41, 32, 62, 61, 32, 49, 46, 53] : List UInt8))) = some r := H
               have A17 := Aside0.mk A170
               clear A170
               obtain rfl := Option.some.inj H
               go_enter Tryz.func8, Tryz.ntmps8
               go_wp2_with (first | ((with_reducible refine gate_callee (f := 9) rfl ?_); refine goesL_ (some 8) rfl rfl Tryz.func9 (by kernel_rfl) rfl #[.string (⟨#[114, 97, 116, 101, 40, 120, 91, 53, 116, 93, 41, 32, 62, 61, 32, 49, 46, 53]⟩ : ByteArray)] rfl (by (try simp only [List.map_toArray, List.map_cons, List.map_nil]); first | done | rfl | (simp only [List.length_drop, List.length_take]; rfl)) ?_; (with_reducible refine (lex_Scan.calls k (⟨#[114, 97, 116, 101, 40, 120, 91, 53, 116, 93, 41, 32, 62, 61, 32, 49, 46, 53]⟩ : ByteArray) t226 t227 t228 _ ?side1 A1.out).mono ?_); (case side1 => exact LaidW.below HLW.out (by repeat (first | (with_reducible first | exact HB.out | apply below_alloc | apply pw_below_drewN | apply below_drew1) | exact HB.out | (refine below_set ?_ (Aside0.out ?hge); (case hge => assumption))))); rintro e w18 ⟨v229, rfl, ho0, hb⟩; refine ⟨_, rfl, ?_⟩; have n0_ := Aside0.mk (Kd.R_lower ho0 (below_size (by repeat (first | (with_reducible first | exact HB.out | apply below_alloc | apply pw_below_drewN | apply below_drew1) | exact HB.out)))); have n1_ := Aside0.mk (below_step (by repeat (first | (with_reducible first | exact HB.out | apply below_alloc | apply pw_below_drewN | apply below_drew1) | exact HB.out)) hb); clear HB; have HO230 := n0_; have HB := n1_; clear n0_ n1_; (try clear hb); (try clear hb2); (try clear hk); (try clear hi); (try clear ho0)) | ((with_reducible refine gate_callee (f := 9) rfl ?_); refine goesL_ (some 13) rfl rfl Tryz.func9 (by kernel_rfl) rfl #[.string (⟨#[97, 32, 36]⟩ : ByteArray)] rfl (by (try simp only [List.map_toArray, List.map_cons, List.map_nil]); first | done | rfl | (simp only [List.length_drop, List.length_take]; rfl)) ?_; (with_reducible refine (lex_Scan.calls k (⟨#[97, 32, 36]⟩ : ByteArray) t231 t232 t233 _ ?side1 A2.out).mono ?_); (case side1 => exact LaidW.below HLW.out (by repeat (first | (with_reducible first | exact HB.out | apply below_alloc | apply pw_below_drewN | apply below_drew1) | exact HB.out | (refine below_set ?_ (Aside0.out ?hge); (case hge => assumption))))); rintro e w19 ⟨v234, rfl, ho0, hb⟩; refine ⟨_, rfl, ?_⟩; have n0_ := Aside0.mk (Kd.R_elder' (by (with_reducible repeat (first | apply Kd.R_alloc | apply Kd.R_drewN | apply Kd.R_drew)); exact HO230.out) (Kd.R_base ho0) hb); have n1_ := Aside0.mk (Kd.R_lower (Kd.R_new' ho0 (Kd.R_lt (by (with_reducible repeat (first | apply Kd.R_alloc | apply Kd.R_drewN | apply Kd.R_drew)); exact HO230.out))) (below_size (by repeat (first | (with_reducible first | exact HB.out | apply below_alloc | apply pw_below_drewN | apply below_drew1) | exact HB.out)))); have n2_ := Aside0.mk (below_step (by repeat (first | (with_reducible first | exact HB.out | apply below_alloc | apply pw_below_drewN | apply below_drew1) | exact HB.out)) hb); clear HO230; clear HB; have HO230 := n0_; have HO235 := n1_; have HB := n2_; clear n0_ n1_ n2_; (try clear hb); (try clear hb2); (try clear hk); (try clear hi); (try clear ho0); obtain ⟨Ao20, co20, eo20⟩ := Kd.R_slice HO230.out; subst eo20; have p236 : 0 ≤ (4 : Int) := (by omega); have q236 : 4 < (t226.length : Int) := of_decide_eq_true (by first | (with_reducible assumption) | assumption); obtain ⟨ad236, e236, hx236_0, hx236_1, hx236_2, hx236_3, hx236_4, hx236_5⟩ := at_T36 (Kd.R_reads' HO230.out).2.2 4 p236 q236; cases e236; (try simp only [show (4 : Int).toNat = 4 from rfl, Nat.reduceMul, Nat.reduceEqDiff, Go.Addr.add, ↓reduceIte] at hx236_0); (try simp only [show (4 : Int).toNat = 4 from rfl, Nat.reduceMul, Nat.reduceEqDiff, Go.Addr.add, ↓reduceIte] at hx236_1); (try simp only [show (4 : Int).toNat = 4 from rfl, Nat.reduceMul, Nat.reduceEqDiff, Go.Addr.add, ↓reduceIte] at hx236_2); (try simp only [show (4 : Int).toNat = 4 from rfl, Nat.reduceMul, Nat.reduceEqDiff, Go.Addr.add, ↓reduceIte] at hx236_3); (try simp only [show (4 : Int).toNat = 4 from rfl, Nat.reduceMul, Nat.reduceEqDiff, Go.Addr.add, ↓reduceIte] at hx236_4); (try simp only [show (4 : Int).toNat = 4 from rfl, Nat.reduceMul, Nat.reduceEqDiff, Go.Addr.add, ↓reduceIte] at hx236_5); have qi236 : (4 < t226.length) = True := eq_true (by omega); (try rw [show ((4 : Int)).toNat = 4 from rfl] at hx236_0); (try rw [show 4 * 6 = 24 from rfl] at hx236_0); (try rw [show ((4 : Int)).toNat = 4 from rfl] at hx236_1); (try rw [show 4 * 6 = 24 from rfl] at hx236_1); (try rw [show ((4 : Int)).toNat = 4 from rfl] at hx236_2); (try rw [show 4 * 6 = 24 from rfl] at hx236_2); (try rw [show ((4 : Int)).toNat = 4 from rfl] at hx236_3); (try rw [show 4 * 6 = 24 from rfl] at hx236_3); (try rw [show ((4 : Int)).toNat = 4 from rfl] at hx236_4); (try rw [show 4 * 6 = 24 from rfl] at hx236_4); (try rw [show ((4 : Int)).toNat = 4 from rfl] at hx236_5); (try rw [show 4 * 6 = 24 from rfl] at hx236_5); replace p236 := eq_true p236; replace q236 := eq_true q236; have p237 : 0 ≤ (4 : Int) := (by omega); have q237 : 4 < (t226.length : Int) := of_decide_eq_true (by first | (with_reducible assumption) | assumption); obtain ⟨ad237, e237, hx237_0, hx237_1, hx237_2, hx237_3, hx237_4, hx237_5⟩ := at_T36 (Kd.R_reads' HO230.out).2.2 4 p237 q237; obtain rfl : ad236 = ad237 := (by injection e237); (try simp only [show (4 : Int).toNat = 4 from rfl, Nat.reduceMul, Nat.reduceEqDiff, Go.Addr.add, ↓reduceIte] at hx237_0); (try simp only [show (4 : Int).toNat = 4 from rfl, Nat.reduceMul, Nat.reduceEqDiff, Go.Addr.add, ↓reduceIte] at hx237_1); (try simp only [show (4 : Int).toNat = 4 from rfl, Nat.reduceMul, Nat.reduceEqDiff, Go.Addr.add, ↓reduceIte] at hx237_2); (try simp only [show (4 : Int).toNat = 4 from rfl, Nat.reduceMul, Nat.reduceEqDiff, Go.Addr.add, ↓reduceIte] at hx237_3); (try simp only [show (4 : Int).toNat = 4 from rfl, Nat.reduceMul, Nat.reduceEqDiff, Go.Addr.add, ↓reduceIte] at hx237_4); (try simp only [show (4 : Int).toNat = 4 from rfl, Nat.reduceMul, Nat.reduceEqDiff, Go.Addr.add, ↓reduceIte] at hx237_5); have qi237 : (4 < t226.length) = True := eq_true (by omega); (try rw [show ((4 : Int)).toNat = 4 from rfl] at hx237_0); (try rw [show 4 * 6 = 24 from rfl] at hx237_0); (try rw [show ((4 : Int)).toNat = 4 from rfl] at hx237_1); (try rw [show 4 * 6 = 24 from rfl] at hx237_1); (try rw [show ((4 : Int)).toNat = 4 from rfl] at hx237_2); (try rw [show 4 * 6 = 24 from rfl] at hx237_2); (try rw [show ((4 : Int)).toNat = 4 from rfl] at hx237_3); (try rw [show 4 * 6 = 24 from rfl] at hx237_3); (try rw [show ((4 : Int)).toNat = 4 from rfl] at hx237_4); (try rw [show 4 * 6 = 24 from rfl] at hx237_4); (try rw [show ((4 : Int)).toNat = 4 from rfl] at hx237_5); (try rw [show 4 * 6 = 24 from rfl] at hx237_5); replace p237 := eq_true p237; replace q237 := eq_true q237; have p238 : 0 ≤ (7 : Int) := (by omega); have q238 : 7 < (t226.length : Int) := of_decide_eq_true (by first | (with_reducible assumption) | assumption); obtain ⟨ad238, e238, hx238_0, hx238_1, hx238_2, hx238_3, hx238_4, hx238_5⟩ := at_T36 (Kd.R_reads' HO230.out).2.2 7 p238 q238; obtain rfl : ad236 = ad238 := (by injection e238); (try simp only [show (7 : Int).toNat = 7 from rfl, Nat.reduceMul, Nat.reduceEqDiff, Go.Addr.add, ↓reduceIte] at hx238_0); (try simp only [show (7 : Int).toNat = 7 from rfl, Nat.reduceMul, Nat.reduceEqDiff, Go.Addr.add, ↓reduceIte] at hx238_1); (try simp only [show (7 : Int).toNat = 7 from rfl, Nat.reduceMul, Nat.reduceEqDiff, Go.Addr.add, ↓reduceIte] at hx238_2); (try simp only [show (7 : Int).toNat = 7 from rfl, Nat.reduceMul, Nat.reduceEqDiff, Go.Addr.add, ↓reduceIte] at hx238_3); (try simp only [show (7 : Int).toNat = 7 from rfl, Nat.reduceMul, Nat.reduceEqDiff, Go.Addr.add, ↓reduceIte] at hx238_4); (try simp only [show (7 : Int).toNat = 7 from rfl, Nat.reduceMul, Nat.reduceEqDiff, Go.Addr.add, ↓reduceIte] at hx238_5); have qi238 : (7 < t226.length) = True := eq_true (by omega); (try rw [show ((7 : Int)).toNat = 7 from rfl] at hx238_0); (try rw [show 7 * 6 = 42 from rfl] at hx238_0); (try rw [show ((7 : Int)).toNat = 7 from rfl] at hx238_1); (try rw [show 7 * 6 = 42 from rfl] at hx238_1); (try rw [show ((7 : Int)).toNat = 7 from rfl] at hx238_2); (try rw [show 7 * 6 = 42 from rfl] at hx238_2); (try rw [show ((7 : Int)).toNat = 7 from rfl] at hx238_3); (try rw [show 7 * 6 = 42 from rfl] at hx238_3); (try rw [show ((7 : Int)).toNat = 7 from rfl] at hx238_4); (try rw [show 7 * 6 = 42 from rfl] at hx238_4); (try rw [show ((7 : Int)).toNat = 7 from rfl] at hx238_5); (try rw [show 7 * 6 = 42 from rfl] at hx238_5); replace p238 := eq_true p238; replace q238 := eq_true q238; have p239 : 0 ≤ (8 : Int) := (by omega); have q239 : 8 < (t226.length : Int) := of_decide_eq_true (by first | (with_reducible assumption) | assumption); obtain ⟨ad239, e239, hx239_0, hx239_1, hx239_2, hx239_3, hx239_4, hx239_5⟩ := at_T36 (Kd.R_reads' HO230.out).2.2 8 p239 q239; obtain rfl : ad236 = ad239 := (by injection e239); (try simp only [show (8 : Int).toNat = 8 from rfl, Nat.reduceMul, Nat.reduceEqDiff, Go.Addr.add, ↓reduceIte] at hx239_0); (try simp only [show (8 : Int).toNat = 8 from rfl, Nat.reduceMul, Nat.reduceEqDiff, Go.Addr.add, ↓reduceIte] at hx239_1); (try simp only [show (8 : Int).toNat = 8 from rfl, Nat.reduceMul, Nat.reduceEqDiff, Go.Addr.add, ↓reduceIte] at hx239_2); (try simp only [show (8 : Int).toNat = 8 from rfl, Nat.reduceMul, Nat.reduceEqDiff, Go.Addr.add, ↓reduceIte] at hx239_3); (try simp only [show (8 : Int).toNat = 8 from rfl, Nat.reduceMul, Nat.reduceEqDiff, Go.Addr.add, ↓reduceIte] at hx239_4); (try simp only [show (8 : Int).toNat = 8 from rfl, Nat.reduceMul, Nat.reduceEqDiff, Go.Addr.add, ↓reduceIte] at hx239_5); have qi239 : (8 < t226.length) = True := eq_true (by omega); (try rw [show ((8 : Int)).toNat = 8 from rfl] at hx239_0); (try rw [show 8 * 6 = 48 from rfl] at hx239_0); (try rw [show ((8 : Int)).toNat = 8 from rfl] at hx239_1); (try rw [show 8 * 6 = 48 from rfl] at hx239_1); (try rw [show ((8 : Int)).toNat = 8 from rfl] at hx239_2); (try rw [show 8 * 6 = 48 from rfl] at hx239_2); (try rw [show ((8 : Int)).toNat = 8 from rfl] at hx239_3); (try rw [show 8 * 6 = 48 from rfl] at hx239_3); (try rw [show ((8 : Int)).toNat = 8 from rfl] at hx239_4); (try rw [show 8 * 6 = 48 from rfl] at hx239_4); (try rw [show ((8 : Int)).toNat = 8 from rfl] at hx239_5); (try rw [show 8 * 6 = 48 from rfl] at hx239_5); replace p239 := eq_true p239; replace q239 := eq_true q239; have p240 : 0 ≤ (9 : Int) := (by omega); have q240 : 9 < (t226.length : Int) := of_decide_eq_true (by first | (with_reducible assumption) | assumption); obtain ⟨ad240, e240, hx240_0, hx240_1, hx240_2, hx240_3, hx240_4, hx240_5⟩ := at_T36 (Kd.R_reads' HO230.out).2.2 9 p240 q240; obtain rfl : ad236 = ad240 := (by injection e240); (try simp only [show (9 : Int).toNat = 9 from rfl, Nat.reduceMul, Nat.reduceEqDiff, Go.Addr.add, ↓reduceIte] at hx240_0); (try simp only [show (9 : Int).toNat = 9 from rfl, Nat.reduceMul, Nat.reduceEqDiff, Go.Addr.add, ↓reduceIte] at hx240_1); (try simp only [show (9 : Int).toNat = 9 from rfl, Nat.reduceMul, Nat.reduceEqDiff, Go.Addr.add, ↓reduceIte] at hx240_2); (try simp only [show (9 : Int).toNat = 9 from rfl, Nat.reduceMul, Nat.reduceEqDiff, Go.Addr.add, ↓reduceIte] at hx240_3); (try simp only [show (9 : Int).toNat = 9 from rfl, Nat.reduceMul, Nat.reduceEqDiff, Go.Addr.add, ↓reduceIte] at hx240_4); (try simp only [show (9 : Int).toNat = 9 from rfl, Nat.reduceMul, Nat.reduceEqDiff, Go.Addr.add, ↓reduceIte] at hx240_5); have qi240 : (9 < t226.length) = True := eq_true (by omega); (try rw [show ((9 : Int)).toNat = 9 from rfl] at hx240_0); (try rw [show 9 * 6 = 54 from rfl] at hx240_0); (try rw [show ((9 : Int)).toNat = 9 from rfl] at hx240_1); (try rw [show 9 * 6 = 54 from rfl] at hx240_1); (try rw [show ((9 : Int)).toNat = 9 from rfl] at hx240_2); (try rw [show 9 * 6 = 54 from rfl] at hx240_2); (try rw [show ((9 : Int)).toNat = 9 from rfl] at hx240_3); (try rw [show 9 * 6 = 54 from rfl] at hx240_3); (try rw [show ((9 : Int)).toNat = 9 from rfl] at hx240_4); (try rw [show 9 * 6 = 54 from rfl] at hx240_4); (try rw [show ((9 : Int)).toNat = 9 from rfl] at hx240_5); (try rw [show 9 * 6 = 54 from rfl] at hx240_5); replace p240 := eq_true p240; replace q240 := eq_true q240) | (go_at_call 12; (with_reducible refine (lex_Print.calls k _ _ t226 t241 _ ?side1 ?side2 ?side3 A17.out).mono ?_); (case side1 => repeat (first | exact (Kd.R_reads' HO230.out).2.2 | (with_reducible refine Kd.C_alloc ?_ _) | (with_reducible refine Kd.C_drewN ?_ _) | (with_reducible refine Kd.C_drew ?_))); (case side2 => exact (Kd.R_reads' HO230.out).2.1); (case side3 => exact LaidW.below HLW.out (by repeat (first | (with_reducible first | exact HB.out | apply below_alloc | apply pw_below_drewN | apply below_drew1) | exact HB.out | (refine below_set ?_ (Aside0.out ?hge); (case hge => assumption))))); rintro e w21 ⟨rfl, hb⟩; have n0_ := Aside0.mk (Kd.R_below (by (with_reducible repeat (first | apply Kd.R_alloc | apply Kd.R_drewN | apply Kd.R_drew)); exact HO230.out) hb); have n1_ := Aside0.mk (Kd.R_below (by (with_reducible repeat (first | apply Kd.R_alloc | apply Kd.R_drewN | apply Kd.R_drew)); exact HO235.out) hb); have n2_ := Aside0.mk (below_step (by repeat (first | (with_reducible first | exact HB.out | apply below_alloc | apply pw_below_drewN | apply below_drew1) | exact HB.out)) hb); clear HO230; clear HO235; clear HB; have HO230 := n0_; have HO235 := n1_; have HB := n2_; clear n0_ n1_ n2_; (try clear hb); (try clear hb2); (try clear hk); (try clear hi)))
               go_ret
               exact ⟨by first | rfl | (simp [errW_none, errW_some] <;> rfl) | (simp [*, errW_none, errW_some] <;> rfl), by repeat (first | (with_reducible first | exact HB.out | apply below_alloc | apply pw_below_drewN | apply below_drew1) | exact HB.out)⟩
              ·rw [if_neg c16] at H
               exact absurd H (by simp)
             ·rw [if_neg c15] at H
              exact absurd H (by simp)
            ·rw [if_neg c14] at H
             exact absurd H (by simp)
           ·rw [if_neg c13] at H
            exact absurd H (by simp)
          ·rw [if_neg c12] at H
           exact absurd H (by simp)
         ·rw [if_neg c11] at H
          exact absurd H (by simp)
        ·rw [if_neg c10] at H
         exact absurd H (by simp)
       ·rw [if_neg c9] at H
        exact absurd H (by simp)
      ·rw [if_neg c8] at H
       exact absurd H (by simp)
     ·rw [if_neg c7] at H
      exact absurd H (by simp)
    ·rw [if_neg c6] at H
     exact absurd H (by simp)
   ·rw [if_neg c5] at H
    exact absurd H (by simp)
  ·rw [if_neg c4] at H
   exact absurd H (by simp)
 ·rw [if_neg c3] at H
  exact absurd H (by simp)

end Go.Proofs.YtnjobjogddjelaaGreatDoor.Print
end

section
namespace Go.Proofs.YtnjobjogddjelaaGreatDoor.PureN
open Go.RowKit Go.Proofs.YtnjobjogddjelaaGreatDoor.Print Go.Proofs.YtnjobjogddjelaaGreatDoor.Pure Go.Proofs.YtnjobjogddjelaaGreatDoorW.PrintWords Go.Proofs.YtnjobjogddjelaaGreatDoorW.PrintLast Go.Proofs.YtnjobjogddjelaaGreatDoorW.PrintMore
theorem known_60 : spillwaylaw7_known.f 60 = some true := by kernel_rfl
end Go.Proofs.YtnjobjogddjelaaGreatDoor.PureN
end

section
namespace Go.Proofs.YtnjobjogddjelaaGreatDoor.Print
open Go.Sort Go.Shelf PureN
open Go.RowKit Go.Proofs.YtnjobjogddjelaaGreatDoorX Go.Proofs.YtnjobjogddjelaaGreatDoorW.PrintWords Go.Proofs.YtnjobjogddjelaaGreatDoorW.PrintLast Go.Proofs.YtnjobjogddjelaaGreatDoorW.PrintMore
attribute [local go_sem] max2_int min2_int max_two min_two max_three min_three max_four min_four

/-! LexSigns, by hand. -/
theorem at_u8 {w : World} {A : Option Addr} {n : Nat} {xs : List Int} (h : Kd.C (Kd.int .u8) w A n xs) (i : Int) (h0 : 0 ≤ i) (h1 : i < n) : ∃ ad, A = some ad ∧ w.cell? (ad.add i.toNat) = some (.int .u8 (xs.getD i.toNat 0)) := by
 obtain ⟨ad, c, e, _, hK, hc⟩ := Kd.C_get h (0 : Int) i h0 h1
 have hK : c = [.int .u8 (xs.getD i.toNat 0)] := hK
 subst hK
 have := hc 0 _ rfl
 rw [show i.toNat * (Kd.int .u8).sz + 0 = i.toNat from by show i.toNat * 1 + 0 = i.toNat; omega] at this
 exact ⟨ad, e, this⟩
/-- The sign that a byte stands for. -/
def sgn (v : Int) : ByteArray := signT.getD (Int.tmod v 20).toNat ⟨#[]⟩
def sgS (l : List Int) : List UInt8 := l.flatMap fun v => (sgn v).data.toList ++ [32]
theorem sgn_size (v : Int) : (sgn v).size ≤ 2 := by
 unfold sgn
 generalize (Int.tmod v 20).toNat = k
 have h : ∀ t ∈ signT, t.size ≤ 2 := by decide
 rw [List.getD_eq_getElem?_getD]
 cases e : signT[k]? with
 | none => show (0 : Nat) ≤ 2; omega
 | some t => exact h t (List.mem_of_getElem? e)
theorem sgS_len : ∀ l : List Int, (sgS l).length ≤ 3 * l.length
 | [] => by simp [sgS]
 | v :: l => by
  have ih := sgS_len l
  have h := sgn_size v
  unfold sgS at ih ⊢
  rw [List.flatMap_cons, List.length_append, List.length_append, List.length_singleton, List.length_cons]
  have : (sgn v).data.toList.length = (sgn v).size := Array.length_toList
  omega
theorem sgS_snoc (l : List Int) (v : Int) : (⟨(sgS (l ++ [v])).toArray⟩ : ByteArray) = (⟨(sgS l).toArray⟩ ++ sgn v) ++ ⟨#[32]⟩ := by
 have e : sgn v = ⟨(sgn v).data.toList.toArray⟩ := rfl
 rw [e, show (⟨#[32]⟩ : ByteArray) = ⟨[32].toArray⟩ from rfl, PureN.app_list, PureN.app_list]
 unfold sgS
 rw [List.flatMap_append]
 simp
set_option maxHeartbeats 4000000 in
set_option maxRecDepth 100000 in
theorem signs_long (A : Option Addr) (c : Nat) (l : List Int) (w : World) (hg_ : LaidW w) (h : 60 < l.length) :
  Calls Tryz.prog 7 #[.slice A l.length c] w fun e w' => e = .returned (.bool true) ∧ Below w.heap.size w w' := by
 have d1 : decide ((60 : Int) < (l.length : Int)) = true := decide_eq_true (by omega)
 have d2 : decide (60 < l.length) = true := decide_eq_true h
 go_enter Tryz.func7, Tryz.ntmps7
 go_wp2_with (fail)
 refine (spillwaylaw7_known.calls 60 true _ hg_ PureN.known_60).mono ?_
 rintro e w1 ⟨rfl, hb⟩
 go_wp2
 go_ret
 exact ⟨rfl, hb⟩
set_option maxHeartbeats 8000000 in
set_option maxRecDepth 100000 in
theorem signs_walk (A : Option Addr) (c : Nat) (l : List Int) (T : List S36) (w : World) (hr : Kd.C (Kd.int .u8) w A l.length l) (hg_ : LaidW w) (h60 : l.length ≤ 60) (hl : ∀ i, 0 ≤ l.getD i 0 ∧ l.getD i 0 ≤ 255)
  (hscan : lex_Scan.f 4000 ⟨(sgS l).toArray⟩ = some (T, 0, 0)) (hT : T.length = l.length + 1) (hTs : ∀ i : Nat, i < l.length → (rd_T36 T (i : Int)).f0 = 5 ∧ (rd_T36 T (i : Int)).f2 = sgn (l.getD i 0)) :
  Calls Tryz.prog 7 #[.slice A l.length c] w fun e w' => e = .returned (.bool true) ∧ Below w.heap.size w w' := by
 have d1 : decide ((60 : Int) < (l.length : Int)) = false := decide_eq_false (by omega)
 have d2 : decide (60 < l.length) = false := decide_eq_false (by omega)
 have HR := Aside0.mk hr
 have HT := Aside0.mk hT
 have HTS := Aside0.mk hTs
 have HSC := Aside0.mk hscan
 have HL := Aside0.mk hl
 have H60 := Aside0.mk h60
 have HLW := Aside0.mk hg_
 clear hr hT hTs hscan hl h60 hg_
 go_enter Tryz.func7, Tryz.ntmps7
 go_wp2_with (fail)
 refine (spillwaylaw7_known.calls 60 true _ HLW.out PureN.known_60).mono ?_
 rintro e w1 ⟨rfl, hb⟩
 have HB := Aside0.mk hb
 clear hb
 go_wp2_with (first
  | (go_at_call 17; refine (Signs_calls _).mono ?_; rintro e w4 ⟨rfl, hb⟩; have n1_ := Aside0.mk (below_step HB.out hb); clear HB hb; have HB := n1_; clear n1_)
  | ((with_reducible refine gate_dst (N := 3) rfl ?_); refine box_event ?hg (N := 3) ?hd (cs := SG0) (t := 45) ?hr ?_; (case hd => rfl); (case hg => rfl); (case hr => first | (go_simp; done) | (go_simp; rfl)); intro gs hg w5 hbox hb; have BS := Aside0.mk hbox; have n1_ := Aside0.mk (below_step HB.out hb); have GS := Aside0.mk (show w.heap.size ≤ gs by rw [hg]; exact below_size HB.out); clear HB hb hbox hg; have HB := n1_; clear n1_)
  | ((with_reducible refine gate_ (.store 45 (.tmp 3) (.tmp 15)) rfl ?_); go_loud (refine row_event (x := .tmp 3) (y := .tmp 15) (t := 45) (g := gs) (cells := SG) (old := SG0) (e := 45) rfl rfl rfl rfl rfl BS.out (by kernel_rfl) (by kernel_rfl) (by kernel_rfl) ?_; intro w6 hw6; have n0_ := Aside0.mk (show w6.heap[gs]? = some (.cells SG 45 (0, 0)) by rw [hw6]; exact setRow_heap _ _ _ _ _ _ BS.out); have n1_ := Aside0.mk (show Below w.heap.size w w6 by rw [hw6]; exact below_setRow HB.out GS.out _); clear hw6 BS HB; have BS := n0_; have HB := n1_; clear n0_ n1_)))
 go_loopg [4, 5] l.length (fun kq v4 v5 w' => ∃ x : Int, v4 = .string ⟨(sgS (l.take x.toNat)).toArray⟩ ∧ v5 = .int .i64 x ∧ Aside0 (0 ≤ x ∧ x.toNat + kq = l.length) ∧ Aside0 (w'.heap[gs]? = some (.cells SG 45 (0, 0))) ∧ Aside0 (Below w.heap.size w w'))
 case atStart => exact ⟨0, rfl, rfl, ⟨by decide, by simp⟩, BS, HB⟩
 case round =>
  clear BS HB
  obtain ⟨x, rfl, rfl, HA, BS, HB⟩ := hrel
  obtain ⟨h0, hk⟩ := HA.out
  have h60 := H60.out
  cases gk with
  | zero =>
   have d0 : decide (x < (l.length : Int)) = false := decide_eq_false (by omega)
   have hx : l.take x.toNat = l := List.take_of_length_le (by omega)
   rw [hx]
   clear HA hk h0 hx h60
   go_wp2_with (fail)
   refine (lex_Scan.calls 4000 _ T 0 0 _ (LaidW.below HLW.out HB.out) HSC.out).mono ?_
   rintro e W1 ⟨v0, rfl, ho, hb⟩
   obtain ⟨A1, c1, rfl⟩ := Kd.R_slice ho
   have HX := Aside0.mk (Kd.R_reads' ho).2.2
   have n0_ := Aside0.mk (blk_below BS.out hb)
   have n1_ := Aside0.mk (below_step HB.out hb)
   clear BS HB hb ho
   have BS := n0_
   have HB := n1_
   clear n0_ n1_
   have hT := HT.out
   have hlen : (T.length : Int) = (l.length : Int) + 1 := by omega
   have hlw : wrap64 ((l.length : Int) + 1) = (l.length : Int) + 1 := by have := H60.out; unfold wrap64; omega
   have hne : (((T.length : Int)) != (wrap64 ((l.length : Int) + 1))) = false := by rw [hlw, hlen]; simp
   have hne2 : (((T.length : Int)) != ((l.length : Int) + 1)) = false := by rw [hlen]; simp
   have HLN := Aside0.mk hlen
   clear hT hlen
   go_wp2
   go_loopg [9] l.length (fun kq v9 w' => ∃ x : Int, v9 = .int .i64 x ∧ Aside0 (0 ≤ x ∧ x.toNat + kq = l.length) ∧ Drawn0 W1 w')
   case atStart => exact ⟨0, rfl, ⟨by decide, by simp⟩, Drawn0.refl _⟩
   case round =>
    obtain ⟨x, rfl, HA, ⟨nd, rfl⟩⟩ := hrel
    obtain ⟨h0, hk⟩ := HA.out
    cases gk with
    | zero =>
     have d0 : decide (x < (l.length : Int)) = false := decide_eq_false (by omega)
     clear HA hk h0
     go_wp2
     go_ret
     exact ⟨rfl, pw_below_drewN HB.out nd⟩
    | succ k1 =>
     have hlen := HLN.out
     have d0 : decide (x < (l.length : Int)) = true := decide_eq_true (by omega)
     obtain ⟨ad, rfl, hc1⟩ := at_u8 HR.out x h0 (by omega)
     have hc1 := (HB.out.cell (World.block_lt_of_cell? w _ hc1)).trans hc1
     obtain ⟨ad1, e1, x0, _, x2, _⟩ := at_T36 HX.out x h0 (by omega)
     cases e1
     have hv := HL.out x.toNat
     have hts := HTS.out x.toNat (by omega)
     rw [show ((x.toNat : Nat) : Int) = x by omega] at hts
     rw [hts.1] at x0
     rw [hts.2] at x2
     generalize l.getD x.toNat 0 = v at hc1 hv x2
     have ht0 : 0 ≤ Int.tmod v 20 := Int.tmod_nonneg _ hv.1
     have ht1 : Int.tmod v 20 < 20 := Int.tmod_lt_of_pos _ (by omega)
     have hm0 : (0 ≤ Int.tmod v 20) = True := eq_true ht0
     have hm1 : (Int.tmod v 20 < 22) = True := eq_true (by omega)
     have hc2 : W1.cell? ⟨gs, (Int.tmod v 20).toNat, none⟩ = some (.string (sgn v)) := by
      rw [blk_cell BS.out]
      have hlt : (Int.tmod v 20).toNat < signT.length := by show (Int.tmod v 20).toNat < 22; omega
      show (signT.map Value.string).toArray[(Int.tmod v 20).toNat]? = _
      unfold sgn
      rw [List.getElem?_toArray, List.getElem?_map, List.getElem?_eq_getElem hlt, List.getD_eq_getElem?_getD, List.getElem?_eq_getElem hlt]
      rfl
     have hp0 : (0 ≤ x) = True := eq_true h0
     have hp1 : (x < (l.length : Int)) = True := eq_true (by omega)
     have hp2 : (x < (T.length : Int)) = True := eq_true (by omega)
     have hw : wrap64 (x + 1) = x + 1 := by have := H60.out; unfold wrap64; omega
     have HK := Aside0.mk (And.intro h0 hk)
     have hS : ((W1.drewN nd).drew.cell? (ad1.add (x.toNat * 6)) = some (.int .i64 5)) ∧ ((W1.drewN nd).drew.cell? ⟨(ad1.add (x.toNat * 6)).block, (ad1.add (x.toNat * 6)).off + 2, none⟩ = some (.string (sgn v))) ∧ ((W1.drewN nd).drew.cell? (ad.add x.toNat) = some (.int .u8 v)) ∧ ((W1.drewN nd).drew.cell? ⟨gs, (Int.tmod v 20).toNat, none⟩ = some (.string (sgn v))) := ⟨x0, x2, hc1, hc2⟩
     clear HA hk h0 hts hv ht0 ht1 hlen x0 x2 hc1 hc2
     generalize sgn v = G at hS
     go_wp2
     refine start_ (n := 21) (S := fun w' => w'.cell? (ad1.add (x.toNat * 6)) = some (.int .i64 5) ∧ w'.cell? ⟨(ad1.add (x.toNat * 6)).block, (ad1.add (x.toNat * 6)).off + 2, none⟩ = some (.string G) ∧ w'.cell? (ad.add x.toNat) = some (.int .u8 v) ∧ w'.cell? ⟨gs, (Int.tmod v 20).toNat, none⟩ = some (.string G)) (ds := []) #[false, false, false, false, false, false, false, false, false, false, false, false, false, false, false, false, false, false, false, false, false] (by kernel_rfl) rfl rfl (hS) (fun hHeld => ?_)
     refine pure_ (i := 0) (N := some 54) (v := ?_) (a' := ?_) (msk 21 1) rfl rfl (by kernel_rfl) (fun _ _ _ h => h) (Or.inl ⟨by first | rfl | exact wanted_on rfl rfl rfl (by rfl), ?_⟩) ?_ ?_
     rotate_left
     ·intro w'
      go_simp
      with_reducible rfl
     rotate_left
     ·simp only [Act.put, List.setIfInBounds_toArray, List.set_cons_zero, List.set_cons_succ, i64_w, i32_w]
      rfl
     refine pure_ (i := 1) (N := some 55) (v := ?_) (a' := ?_) (msk 21 2) rfl rfl (by kernel_rfl) (fun _ _ _ h => h) (Or.inl ⟨by first | rfl | exact wanted_on rfl rfl rfl (by rfl), ?_⟩) ?_ ?_
     rotate_left
     ·intro w'
      go_simp
      with_reducible rfl
     rotate_left
     ·simp only [Act.put, List.setIfInBounds_toArray, List.set_cons_zero, List.set_cons_succ, i64_w, i32_w]
      rfl
     refine pure_ (i := 2) (N := some 56) (v := ?_) (a' := ?_) (msk 21 3) rfl rfl (by kernel_rfl) (fun _ _ _ h => h) (Or.inl ⟨by first | rfl | exact wanted_on rfl rfl rfl (by rfl), ?_⟩) ?_ ?_
     rotate_left
     ·intro w'
      go_simp
      with_reducible rfl
     rotate_left
     ·simp only [Act.put, List.setIfInBounds_toArray, List.set_cons_zero, List.set_cons_succ, i64_w, i32_w]
      rfl
     refine pure_ (i := 3) (N := some 57) (v := ?_) (a' := ?_) (msk 21 4) rfl rfl (by kernel_rfl) (fun _ _ _ h => h) (Or.inl ⟨by first | rfl | exact wanted_on rfl rfl rfl (by rfl), ?_⟩) ?_ ?_
     rotate_left
     ·intro w'
      go_simp
      with_reducible rfl
     rotate_left
     ·simp only [Act.put, List.setIfInBounds_toArray, List.set_cons_zero, List.set_cons_succ, i64_w, i32_w]
      rfl
     refine take_ (i := 4) (N := some 58) (v := ?_) (a' := ?_) (msk 21 5) rfl rfl (by kernel_rfl) (fun _ _ _ h => h) (Or.inl ⟨by first | rfl | exact wanted_on rfl rfl rfl (by rfl), ?_⟩) hHeld ?_ ?_
     rotate_left
     ·intro w' s0
      obtain ⟨s1, s2, s3, s4⟩ := s0
      go_simp
      with_reducible rfl
     rotate_left
     ·simp only [Act.put, List.setIfInBounds_toArray, List.set_cons_zero, List.set_cons_succ, i64_w, i32_w]
      rfl
     refine pure_ (i := 5) (N := some 59) (v := ?_) (a' := ?_) (msk 21 6) rfl rfl (by kernel_rfl) (fun _ _ _ h => h) (Or.inl ⟨by first | rfl | exact wanted_on rfl rfl rfl (by rfl), ?_⟩) ?_ ?_
     rotate_left
     ·intro w'
      go_simp
      with_reducible rfl
     rotate_left
     ·simp only [Act.put, List.setIfInBounds_toArray, List.set_cons_zero, List.set_cons_succ, i64_w, i32_w]
      rfl
     refine pure_ (i := 6) (N := some 60) (v := ?_) (a' := ?_) (msk 21 7) rfl rfl (by kernel_rfl) (fun _ _ _ h => h) (Or.inl ⟨by first | rfl | exact wanted_on rfl rfl rfl (by rfl), ?_⟩) ?_ ?_
     rotate_left
     ·intro w'
      go_simp
      with_reducible rfl
     rotate_left
     ·simp only [Act.put, List.setIfInBounds_toArray, List.set_cons_zero, List.set_cons_succ, i64_w, i32_w]
      rfl
     refine pure_ (i := 7) (N := some 61) (v := ?_) (a' := ?_) (msk 21 8) rfl rfl (by kernel_rfl) (fun _ _ _ h => h) (Or.inl ⟨by first | rfl | exact wanted_on rfl rfl rfl (by rfl), ?_⟩) ?_ ?_
     rotate_left
     ·intro w'
      go_simp
      with_reducible rfl
     rotate_left
     ·simp only [Act.put, List.setIfInBounds_toArray, List.set_cons_zero, List.set_cons_succ, i64_w, i32_w]
      rfl
     refine pure_ (i := 8) (N := some 62) (v := ?_) (a' := ?_) (msk 21 9) rfl rfl (by kernel_rfl) (fun _ _ _ h => h) (Or.inl ⟨by first | rfl | exact wanted_on rfl rfl rfl (by rfl), ?_⟩) ?_ ?_
     rotate_left
     ·intro w'
      go_simp
      with_reducible rfl
     rotate_left
     ·simp only [Act.put, List.setIfInBounds_toArray, List.set_cons_zero, List.set_cons_succ, i64_w, i32_w]
      rfl
     refine pure_ (i := 9) (N := some 63) (v := ?_) (a' := ?_) (msk 21 10) rfl rfl (by kernel_rfl) (fun _ _ _ h => h) (Or.inl ⟨by first | rfl | exact wanted_on rfl rfl rfl (by rfl), ?_⟩) ?_ ?_
     rotate_left
     ·intro w'
      go_simp
      with_reducible rfl
     rotate_left
     ·simp only [Act.put, List.setIfInBounds_toArray, List.set_cons_zero, List.set_cons_succ, i64_w, i32_w]
      rfl
     refine pure_ (i := 10) (N := some 64) (v := ?_) (a' := ?_) (msk 21 11) rfl rfl (by kernel_rfl) (fun _ _ _ h => h) (Or.inl ⟨by first | rfl | exact wanted_on rfl rfl rfl (by rfl), ?_⟩) ?_ ?_
     rotate_left
     ·intro w'
      go_simp
      with_reducible rfl
     rotate_left
     ·simp only [Act.put, List.setIfInBounds_toArray, List.set_cons_zero, List.set_cons_succ, i64_w, i32_w]
      rfl
     refine take_ (i := 11) (N := some 65) (v := ?_) (a' := ?_) (msk 21 12) rfl rfl (by kernel_rfl) (fun _ _ _ h => h) (Or.inl ⟨by first | rfl | exact wanted_on rfl rfl rfl (by rfl), ?_⟩) hHeld ?_ ?_
     rotate_left
     ·intro w' s0
      obtain ⟨s1, s2, s3, s4⟩ := s0
      go_simp
      with_reducible rfl
     rotate_left
     ·simp only [Act.put, List.setIfInBounds_toArray, List.set_cons_zero, List.set_cons_succ, i64_w, i32_w]
      rfl
     refine pure_ (i := 12) (N := some 66) (v := ?_) (a' := ?_) (msk 21 13) rfl rfl (by kernel_rfl) (fun _ _ _ h => h) (Or.inl ⟨by first | rfl | exact wanted_on rfl rfl rfl (by rfl), ?_⟩) ?_ ?_
     rotate_left
     ·intro w'
      go_simp
      with_reducible rfl
     rotate_left
     ·simp only [Act.put, List.setIfInBounds_toArray, List.set_cons_zero, List.set_cons_succ, i64_w, i32_w]
      rfl
     refine pure_ (i := 13) (N := some 67) (v := ?_) (a' := ?_) (msk 21 14) rfl rfl (by kernel_rfl) (fun _ _ _ h => h) (Or.inl ⟨by first | rfl | exact wanted_on rfl rfl rfl (by rfl), ?_⟩) ?_ ?_
     rotate_left
     ·intro w'
      go_simp
      with_reducible rfl
     rotate_left
     ·simp only [Act.put, List.setIfInBounds_toArray, List.set_cons_zero, List.set_cons_succ, i64_w, i32_w]
      rfl
     refine pure_ (i := 14) (N := some 68) (v := ?_) (a' := ?_) (msk 21 15) rfl rfl (by kernel_rfl) (fun _ _ _ h => h) (Or.inl ⟨by first | rfl | exact wanted_on rfl rfl rfl (by rfl), ?_⟩) ?_ ?_
     rotate_left
     ·intro w'
      go_simp
      with_reducible rfl
     rotate_left
     ·simp only [Act.put, List.setIfInBounds_toArray, List.set_cons_zero, List.set_cons_succ, i64_w, i32_w]
      rfl
     refine take_ (i := 15) (N := some 69) (v := ?_) (a' := ?_) (msk 21 16) rfl rfl (by kernel_rfl) (fun _ _ _ h => h) (Or.inl ⟨by first | rfl | exact wanted_on rfl rfl rfl (by rfl), ?_⟩) hHeld ?_ ?_
     rotate_left
     ·intro w' s0
      obtain ⟨s1, s2, s3, s4⟩ := s0
      go_simp
      with_reducible rfl
     rotate_left
     ·simp only [Act.put, List.setIfInBounds_toArray, List.set_cons_zero, List.set_cons_succ, i64_w, i32_w]
      rfl
     refine pure_ (i := 16) (N := some 70) (v := ?_) (a' := ?_) (msk 21 17) rfl rfl (by kernel_rfl) (fun _ _ _ h => h) (Or.inl ⟨by first | rfl | exact wanted_on rfl rfl rfl (by rfl), ?_⟩) ?_ ?_
     rotate_left
     ·intro w'
      go_simp
      with_reducible rfl
     rotate_left
     ·simp only [Act.put, List.setIfInBounds_toArray, List.set_cons_zero, List.set_cons_succ, i64_w, i32_w]
      rfl
     refine pure_ (i := 17) (N := some 71) (v := ?_) (a' := ?_) (msk 21 18) rfl rfl (by kernel_rfl) (fun _ _ _ h => h) (Or.inl ⟨by first | rfl | exact wanted_on rfl rfl rfl (by rfl), ?_⟩) ?_ ?_
     rotate_left
     ·intro w'
      go_simp
      with_reducible rfl
     rotate_left
     ·simp only [Act.put, List.setIfInBounds_toArray, List.set_cons_zero, List.set_cons_succ, i64_w, i32_w]
      rfl
     refine take_ (i := 18) (N := some 72) (v := ?_) (a' := ?_) (msk 21 19) rfl rfl (by kernel_rfl) (fun _ _ _ h => h) (Or.inl ⟨by first | rfl | exact wanted_on rfl rfl rfl (by rfl), ?_⟩) hHeld ?_ ?_
     rotate_left
     ·intro w' s0
      obtain ⟨s1, s2, s3, s4⟩ := s0
      go_simp
      with_reducible rfl
     rotate_left
     ·simp only [Act.put, List.setIfInBounds_toArray, List.set_cons_zero, List.set_cons_succ, i64_w, i32_w]
      rfl
     refine pure_ (i := 19) (N := some 73) (v := ?_) (a' := ?_) (msk 21 20) rfl rfl (by kernel_rfl) (fun _ _ _ h => h) (Or.inl ⟨by first | rfl | exact wanted_on rfl rfl rfl (by rfl), ?_⟩) ?_ ?_
     rotate_left
     ·intro w'
      go_simp
      with_reducible rfl
     rotate_left
     ·simp only [Act.put, List.setIfInBounds_toArray, List.set_cons_zero, List.set_cons_succ, i64_w, i32_w]
      rfl
     refine pure_ (i := 20) (N := some 74) (v := ?_) (a' := ?_) (msk 21 21) rfl rfl (by kernel_rfl) (fun _ _ _ h => h) (Or.inl ⟨by first | rfl | exact wanted_on rfl rfl rfl (by rfl), ?_⟩) ?_ ?_
     rotate_left
     ·intro w'
      go_simp
      with_reducible rfl
     rotate_left
     ·simp only [Act.put, List.setIfInBounds_toArray, List.set_cons_zero, List.set_cons_succ, i64_w, i32_w]
      rfl
     refine done_ (by kernel_rfl) ?_
     clear hHeld
     go_wp2
     go_roundg k1
     case measure => omega
     case rel => exact ⟨x + 1, by rw [hw], ⟨by have := HK.out; omega, by have := HK.out; omega⟩, by repeat (first | exact Drawn0.refl _ | apply Drawn0.step)⟩
  | succ k1 =>
   have d0 : decide (x < (l.length : Int)) = true := decide_eq_true (by omega)
   obtain ⟨ad, rfl, hc1⟩ := at_u8 HR.out x h0 (by omega)
   have hc1 := (HB.out.cell (World.block_lt_of_cell? w _ hc1)).trans hc1
   have hv := HL.out x.toNat
   have hgd : l.getD x.toNat 0 = l[x.toNat]'(by omega) := by rw [List.getD_eq_getElem?_getD, List.getElem?_eq_getElem (by omega)]; rfl
   have htk : l.take (x.toNat + 1) = l.take x.toNat ++ [l.getD x.toNat 0] := by rw [hgd]; exact List.take_succ_eq_append_getElem (by omega)
   generalize l.getD x.toNat 0 = v at hc1 hv htk
   have ht0 : 0 ≤ Int.tmod v 20 := Int.tmod_nonneg _ hv.1
   have ht1 : Int.tmod v 20 < 20 := Int.tmod_lt_of_pos _ (by omega)
   have hm0 : (0 ≤ Int.tmod v 20) = True := eq_true ht0
   have hm1 : (Int.tmod v 20 < 22) = True := eq_true (by omega)
   have hc2 : wr.cell? ⟨gs, (Int.tmod v 20).toNat, none⟩ = some (.string (sgn v)) := by
    rw [blk_cell BS.out]
    have hlt : (Int.tmod v 20).toNat < signT.length := by show (Int.tmod v 20).toNat < 22; omega
    show (signT.map Value.string).toArray[(Int.tmod v 20).toNat]? = _
    unfold sgn
    rw [List.getElem?_toArray, List.getElem?_map, List.getElem?_eq_getElem hlt, List.getD_eq_getElem?_getD, List.getElem?_eq_getElem hlt]
    rfl
   have hp0 : (0 ≤ x) = True := eq_true h0
   have hp1 : (x < (l.length : Int)) = True := eq_true (by omega)
   have hsz := sgS_len (l.take x.toNat)
   rw [List.length_take] at hsz
   have hsg := sgn_size v
   have hw : wrap64 (x + 1) = x + 1 := by unfold wrap64; omega
   obtain ⟨S, hS⟩ : ∃ S : ByteArray, S = ⟨(sgS (l.take x.toNat)).toArray⟩ := ⟨_, rfl⟩
   have hSs : S.size ≤ 200 := by rw [hS]; show (sgS (l.take x.toNat)).length ≤ 200; omega
   have hnew : (⟨(sgS (l.take (x.toNat + 1))).toArray⟩ : ByteArray) = (S ++ sgn v) ++ ⟨#[32]⟩ := by rw [htk, sgS_snoc, hS]
   rw [← hS]
   generalize sgn v = G at hc2 hsg hnew
   have b1 : (S.size + G.size ≤ 9223372036854775807) = True := eq_true (by omega)
   have b2 : (9223372036854775807 < S.size + G.size) = False := eq_false (by omega)
   have b3 : (S.size + G.size + 1 ≤ 9223372036854775807) = True := eq_true (by omega)
   have b4 : (9223372036854775807 < S.size + G.size + 1) = False := eq_false (by omega)
   have b5 : (S.size + (G.size + 1) ≤ 9223372036854775807) = True := eq_true (by omega)
   have b6 : (9223372036854775807 < S.size + (G.size + 1)) = False := eq_false (by omega)
   have b7 : ((S ++ G).size + 1 ≤ 9223372036854775807) = True := eq_true (by rw [ByteArray.size_append]; omega)
   have b8 : (9223372036854775807 < (S ++ G).size + 1) = False := eq_false (by rw [ByteArray.size_append]; omega)
   have HN := Aside0.mk hnew
   have HK := Aside0.mk (And.intro h0 hk)
   clear HA hk h0 h60 hgd htk hv hsz hsg hSs hnew hS ht0 ht1
   go_wp2
   go_roundg k1
   case measure => omega
   case rel => exact ⟨x + 1, by rw [show (x + 1).toNat = x.toNat + 1 by have := HK.out; omega, HN.out], by rw [hw], ⟨by have := HK.out; omega, by have := HK.out; omega⟩, BS, HB⟩
end Go.Proofs.YtnjobjogddjelaaGreatDoor.Print
end

section
namespace Go.Proofs.YtnjobjogddjelaaGreatDoor.PureN
open Go.RowKit Go.Proofs.YtnjobjogddjelaaGreatDoor.Print Go.Proofs.YtnjobjogddjelaaGreatDoor.Pure Go.Proofs.YtnjobjogddjelaaGreatDoorW.PrintWords Go.Proofs.YtnjobjogddjelaaGreatDoorW.PrintLast Go.Proofs.YtnjobjogddjelaaGreatDoorW.PrintMore

/-! LexSigns. -/
theorem rd_at' (l : List S36) (i : Nat) (h : i < l.length) : rd_T36 l (i : Int) = l[i] := by
 unfold rd_T36
 rw [Int.toNat_natCast, List.getD_eq_getElem?_getD, List.getElem?_eq_getElem h]
 rfl
theorem sgn_in (v : Int) (h0 : 0 ≤ v) : (Print.sgn v).data.toList ∈ signsS := by
 have ht0 : 0 ≤ Int.tmod v 20 := Int.tmod_nonneg _ h0
 have ht1 : Int.tmod v 20 < 20 := Int.tmod_lt_of_pos _ (by omega)
 unfold Print.sgn
 have hk : (Int.tmod v 20).toNat < 20 := by omega
 generalize (Int.tmod v 20).toNat = k at hk
 have all : ∀ k, k < 20 → (signT.getD k ⟨#[]⟩).data.toList ∈ signsS := by decide
 exact all k hk
theorem LexSigns (A : Option Addr) (c : Nat) (l : List Int) (w : World) (hr : Kd.C (Kd.int .u8) w A l.length l) (hg_ : LaidW w) (hl : ∀ v ∈ l, 0 ≤ v ∧ v ≤ 255) :
  Calls Tryz.prog 7 #[.slice A l.length c] w fun e w' => e = .returned (.bool true) ∧ Below w.heap.size w w' := by
 by_cases h60 : 60 < l.length
 ·exact signs_long A c l w hg_ h60
 ·have hl' : ∀ i, 0 ≤ l.getD i 0 ∧ l.getD i 0 ≤ 255 := by
   intro i
   rw [List.getD_eq_getElem?_getD]
   cases e : l[i]? with
   | none => simp
   | some v => exact hl v (List.mem_of_getElem? e)
  obtain ⟨ts, t1, t2⟩ := signs_scan (l.map fun v => (Print.sgn v).data.toList) 0 (fun p hp => by
   obtain ⟨v, hv, rfl⟩ := List.mem_map.1 hp
   exact sgn_in v (hl v hv).1)
  have e : ((l.map fun v => (Print.sgn v).data.toList).flatMap fun p => p ++ [32]) = sgS l := by
   rw [List.flatMap_map]
   rfl
  rw [e] at t1
  have hlen : ts.length = l.length + 1 := by
   have := congrArg List.length t2
   simpa using this
  have hs := sgS_len l
  have hsc : lex_Scan.f 4000 ⟨(sgS l).toArray⟩ = some (ts.map toS, 0, 0) := by
   rw [lexscan_eq _ 4000 (by omega)]
   unfold scanW
   rw [if_neg (by omega), t1]
   rfl
  refine signs_walk A c l (ts.map toS) w hr hg_ (by omega) hl' hsc (by rw [List.length_map, hlen]) ?_
  intro i hi
  have hi2 : i < ts.length := by omega
  have h2 : (ts[i].kind, ts[i].text) = ((5 : Int), (Print.sgn l[i]).data.toList) := by
   have h3 : (ts.map fun t => (t.kind, t.text))[i]? = ((l.map fun v => (Print.sgn v).data.toList).map (fun p => ((5 : Int), p)) ++ [((0 : Int), ([] : List UInt8))])[i]? := by rw [t2]
   rw [List.getElem?_map, List.getElem?_eq_getElem hi2, List.getElem?_append_left (by simpa using hi), List.getElem?_map, List.getElem?_map, List.getElem?_eq_getElem hi] at h3
   exact Option.some.inj h3
  rw [rd_at' _ i (by rw [List.length_map]; exact hi2), List.getElem_map]
  refine ⟨(Prod.mk.inj h2).1, ?_⟩
  show (⟨ts[i].text.toArray⟩ : ByteArray) = _
  rw [(Prod.mk.inj h2).2, List.getD_eq_getElem?_getD, List.getElem?_eq_getElem hi]
  rfl
end Go.Proofs.YtnjobjogddjelaaGreatDoor.PureN
end
