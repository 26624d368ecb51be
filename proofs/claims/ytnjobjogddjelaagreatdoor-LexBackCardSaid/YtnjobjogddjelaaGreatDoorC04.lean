/- A part of the proof of LexBack: what the functions that the law reaches come to. -/
import Derived.Test.YtnjobjogddjelaaGreatDoorC02
import Derived.Test.YtnjobjogddjelaaGreatDoorC03
import Derived.Test.YtnjobjogddjelaaGreatDoorC01
set_option linter.unusedVariables false
set_option linter.unusedSimpArgs false
section
namespace Go.Proofs.YtnjobjogddjelaaGreatDoor.PureN
open Go.RowKit Go.Proofs.YtnjobjogddjelaaGreatDoor.Print Go.Proofs.YtnjobjogddjelaaGreatDoor.Pure Go.Proofs.YtnjobjogddjelaaGreatDoorW.PrintWords Go.Proofs.YtnjobjogddjelaaGreatDoorW.PrintLast Go.Proofs.YtnjobjogddjelaaGreatDoorW.PrintMore

/-! What the printed functions of lex come to. -/
theorem u8_dec (p : UInt8 → Bool) (h : (List.range 256).all (fun n => p (UInt8.ofNat n)) = true) : ∀ c, p c = true := by
 intro c
 have := List.all_eq_true.1 h c.toNat (List.mem_range.2 c.toNat_lt)
 rwa [UInt8.ofNat_toNat] at this
theorem letter_eq (c : UInt8) : lex_letter.f (c.toNat : Int) = some (isL c) := of_decide_eq_true (u8_dec (fun c => decide (lex_letter.f (c.toNat : Int) = some (isL c))) (by decide +kernel) c)
theorem digit_eq (c : UInt8) : lex_digit.f (c.toNat : Int) = some (isD c) := of_decide_eq_true (u8_dec (fun c => decide (lex_digit.f (c.toNat : Int) = some (isD c))) (by decide +kernel) c)
theorem idP_eq (c : UInt8) : decide (idP (c.toNat : Int)) = idc c := of_decide_eq_true (u8_dec (fun c => decide (decide (idP (c.toNat : Int)) = idc c)) (by decide +kernel) c)
theorem isD_int (c : UInt8) : isD c = (decide (48 ≤ (c.toNat : Int)) && decide ((c.toNat : Int) ≤ 57)) := of_decide_eq_true (u8_dec (fun c => decide (isD c = (decide (48 ≤ (c.toNat : Int)) && decide ((c.toNat : Int) ≤ 57)))) (by decide +kernel) c)
theorem ext_take (l : List UInt8) (n : Nat) : (⟨l.toArray⟩ : ByteArray).extract 0 n = ⟨(l.take n).toArray⟩ := by
 apply ByteArray.ext
 apply Array.ext'
 rw [ByteArray.data_extract, Array.toList_extract]
 simp
theorem drop_cons (l : List UInt8) (i : Nat) (h : i < l.length) : l.drop i = l[i] :: l.drop (i + 1) := List.drop_eq_getElem_cons h
theorem w1 (i : Nat) (h : i ≤ 100000) : wrap64 ((i : Int) + 1) = ((i + 1 : Nat) : Int) := by unfold wrap64; omega
theorem many25_l0 (l : List UInt8) (hl : l.length ≤ 700) : ∀ (d k i : Nat), i + d = l.length → d < k → lex_many25.l0 k ⟨l.toArray⟩ (i : Int) = some ((i + ((l.drop i).takeWhile isD).length : Nat) : Int)
 | 0, k, i, h, hk => by
  obtain ⟨k, rfl⟩ : ∃ m, k = m + 1 := ⟨k - 1, by omega⟩
  unfold lex_many25.l0
  rw [size_list, if_neg (by omega), List.drop_eq_nil_of_le (by omega)]
  simp
 | d + 1, k, i, h, hk => by
  obtain ⟨k, rfl⟩ : ∃ m, k = m + 1 := ⟨k - 1, by omega⟩
  have hi : i < l.length := by omega
  unfold lex_many25.l0
  rw [size_list, if_pos (by omega), if_pos (by omega), bt_list l i hi, drop_cons l i hi, List.takeWhile_cons, w1 i (by omega)]
  have hd := isD_int l[i]
  cases c : isD l[i]
  ·rw [c] at hd
   simp only [Bool.false_eq_true, if_false, List.length_nil, Nat.add_zero]
   split
   ·split
    ·rename_i h1 h2
     rw [decide_eq_true h1, decide_eq_true h2] at hd
     simp at hd
    ·rfl
   ·rfl
  ·rw [c] at hd
   have hd := Bool.and_eq_true_iff.1 hd.symm
   rw [if_pos (of_decide_eq_true hd.1), if_pos (of_decide_eq_true hd.2), many25_l0 l hl d k (i + 1) (by omega) (by omega)]
   simp only [if_true, List.length_cons]
   congr 2
   omega
theorem many25_eq (l : List UInt8) (k : Nat) (hl : l.length ≤ 700) (hk : 700 < k) : lex_many25.f k ⟨l.toArray⟩ = some ((l.takeWhile isD).length : Int) := by
 have := many25_l0 l hl l.length k 0 (by omega) (by omega)
 simpa [lex_many25.f] using this
theorem many42_l0 (l : List UInt8) (hl : l.length ≤ 700) : ∀ (d k i : Nat), i + d = l.length → d < k → lex_many42.l0 k ⟨l.toArray⟩ (i : Int) = some ((i + ((l.drop i).takeWhile idc).length : Nat) : Int)
 | 0, k, i, h, hk => by
  obtain ⟨k, rfl⟩ : ∃ m, k = m + 1 := ⟨k - 1, by omega⟩
  unfold lex_many42.l0
  rw [size_list, if_neg (by omega), List.drop_eq_nil_of_le (by omega)]
  simp
 | d + 1, k, i, h, hk => by
  obtain ⟨k, rfl⟩ : ∃ m, k = m + 1 := ⟨k - 1, by omega⟩
  have hi : i < l.length := by omega
  unfold lex_many42.l0
  rw [size_list, if_pos (by omega), if_pos (by omega), bt_list l i hi, drop_cons l i hi, List.takeWhile_cons, w1 i (by omega)]
  have hd := idP_eq l[i]
  cases c : idc l[i]
  ·rw [c] at hd
   rw [if_neg (of_decide_eq_false hd)]
   simp
  ·rw [c] at hd
   rw [if_pos (of_decide_eq_true hd), many42_l0 l hl d k (i + 1) (by omega) (by omega)]
   simp only [if_true, List.length_cons]
   congr 2
   omega
theorem many42_eq (l : List UInt8) (k : Nat) (hl : l.length ≤ 700) (hk : 700 < k) : lex_many42.f k ⟨l.toArray⟩ = some ((l.takeWhile idc).length : Int) := by
 have := many42_l0 l hl l.length k 0 (by omega) (by omega)
 simpa [lex_many42.f] using this
abbrev Out := Int × Int × ByteArray × Bool × Int × Int × Int
def zeroO : Out := (0, 0, ⟨#[]⟩, false, 0, 0, 0)
def outR : Option (Tok × Nat) → Out
 | some x => (x.1.kind, 0, ⟨x.1.text.toArray⟩, false, x.1.v, x.1.n, (x.2 : Int))
 | none => zeroO
theorem ident_eq (l : List UInt8) (k : Nat) (hl : l.length ≤ 700) (hk : 700 < k) : lex_ident.f k ⟨l.toArray⟩ = some (outR (readId l)) := by
 unfold lex_ident.f readId
 rw [many42_eq l k hl hk, Option.bind_some]
 have hle := tw_le (p := idc) l
 by_cases h : (l.takeWhile idc).length ≤ 20
 ·rw [if_neg (by omega), if_pos (by omega), size_list, if_pos (by omega), if_pos h, Int.toNat_natCast, ext_take, take_tw]
  rfl
 ·rw [if_pos (by omega), if_neg h]
  rfl
/-! Durations. -/
theorem pu_ok : ∀ (l : List UInt8) (a : Nat), l.all isD = true → valF a l < 1000000000000000000 → Lib.parseUint10 a l = .ok (valF a l)
 | [], a, _, _ => rfl
 | c :: l, a, h, hv => by
  simp only [List.all_cons, Bool.and_eq_true] at h
  have hc : 48 ≤ c.toNat ∧ c.toNat ≤ 57 := by
   have := h.1
   unfold isD at this
   simpa using this
  have e : valF a (c :: l) = valF (a * 10 + (c.toNat - 48)) l := rfl
  rw [e] at hv ⊢
  have h3 := valF_lin l (a * 10 + (c.toNat - 48))
  have hp : 1 ≤ 10 ^ l.length := Nat.one_le_pow _ _ (by omega)
  have h4 : a * 10 + (c.toNat - 48) ≤ (a * 10 + (c.toNat - 48)) * 10 ^ l.length := Nat.le_mul_of_pos_right _ hp
  unfold Lib.parseUint10
  rw [if_pos hc, if_neg (by omega), if_neg (by omega)]
  exact pu_ok l _ h.2 hv
theorem pu_any : ∀ (l : List UInt8) (a : Nat), l.all isD = true → (∃ r, Lib.parseUint10 a l = .ok r) ∨ Lib.parseUint10 a l = .range
 | [], a, _ => Or.inl ⟨_, rfl⟩
 | c :: l, a, h => by
  simp only [List.all_cons, Bool.and_eq_true] at h
  have hc : 48 ≤ c.toNat ∧ c.toNat ≤ 57 := by
   have := h.1
   unfold isD at this
   simpa using this
  unfold Lib.parseUint10
  rw [if_pos hc]
  split
  ·exact Or.inr rfl
  ·split
   ·exact Or.inr rfl
   ·exact pu_any l _ h.2
theorem atoi_cons (c : UInt8) (l : List UInt8) (h : (c :: l).all isD = true) : (∀ u, Lib.parseUint10 0 (c :: l) = .ok u → Lib.atoiAll (c :: l) = if 9223372036854775808 ≤ u then .range else .ok (u : Int)) ∧ (Lib.parseUint10 0 (c :: l) = .range → Lib.atoiAll (c :: l) = .range) := by
 have hc : 48 ≤ c.toNat ∧ c.toNat ≤ 57 := by
  simp only [List.all_cons, Bool.and_eq_true] at h
  have := h.1
  unfold isD at this
  simpa using this
 unfold Lib.atoiAll
 simp only
 rw [if_neg (show ¬ (c.toNat = 43 ∨ c.toNat = 45) by omega)]
 unfold Lib.parseMag
 rw [if_neg (by simp)]
 have h45 : ¬ c.toNat = 45 := by omega
 refine ⟨fun u e => ?_, fun e => ?_⟩
 ·rw [e]
  simp [h45]
 ·rw [e]
theorem atoi_any (c : UInt8) (l : List UInt8) (h : (c :: l).all isD = true) : (∃ v, Lib.atoiAll (c :: l) = .ok v) ∨ Lib.atoiAll (c :: l) = .range := by
 rcases pu_any (c :: l) 0 h with ⟨r, e⟩ | e
 ·rw [(atoi_cons c l h).1 r e]
  split
  ·exact Or.inr rfl
  ·exact Or.inl ⟨_, rfl⟩
 ·rw [(atoi_cons c l h).2 e]
  exact Or.inr rfl
theorem atoi_small (c : UInt8) (l : List UInt8) (h : (c :: l).all isD = true) (hl : (c :: l).length ≤ 3) : Lib.atoiAll (c :: l) = .ok (valN (c :: l) : Int) := by
 have h1 := valN_lt (c :: l) h
 have h2 : 10 ^ (c :: l).length ≤ 10 ^ 3 := Nat.pow_le_pow_right (by omega) hl
 have h3 : valN (c :: l) < 1000 := by omega
 rw [(atoi_cons c l h).1 _ (pu_ok (c :: l) 0 h (by unfold valN at h3; omega))]
 rw [if_neg (by unfold valN at h3; omega)]
 rfl
def durO (d : List UInt8) (n : Nat) : Out := match durS d with | some t => (3, 0, ⟨#[]⟩, false, 0, (t : Int), ((n + 1 : Nat) : Int)) | none => zeroO
theorem duration_eq (l : List UInt8) (hl : l.length ≤ 700) (h1 : l.takeWhile isD ≠ []) : lex_duration.f ⟨l.toArray⟩ ((l.takeWhile isD).length : Int) = some (durO (l.takeWhile isD) (l.takeWhile isD).length) := by
 have hle := tw_le (p := isD) l
 have hall := tw_D l
 obtain ⟨c, d, hd⟩ : ∃ c d, l.takeWhile isD = c :: d := by
  cases e : l.takeWhile isD with
  | nil => exact absurd e h1
  | cons c d => exact ⟨c, d, rfl⟩
 have hl0 : 0 < l.length := by rw [hd, List.length_cons] at hle; omega
 have hc0 : l[0] = c := by
  cases l with
  | nil => simp at hl0
  | cons b r =>
   rw [List.takeWhile_cons] at hd
   split at hd
   ·exact (List.cons.inj hd).1
   ·simp at hd
 have hbt : bt ⟨l.toArray⟩ 0 = (c.toNat : Int) := by
  have := bt_list l 0 hl0
  rw [hc0] at this
  exact this
 unfold lex_duration.f
 rw [size_list, if_pos ⟨by omega, by omega, hl0, by omega⟩, Int.toNat_natCast, ext_take, take_tw, hbt]
 show (match Lib.atoiAll (l.takeWhile isD) with | .ok v => _ | .range => _ | _ => _) = _
 generalize hW : l.takeWhile isD = W at *
 subst hd
 have hw : wrap64 (((c :: d).length : Int) + 1) = (((c :: d).length + 1 : Nat) : Int) := by
  unfold wrap64
  omega
 unfold durO durS
 by_cases h3 : (c :: d).length ≤ 3
 ·rw [atoi_small c d hall h3]
  simp only
  generalize hv : valN (c :: d) = v
  rw [List.head?_cons]
  by_cases h4 : c = 48
  ·rw [if_pos, if_neg]
   ·rfl
   ·rintro ⟨_, h, _⟩
    exact h (by rw [h4])
   ·exact Or.inr (Or.inl (by rw [h4]; rfl))
  ·have h4' : ¬ (c.toNat : Int) = 48 := by
    intro e
    apply h4
    apply UInt8.toNat_inj.1
    show c.toNat = 48
    omega
   by_cases h5 : 1 ≤ v ∧ v ≤ 100
   ·rw [if_neg, if_pos]
    ·rw [hw]
    ·exact ⟨h3, by simpa using h4, h5.1, h5.2⟩
    ·rintro (h | h | h | h)
     ·omega
     ·exact h4' h
     ·omega
     ·omega
   ·rw [if_pos, if_neg]
    ·rfl
    ·rintro ⟨_, _, h⟩
     exact h5 h
    ·by_cases h6 : 1 ≤ v
     ·exact Or.inr (Or.inr (Or.inr (by omega)))
     ·exact Or.inr (Or.inr (Or.inl (by omega)))
 ·rw [if_neg (fun h => h3 h.1)]
  rcases atoi_any c d hall with ⟨v, e⟩ | e
  ·rw [e]
   simp only
   rw [if_pos (show durBad _ _ _ from Or.inl (by omega))]
   rfl
  ·rw [e]
   rfl
theorem ne_int (c : UInt8) (n : Nat) (hn : n < 256) (h : c ≠ UInt8.ofNat n) : ¬ (c.toNat : Int) = (n : Int) := fun e => h ((Print.toNat_is c n hn).1 e)
theorem eq_int (c : UInt8) (n : Nat) (hn : n < 256) (h : c = UInt8.ofNat n) : (c.toNat : Int) = (n : Int) := (Print.toNat_is c n hn).2 h
end Go.Proofs.YtnjobjogddjelaaGreatDoor.PureN
end

section
namespace Go.Proofs.YtnjobjogddjelaaGreatDoor.PureN
open Go.RowKit Go.Proofs.YtnjobjogddjelaaGreatDoor.Print Go.Proofs.YtnjobjogddjelaaGreatDoor.Pure Go.Proofs.YtnjobjogddjelaaGreatDoorW.PrintWords Go.Proofs.YtnjobjogddjelaaGreatDoorW.PrintLast Go.Proofs.YtnjobjogddjelaaGreatDoorW.PrintMore

/-! Numbers. -/
theorem w2 (a b : Nat) (h : a + b ≤ 100000) : wrap64 ((a : Int) + wrap64 (1 + (b : Int))) = ((a + (1 + b) : Nat) : Int) := by
 have e : wrap64 (1 + (b : Int)) = ((1 + b : Nat) : Int) := by unfold wrap64; omega
 rw [e]
 clear e
 unfold wrap64
 omega
def numO (l : List UInt8) (n : Nat) : Out := match rdNum (l.take n) with | some v => (2, 0, ⟨#[]⟩, false, v, 0, (n : Int)) | none => zeroO
theorem numP (l : List UInt8) (n : Nat) : (if (parseS (l.take n)).2.2 = 0 then (if (parseS (l.take n)).1 = true then (some zeroO) else (some ((2, 0, (⟨#[]⟩ : ByteArray), (parseS (l.take n)).1, (parseS (l.take n)).2.1, 0, (n : Int)) : Out))) else (some zeroO)) = some (numO l n) := by
 unfold numO rdNum
 generalize parseS (l.take n) = p
 obtain ⟨a, v, e⟩ := p
 simp only
 by_cases he : e = 0
 ·rw [if_pos he]
  cases a
  ·rw [if_neg (by simp), if_pos ⟨he, rfl⟩]
  ·rw [if_pos rfl, if_neg (by simp)]
 ·rw [if_neg he, if_neg (fun h => he h.1)]
theorem num_at (l : List UInt8) (n k : Nat) (hl : l.length ≤ 620) (hn : n ≤ l.length) (hk : 1200 < k) :
  ((fix_Parse.f k ((⟨l.toArray⟩ : ByteArray).extract 0 (n : Int).toNat)).bind fun bt147 => (if bt147.2.2 = 0 then (if bt147.1 = true then (some zeroO) else (some ((2, 0, (⟨#[]⟩ : ByteArray), bt147.1, bt147.2.1, 0, (n : Int)) : Out))) else (some zeroO))) = some (numO l n) := by
 rw [Int.toNat_natCast, ext_take, fixparse_eq k (l.take n) hk (by rw [List.length_take]; omega), Option.bind_some]
 exact numP l n
theorem number_eq (l : List UInt8) (k : Nat) (hl : l.length ≤ 600) (hk : 1210 < k) (h1 : l.takeWhile isD ≠ []) : lex_number.f k ⟨l.toArray⟩ = some (outR (readNum l)) := by
 obtain ⟨k2, rfl⟩ : ∃ m, k = m + 1 + 1 := ⟨k - 2, by omega⟩
 have hw := tw_le (p := isD) l
 have hs := List.takeWhile_append_dropWhile (p := isD) (l := l)
 have hlen := congrArg List.length hs
 rw [List.length_append] at hlen
 unfold lex_number.f readNum
 rw [many25_eq l (k2 + 1 + 1) (by omega) (by omega), Option.bind_some, size_list]
 cases hr : l.dropWhile isD with
 | nil =>
  rw [hr, List.length_nil] at hlen
  rw [if_neg (by omega), List.head?_nil, if_neg (by simp)]
  have hp : numLen l = (l.takeWhile isD).length := by unfold numLen; rw [hr]; rfl
  rw [hp]
  rw [lex_number.j0, if_neg (by simp), size_list, if_neg (by omega)]
  rw [lex_number.j1, if_neg (by simp), size_list, if_pos (by omega), if_pos (by omega)]
  refine (num_at l _ k2 (by omega) hw (by omega)).trans ?_
  unfold numO
  cases rdNum (l.take (l.takeWhile isD).length) <;> rfl
 | cons c r =>
  rw [hr, List.length_cons] at hlen
  have hlt : (l.takeWhile isD).length < l.length := by omega
  have hat : l[(l.takeWhile isD).length] = c := by
   have : (l.takeWhile isD ++ l.dropWhile isD)[(l.takeWhile isD).length]'(by rw [hs]; exact hlt) = c := by
    rw [List.getElem_append_right (Nat.le_refl _)]
    simp [hr]
   simpa [hs] using this
  have hbt := bt_list l _ hlt
  rw [hat] at hbt
  have hdrop : l.drop ((l.takeWhile isD).length + 1) = r := by
   have := congrArg (List.drop ((l.takeWhile isD).length + 1)) hs
   rw [List.drop_append, List.drop_eq_nil_of_le (by omega), List.nil_append, hr, show (l.takeWhile isD).length + 1 - (l.takeWhile isD).length = 1 by omega] at this
   exact this.symm
  rw [if_pos (by omega), if_pos (by omega), hbt, List.head?_cons]
  rw [lex_number.j0]
  by_cases h116 : c = 116
  ·rw [if_pos (by rw [h116]; rfl), if_pos (by rw [h116]), duration_eq l (by omega) h1, Option.bind_some]
   unfold durO
   cases durS (l.takeWhile isD) <;> rfl
  ·have hb : (((c.toNat : Int)) == 116) = false := beq_eq_false_iff_ne.mpr (fun e => h116 ((Print.toNat_is c 116 (by omega)).1 e))
   rw [hb, if_neg (by simp), size_list, if_pos (by omega), if_pos (by omega), hbt, if_neg (by simpa using h116)]
   rw [lex_number.j1]
   have hp : numLen l = (l.takeWhile isD).length + part (c :: r) := by unfold numLen; rw [hr]
   by_cases h46 : c = 46
   ·have hb2 : (((c.toNat : Int)) == 46) = true := by rw [h46]; rfl
    rw [if_pos hb2, w1 _ (by omega), if_pos (by omega), size_list, if_pos (by omega), Int.toNat_natCast]
    have he : (⟨l.toArray⟩ : ByteArray).extract ((l.takeWhile isD).length + 1) l.length = ⟨r.toArray⟩ := by rw [extract_list, hdrop]
    rw [he, many25_eq r k2 (by omega) (by omega), Option.bind_some]
    have hr2 := tw_le (p := isD) r
    by_cases hz : (r.takeWhile isD).length = 0
    ·have hpart : part (c :: r) = 0 := by rw [part, if_neg (fun h => h.2 hz)]
     rw [if_neg (by omega), if_pos (by omega), if_pos (by omega), hp, hpart, Nat.add_zero]
     refine (num_at l _ k2 (by omega) hw (by omega)).trans ?_
     unfold numO
     cases rdNum (l.take (l.takeWhile isD).length) <;> rfl
    ·have hpart : part (c :: r) = 1 + (r.takeWhile isD).length := by rw [part, if_pos ⟨h46, hz⟩]
     have hw2 : wrap64 (((l.takeWhile isD).length : Int) + wrap64 (1 + ((r.takeWhile isD).length : Int))) = (((l.takeWhile isD).length + (1 + (r.takeWhile isD).length) : Nat) : Int) := w2 _ _ (by omega)
     rw [if_pos (by omega), hw2, if_pos (by omega), if_pos (by omega), hp, hpart]
     refine (num_at l _ k2 (by omega) (by omega) (by omega)).trans ?_
     unfold numO
     cases rdNum (l.take ((l.takeWhile isD).length + (1 + (r.takeWhile isD).length))) <;> rfl
   ·have hb2 : (((c.toNat : Int)) == 46) = false := beq_eq_false_iff_ne.mpr (fun e => h46 ((Print.toNat_is c 46 (by omega)).1 e))
    have hpart : part (c :: r) = 0 := by rw [part, if_neg (fun h => h46 h.1)]
    rw [hb2, if_neg (by simp), size_list, if_pos (by omega), if_pos (by omega), hp, hpart, Nat.add_zero]
    refine (num_at l _ k2 (by omega) hw (by omega)).trans ?_
    unfold numO
    cases rdNum (l.take (l.takeWhile isD).length) <;> rfl
end Go.Proofs.YtnjobjogddjelaaGreatDoor.PureN
end

section
namespace Go.Proofs.YtnjobjogddjelaaGreatDoor.PureN
open Go.RowKit Go.Proofs.YtnjobjogddjelaaGreatDoor.Print Go.Proofs.YtnjobjogddjelaaGreatDoor.Pure Go.Proofs.YtnjobjogddjelaaGreatDoorW.PrintWords Go.Proofs.YtnjobjogddjelaaGreatDoorW.PrintLast Go.Proofs.YtnjobjogddjelaaGreatDoorW.PrintMore

/-! Texts, signs, the whole. -/
theorem ib_mem (c : UInt8) : ∀ l : List UInt8, 0 ≤ Lib.indexByte l c ↔ c ∈ l
 | [] => by simp [Lib.indexByte]
 | b :: l => by
  have ih := ib_mem c l
  have hge := Lib.indexByte_ge l c
  unfold Lib.indexByte
  by_cases h : b = c
  ·rw [if_pos (beq_iff_eq.2 h)]
   simp [h]
  ·rw [if_neg (by simpa using h), List.mem_cons, ← ih]
   have h' : ¬ c = b := fun e => h e.symm
   simp only [h', false_or]
   split
   ·rename_i e
    have : Lib.indexByte l c = -1 := by simpa using e
    rw [this]
   ·rename_i e
    have : ¬ Lib.indexByte l c = -1 := by simpa using e
    omega
theorem ib_eq (l : List UInt8) (c : UInt8) : strings_IndexByte.f ⟨l.toArray⟩ (c.toNat : Int) = some (Lib.indexByte l c) := by
 unfold strings_IndexByte.f
 rw [Int.toNat_natCast]
 congr 2
 simp
theorem text_eq (r : List UInt8) (hl : (34 :: r).length ≤ 700) : lex_text.f ⟨(34 :: r).toArray⟩ = some (outR (readText r)) := by
 have hu : unqR ⟨(34 :: r).toArray⟩ = fin ⟨(34 :: r).toArray⟩ [] r := by
  unfold unqR
  simp
 unfold lex_text.f label_Unquote.f readText
 rw [if_pos (by show (34 :: r).length ≤ _; omega), Option.bind_some, hu]
 unfold fin
 cases e : unq r with
 | none => rfl
 | some y =>
  obtain ⟨v, n⟩ := y
  have hy := unq_take r v n e
  simp only [List.nil_append, if_true]
  rw [size_list]
  by_cases h30 : v.length ≤ 30
  ·rw [if_neg (by omega)]
   have h10 := ib_eq v 10
   rw [show (((10 : UInt8).toNat : Nat) : Int) = 10 from rfl] at h10
   rw [h10, Option.bind_some]
   have hm := ib_mem 10 v
   by_cases hin : (10 : UInt8) ∈ v
   ·rw [if_pos (hm.2 hin), if_neg (fun h => h.2 hin)]
    rfl
   ·rw [if_neg (fun h => hin (hm.1 h)), if_pos ⟨h30, hin⟩, size_list, size_list, List.length_drop, List.length_cons]
    rw [List.length_cons] at hl
    have : wrap64 (((r.length + 1 : Nat) : Int) - ((r.length - n : Nat) : Int)) = ((n + 1 : Nat) : Int) := by
     have := hy.2.2
     unfold wrap64
     omega
    rw [this]
    rfl
  ·rw [if_pos (by omega), if_neg (fun h => h30 h.1)]
   rfl
theorem sign_eq (c : UInt8) (r : List UInt8) (k : Nat) (hl : (c :: r).length ≤ 700) (hk : 1 < k) : lex_sign.f k ⟨(c :: r).toArray⟩ = some (outR (readSign (c :: r))) := by
 obtain ⟨k, rfl⟩ : ∃ m, k = m + 1 := ⟨k - 1, by omega⟩
 have hb0 : bt ⟨(c :: r).toArray⟩ 0 = (c.toNat : Int) := bt_list (c :: r) 0 (by simp)
 have h1 := ib_eq ones c
 have h2 := ib_eq twos c
 have m1 := ib_mem c ones
 have m2 := ib_mem c twos
 have hx : ∀ l : List UInt8, (⟨l.toArray⟩ : ByteArray).extract 0 1 = ⟨(l.take 1).toArray⟩ := fun l => ext_take l 1
 have hx2 : ∀ l : List UInt8, (⟨l.toArray⟩ : ByteArray).extract 0 2 = ⟨(l.take 2).toArray⟩ := fun l => ext_take l 2
 have hj : ∀ b, lex_sign.j0 (k + 1) ⟨(c :: r).toArray⟩ 0 b = some (if b = true ∧ 2 ≤ (c :: r).length then ((5, 0, ⟨((c :: r).take 2).toArray⟩, false, 0, 0, 2) : Out) else if b = true then zeroO else if c ∈ ones then ((5, 0, ⟨((c :: r).take 1).toArray⟩, false, 0, 0, 1) : Out) else zeroO) ∨ (b = true ∧ ¬ 2 ≤ (c :: r).length) := by
  intro b
  rw [lex_sign.j0]
  cases b
  ·left
   rw [if_neg (by simp), size_list, if_pos (by rw [List.length_cons]; omega), hb0]
   have h1' : strings_IndexByte.f (⟨#[40, 41, 123, 125, 91, 93, 44, 43, 45, 42, 47, 61, 62, 60]⟩ : ByteArray) (c.toNat : Int) = some (Lib.indexByte ones c) := h1
   rw [h1', Option.bind_some]
   by_cases hin : c ∈ ones
   ·rw [if_pos (m1.2 hin), if_neg (by omega), if_pos (by omega), if_pos (by rw [List.length_cons]; omega), hx, if_neg (by simp), if_neg (by simp), if_pos hin]
   ·rw [if_neg (fun h => hin (m1.1 h)), if_pos rfl, if_neg (by simp), if_neg (by simp), if_neg hin]
    rfl
  ·by_cases h : 2 ≤ (c :: r).length
   ·left
    rw [if_pos rfl, if_neg (by omega), if_pos (by omega), size_list, if_pos (by omega), if_pos ⟨rfl, h⟩, hx2]
   ·exact Or.inr ⟨rfl, h⟩
 unfold lex_sign.f readSign
 rw [size_list]
 cases r with
 | nil =>
  have hj0 := (hj false).resolve_right (by simp)
  rw [if_neg (by simp), hj0]
  unfold signLen
  simp only [Bool.false_eq_true, false_and, if_false, List.head?_nil, reduceCtorEq]
  by_cases hin : c ∈ ones
  ·rw [if_pos hin, if_pos hin, if_neg (by omega)]
   rfl
  ·rw [if_neg hin, if_neg hin, if_pos rfl]
   rfl
 | cons d r =>
  have hb1 : bt ⟨(c :: d :: r).toArray⟩ 1 = (d.toNat : Int) := bt_list (c :: d :: r) 1 (by simp)
  have hlen : 2 ≤ (c :: d :: r).length := by simp
  rw [if_pos (by simp only [List.length_cons]; omega), if_pos (by simp only [List.length_cons]; omega), hb1]
  have h2' : strings_IndexByte.f (⟨#[94, 42, 33, 61, 62, 60]⟩ : ByteArray) (c.toNat : Int) = some (Lib.indexByte twos c) := h2
  have hj0 := (hj false).resolve_right (by simp)
  have hj1 := (hj true).resolve_right (fun h => h.2 hlen)
  simp only [Bool.false_eq_true, false_and, if_false] at hj0
  simp only [true_and] at hj1
  rw [if_pos hlen] at hj1
  have fin1 : (some (if c ∈ ones then ((5, 0, ⟨((c :: d :: r).take 1).toArray⟩, false, 0, 0, 1) : Out) else zeroO)) = some (outR (if (if c ∈ ones then 1 else 0) = 0 then none else some (⟨5, 0, (c :: d :: r).take (if c ∈ ones then 1 else 0), 0, 0⟩, (if c ∈ ones then 1 else 0)))) := by
   by_cases hin : c ∈ ones
   ·rw [if_pos hin, if_pos hin, if_neg (by omega)]
    rfl
   ·rw [if_neg hin, if_neg hin, if_pos rfl]
    rfl
  unfold signLen
  simp only [List.head?_cons, Option.some.injEq]
  by_cases h61 : d = 61
  ·rw [if_pos (by rw [h61]; rfl), if_pos (by simp only [List.length_cons]; omega), hb0, h2', Option.bind_some]
   by_cases hin2 : c ∈ twos
   ·have hs2 : (if d = 61 ∧ c ∈ twos then 2 else if c ∈ ones then 1 else 0) = 2 := if_pos ⟨h61, hin2⟩
    rw [decide_eq_true (m2.2 hin2), hj1, hs2]
    rfl
   ·have hs2 : (if d = 61 ∧ c ∈ twos then 2 else if c ∈ ones then 1 else 0) = (if c ∈ ones then 1 else 0) := if_neg (fun h => hin2 h.2)
    rw [decide_eq_false (fun h => hin2 (m2.1 h)), hj0, hs2]
    exact fin1
  ·have hs2 : (if d = 61 ∧ c ∈ twos then 2 else if c ∈ ones then 1 else 0) = (if c ∈ ones then 1 else 0) := if_neg (fun h => h61 h.1)
   have hne : ¬ (d.toNat : Int) = 61 := fun e => h61 ((Print.toNat_is d 61 (by omega)).1 e)
   rw [if_neg hne, hj0, hs2]
   exact fin1
theorem read_eq (c : UInt8) (r : List UInt8) (k : Nat) (hl : (c :: r).length ≤ 600) (hk : 1210 < k) : lex_read.f k ⟨(c :: r).toArray⟩ = some (outR (readS (c :: r))) := by
 have hb0 : bt ⟨(c :: r).toArray⟩ 0 = (c.toNat : Int) := bt_list (c :: r) 0 (by simp)
 have eta : ∀ x : Out, (some ((x.1, x.2.1, x.2.2.1, x.2.2.2.1, x.2.2.2.2.1, x.2.2.2.2.2.1, x.2.2.2.2.2.2) : Out)) = some x := fun x => rfl
 unfold lex_read.f
 rw [size_list, if_pos (by rw [List.length_cons]; omega), hb0, letter_eq, Option.bind_some, readS]
 cases h1 : isL c
 ·simp only [Bool.false_eq_true, if_false]
  rw [digit_eq, Option.bind_some]
  cases h2 : isD c
  ·simp only [Bool.false_eq_true, if_false]
   by_cases h3 : c = 34
   ·rw [if_pos (by rw [h3]; rfl), if_pos h3]
    subst h3
    rw [text_eq r (by omega), Option.bind_some]
   ·have hne : ¬ (c.toNat : Int) = 34 := fun e => h3 ((Print.toNat_is c 34 (by omega)).1 e)
    rw [if_neg hne, if_neg h3, sign_eq c r k (by omega) (by omega), Option.bind_some]
  ·simp only [if_true]
   rw [number_eq (c :: r) k hl hk (by rw [List.takeWhile_cons, if_pos h2]; simp), Option.bind_some]
 ·simp only [if_true]
  rw [ident_eq (c :: r) k (by omega) (by omega), Option.bind_some]
/-! The scan. -/
theorem w_nat (a b : Nat) (h : a + b ≤ 100000) : wrap64 ((a : Int) + (b : Int)) = ((a + b : Nat) : Int) := by
 unfold wrap64
 omega
def toS (t : Tok) : S36 := ⟨t.kind, t.place, ⟨t.text.toArray⟩, ⟨false, t.v⟩, t.n⟩
def scanO (acc : List S36) : Except Nat (List Tok) → List S36 × Int × Int
 | .ok ts => (acc ++ ts.map toS, 0, 0)
 | .error j => ([], (j : Int), 70)
theorem blank_eq (c : UInt8) : ((decide ((c.toNat : Int) = 32)) || ((c.toNat : Int) == 9)) = blank c := of_decide_eq_true (u8_dec (fun c => decide (((decide ((c.toNat : Int) = 32)) || ((c.toNat : Int) == 9)) = blank c)) (by decide +kernel) c)
theorem scan_l0 (l : List UInt8) (hl : l.length ≤ 600) : ∀ (d k i : Nat) (acc : List S36), l.length - i ≤ d → i ≤ l.length → 2 * d + 1300 < k → acc.length ≤ i →
  lex_Scan.l0 k ⟨l.toArray⟩ acc (i : Int) = some (scanO acc (scanS i (l.drop i))) := by
 intro d
 induction d with
 | zero =>
  intro k i acc h1 h2 hk ha
  obtain ⟨k, rfl⟩ : ∃ m, k = m + 1 := ⟨k - 1, by omega⟩
  rw [lex_Scan.l0, size_list, if_neg (by omega), if_pos (by omega), List.drop_eq_nil_of_le (by omega), scanS_nil]
  have : i = l.length := by omega
  rw [← this]
  rfl
 | succ d ih =>
  intro k i acc h1 h2 hk ha
  by_cases hi : i < l.length
  ·obtain ⟨k, rfl⟩ : ∃ m, k = m + 1 + 1 := ⟨k - 2, by omega⟩
   have hd := drop_cons l i hi
   have hbt := bt_list l i hi
   rw [lex_Scan.l0, size_list, if_pos (by omega), if_pos (by omega), hbt]
   generalize l[i] = c at hd hbt ⊢
   have hb := blank_eq c
   have hstep : (if (c.toNat : Int) = 32 then lex_Scan.j1 (k + 1) ⟨l.toArray⟩ acc (i : Int) true else lex_Scan.j1 (k + 1) ⟨l.toArray⟩ acc (i : Int) ((c.toNat : Int) == 9)) = lex_Scan.j1 (k + 1) ⟨l.toArray⟩ acc (i : Int) (blank c) := by
    rw [← hb]
    by_cases h32 : (c.toNat : Int) = 32
    ·rw [if_pos h32, decide_eq_true h32]
     rfl
    ·rw [if_neg h32, decide_eq_false h32]
     rfl
   rw [hstep, hd, lex_Scan.j1]
   cases hbl : blank c
   ·rw [if_neg (by simp), if_pos (by omega), size_list, if_pos (by omega), Int.toNat_natCast, extract_list, hd]
    have hlen : (c :: l.drop (i + 1)).length = l.length - i := by rw [← hd, List.length_drop]
    rw [read_eq c _ k (by rw [hlen]; omega) (by omega), Option.bind_some]
    cases hr : readS (c :: l.drop (i + 1)) with
    | none =>
     rw [scanS_bad i c _ hbl hr]
     rfl
    | some x =>
     have hp := readS_pos _ x hr
     rw [hlen] at hp
     rw [scanS_good i c _ x hr]
     show (if (x.2 : Int) = 0 then _ else _) = _
     rw [if_neg (by omega), if_pos (by omega)]
     show lex_Scan.l0 k ⟨l.toArray⟩ (acc ++ [toS { x.1 with place := (i : Int) }]) (wrap64 ((i : Int) + (x.2 : Int))) = _
     have hw : wrap64 ((i : Int) + (x.2 : Int)) = ((i + x.2 : Nat) : Int) := w_nat _ _ (by omega)
     clear hstep hb hbl hr hbt
     rw [hw, ih k (i + x.2) _ (by omega) (by omega) (by omega) (by rw [List.length_append, List.length_singleton]; omega), List.drop_drop]
     rw [show i + 1 + (x.2 - 1) = i + x.2 by omega]
     cases scanS (i + x.2) (l.drop (i + x.2)) with
     | error j => rfl
     | ok ts =>
      unfold scanO
      simp
   ·rw [if_pos rfl, w1 i (by omega), ih k (i + 1) acc (by omega) (by omega) (by omega) (by omega), scanS_blank i c _ hbl]
  ·obtain ⟨k, rfl⟩ : ∃ m, k = m + 1 := ⟨k - 1, by omega⟩
   rw [lex_Scan.l0, size_list, if_neg (by omega), if_pos (by omega), List.drop_eq_nil_of_le (by omega), scanS_nil]
   have : i = l.length := by omega
   rw [← this]
   rfl
/-- The whole: signs, or where it stops; too long. -/
def scanW (l : List UInt8) : List S36 × Int × Int := if 600 < l.length then ([], 0, 11) else scanO [] (scanS 0 l)
theorem lexscan_eq (l : List UInt8) (k : Nat) (hk : 3000 < k) : lex_Scan.f k ⟨l.toArray⟩ = some (scanW l) := by
 unfold lex_Scan.f scanW
 rw [size_list]
 by_cases h : 600 < l.length
 ·rw [if_pos (by omega), if_pos h]
 ·rw [if_neg (by omega), if_neg h]
  exact scan_l0 l (by omega) l.length k 0 [] (by omega) (by omega) (by omega) (by simp)
end Go.Proofs.YtnjobjogddjelaaGreatDoor.PureN
end

section
namespace Go.Proofs.YtnjobjogddjelaaGreatDoor.Print
open Go.RowKit Go.Proofs.YtnjobjogddjelaaGreatDoorX Go.Proofs.YtnjobjogddjelaaGreatDoorW.PrintWords Go.Proofs.YtnjobjogddjelaaGreatDoorW.PrintLast Go.Proofs.YtnjobjogddjelaaGreatDoorW.PrintMore
attribute [local go_sem] max2_int min2_int max_two min_two max_three min_three max_four min_four

/-! ### lex_one: function 20 -/
def lex_one.f (a0_0 : Int) (a0_1 : Int) (a0_2 : ByteArray) (a0_3 : Bool) (a0_4 : Int) (a0_5 : Int) : Option (ByteArray) := if a0_0 = 2 then ((fix_Print.f a0_3 a0_4).bind fun t216 => (some t216)) else (if a0_0 = 3 then ((strconv_Itoa.f (mx a0_5 0)).bind fun t217 => (if t217.size + 1 ≤ 9223372036854775807 then (some (t217 ++ (⟨#[116]⟩ : ByteArray))) else (none))) else (if a0_0 = 4 then ((label_Quote.f a0_2).bind fun t218 => (some t218)) else (if a0_0 = 1 then (some a0_2) else (if a0_0 = 5 then (some a0_2) else (some (⟨#[]⟩ : ByteArray))))))
set_option maxHeartbeats 8000000 in
set_option maxRecDepth 100000 in
theorem lex_one.calls (a0_0 : Int) (a0_1 : Int) (a0_2 : ByteArray) (a0_3 : Bool) (a0_4 : Int) (a0_5 : Int) (r : ByteArray) (w : World) (hg_ : LaidW w) (h : lex_one.f a0_0 a0_1 a0_2 a0_3 a0_4 a0_5 = some r) :
  Calls Tryz.prog 20 #[.agg #[.int .i64 a0_0, .int .i64 a0_1, .string a0_2, .bool a0_3, .int .i64 a0_4, .int .i64 a0_5]] w fun e w' => e = .returned (.string r) ∧ Below w.heap.size w w' := by
 have HLW := Aside0.mk hg_
 clear hg_
 have hu36 := Tryz.underlying36
 have hu34 := Tryz.underlying34
 have HB := Aside0.mk (Below.refl w.heap.size w)
 have H : (if a0_0 = 2 then ((fix_Print.f a0_3 a0_4).bind fun t216 => (some t216)) else (if a0_0 = 3 then ((strconv_Itoa.f (mx a0_5 0)).bind fun t217 => (if t217.size + 1 ≤ 9223372036854775807 then (some (t217 ++ (⟨#[116]⟩ : ByteArray))) else (none))) else (if a0_0 = 4 then ((label_Quote.f a0_2).bind fun t218 => (some t218)) else (if a0_0 = 1 then (some a0_2) else (if a0_0 = 5 then (some a0_2) else (some (⟨#[]⟩ : ByteArray))))))) = some r := h
 clear h
 by_cases c2 : a0_0 = 2
 ·rw [if_pos c2] at H
  have c2b0 : (a0_0 == 2) = true := beq_iff_eq.mpr c2
  have c2b1 : (a0_0 != 2) = false := bne_eq_false_iff_eq.mpr c2
  clear c2
  replace H := Option.bind_eq_some_iff.mp H
  obtain ⟨t216, A30, H⟩ := H
  replace H : (some t216) = some r := H
  have A3 := Aside0.mk A30
  clear A30
  obtain rfl := Option.some.inj H
  go_enter Tryz.func20, Tryz.ntmps20
  go_wp2_with (first | ((with_reducible refine gate_dst (N := 1) rfl ?_); refine box_event ?hg (N := 1) ?hd (cs := #[.int .i64 a0_0, .int .i64 a0_1, .string a0_2, .bool a0_3, .int .i64 a0_4, .int .i64 a0_5]) (t := 36) ?hr ?_; (case hd => rfl); (case hg => rfl); (case hr => first | (go_simp; done) | (go_simp; rfl)); intro gb215 hg w4 hbox hb; have n0_ := Aside0.mk (below_step (by repeat (first | (with_reducible first | exact HB.out | apply below_alloc | apply pw_below_drewN | apply below_drew1) | exact HB.out)) hb); have n1_ := Aside0.mk (hbox); have n2_ := Aside0.mk ((by rw [hg]; exact (below_size (by repeat (first | (with_reducible first | exact HB.out | apply below_alloc | apply pw_below_drewN | apply below_drew1) | exact HB.out))) : w.heap.size ≤ gb215)); have n3_ := Aside0.mk ((by rw [hg]; exact (below_size (by repeat (first | (with_reducible first | exact HB.out | apply below_alloc | apply pw_below_drewN | apply below_drew1) | exact HB.out))) : w.heap.size ≤ gb215)); clear HB; have HB := n0_; have BK215 := n1_; have GW215 := n2_; have GE215 := n3_; clear n0_ n1_ n2_ n3_; clear hb hbox hg; have hcz5_0 : w4.cell? ⟨gb215, 0, none⟩ = some (.int .i64 a0_0) := (blk_cell BK215.out 0).trans rfl; have hcz5_1 : w4.cell? ⟨gb215, 1, none⟩ = some (.int .i64 a0_1) := (blk_cell BK215.out 1).trans rfl; have hcz5_2 : w4.cell? ⟨gb215, 2, none⟩ = some (.string a0_2) := (blk_cell BK215.out 2).trans rfl; have hcz5_3 : w4.cell? ⟨gb215, 3, none⟩ = some (.bool a0_3) := (blk_cell BK215.out 3).trans rfl; have hcz5_4 : w4.cell? ⟨gb215, 4, none⟩ = some (.int .i64 a0_4) := (blk_cell BK215.out 4).trans rfl; have hcz5_5 : w4.cell? ⟨gb215, 5, none⟩ = some (.int .i64 a0_5) := (blk_cell BK215.out 5).trans rfl; have hfz5_0 := blk_frozen BK215.out 0; have hfz5_1 := blk_frozen BK215.out 1; have hfz5_2 := blk_frozen BK215.out 2; have hfz5_3 := blk_frozen BK215.out 3; have hfz5_4 := blk_frozen BK215.out 4; have hfz5_5 := blk_frozen BK215.out 5) | ((with_reducible refine gate_callee (f := 33) rfl ?_); refine goesL_ (some 9) rfl rfl Tryz.func33 (by kernel_rfl) rfl #[.agg #[.bool a0_3, .int .i64 a0_4]] rfl (by (try simp only [List.map_toArray, List.map_cons, List.map_nil]); first | done | rfl | (simp only [List.length_drop, List.length_take]; rfl)) ?_; (with_reducible refine (fix_Print.calls a0_3 a0_4 t216 _ ?side1 A3.out).mono ?_); (case side1 => exact LaidW.below HLW.out (by repeat (first | (with_reducible first | exact HB.out | apply below_alloc | apply pw_below_drewN | apply below_drew1) | exact HB.out | (refine below_set ?_ (Aside0.out ?hge); (case hge => assumption))))); rintro e w6 ⟨rfl, hb⟩; refine ⟨_, rfl, ?_⟩; have n0_ := Aside0.mk (blk_below (g := gb215) (o := .cells #[.int .i64 a0_0, .int .i64 a0_1, .string a0_2, .bool a0_3, .int .i64 a0_4, .int .i64 a0_5] 36 (0, 0)) (by (with_reducible repeat (first | refine blk_drewN ?_ _ | refine blk_drew ?_ | refine blk_alloc ?_ _)); exact BK215.out) hb); have n1_ := Aside0.mk (below_step (by repeat (first | (with_reducible first | exact HB.out | apply below_alloc | apply pw_below_drewN | apply below_drew1 | refine below_set ?_ GE215.out) | exact HB.out)) hb); clear BK215; clear HB; have BK215 := n0_; have HB := n1_; clear n0_ n1_; (try clear hb); (try clear hb2); (try clear hk); (try clear hi)))
  go_ret
  exact ⟨by first | rfl | (simp [errW_none, errW_some] <;> rfl) | (simp [*, errW_none, errW_some] <;> rfl), by repeat (first | (with_reducible first | exact HB.out | apply below_alloc | apply pw_below_drewN | apply below_drew1 | refine below_set ?_ GE215.out) | exact HB.out)⟩
 ·rw [if_neg c2] at H
  have c2b0 : (a0_0 == 2) = false := beq_eq_false_iff_ne.mpr c2
  have c2b1 : (a0_0 != 2) = true := bne_iff_ne.mpr c2
  by_cases c7 : a0_0 = 3
  ·rw [if_pos c7] at H
   have c7b0 : (a0_0 == 3) = true := beq_iff_eq.mpr c7
   have c7b1 : (a0_0 != 3) = false := bne_eq_false_iff_eq.mpr c7
   clear c7
   obtain ⟨ji8, hji8⟩ : ∃ j_ : Int, (mx a0_5 0) = j_ := ⟨_, rfl⟩
   replace H : ((strconv_Itoa.f (ji8)).bind fun t217 => (if t217.size + 1 ≤ 9223372036854775807 then (some (t217 ++ (⟨#[116]⟩ : ByteArray))) else (none))) = some r := by first | (rw [hji8] at H; exact H) | (simp only [hji8] at H ⊢; exact H)
   (try (have hji8l : 0 ≤ ji8 := by (rw [← hji8]; unfold mx; (repeat' split) <;> omega)))
   (try (have hji8m : 0 ≤ ji8 := by omega))
   have hji8_ : (if a0_5 < 0 then 0 else a0_5) = ji8 := hji8
   replace H := Option.bind_eq_some_iff.mp H
   obtain ⟨t217, A90, H⟩ := H
   replace H : (if t217.size + 1 ≤ 9223372036854775807 then (some (t217 ++ (⟨#[116]⟩ : ByteArray))) else (none)) = some r := H
   have A9 := Aside0.mk A90
   clear A90
   by_cases c10 : t217.size + 1 ≤ 9223372036854775807
   ·rw [if_pos c10] at H
    have c10b0 := eq_true c10
    have c10b1 : decide (t217.size + 1 ≤ 9223372036854775807) = true := decide_eq_true c10
    try have c10b2 : (9223372036854775807 < t217.size + 1) = False := eq_false (Nat.not_lt.2 c10)
    obtain rfl := Option.some.inj H
    go_enter Tryz.func20, Tryz.ntmps20
    go_wp2_with (first | ((with_reducible refine gate_dst (N := 1) rfl ?_); refine box_event ?hg (N := 1) ?hd (cs := #[.int .i64 a0_0, .int .i64 a0_1, .string a0_2, .bool a0_3, .int .i64 a0_4, .int .i64 a0_5]) (t := 36) ?hr ?_; (case hd => rfl); (case hg => rfl); (case hr => first | (go_simp; done) | (go_simp; rfl)); intro gb215 hg w11 hbox hb; have n0_ := Aside0.mk (below_step (by repeat (first | (with_reducible first | exact HB.out | apply below_alloc | apply pw_below_drewN | apply below_drew1) | exact HB.out)) hb); have n1_ := Aside0.mk (hbox); have n2_ := Aside0.mk ((by rw [hg]; exact (below_size (by repeat (first | (with_reducible first | exact HB.out | apply below_alloc | apply pw_below_drewN | apply below_drew1) | exact HB.out))) : w.heap.size ≤ gb215)); have n3_ := Aside0.mk ((by rw [hg]; exact (below_size (by repeat (first | (with_reducible first | exact HB.out | apply below_alloc | apply pw_below_drewN | apply below_drew1) | exact HB.out))) : w.heap.size ≤ gb215)); clear HB; have HB := n0_; have BK215 := n1_; have GW215 := n2_; have GE215 := n3_; clear n0_ n1_ n2_ n3_; clear hb hbox hg; have hcz12_0 : w11.cell? ⟨gb215, 0, none⟩ = some (.int .i64 a0_0) := (blk_cell BK215.out 0).trans rfl; have hcz12_1 : w11.cell? ⟨gb215, 1, none⟩ = some (.int .i64 a0_1) := (blk_cell BK215.out 1).trans rfl; have hcz12_2 : w11.cell? ⟨gb215, 2, none⟩ = some (.string a0_2) := (blk_cell BK215.out 2).trans rfl; have hcz12_3 : w11.cell? ⟨gb215, 3, none⟩ = some (.bool a0_3) := (blk_cell BK215.out 3).trans rfl; have hcz12_4 : w11.cell? ⟨gb215, 4, none⟩ = some (.int .i64 a0_4) := (blk_cell BK215.out 4).trans rfl; have hcz12_5 : w11.cell? ⟨gb215, 5, none⟩ = some (.int .i64 a0_5) := (blk_cell BK215.out 5).trans rfl; have hfz12_0 := blk_frozen BK215.out 0; have hfz12_1 := blk_frozen BK215.out 1; have hfz12_2 := blk_frozen BK215.out 2; have hfz12_3 := blk_frozen BK215.out 3; have hfz12_4 := blk_frozen BK215.out 4; have hfz12_5 := blk_frozen BK215.out 5) | ((with_reducible refine gate_callee (f := 34) rfl ?_); refine goesL_ (some 15) rfl rfl Tryz.func34 (by kernel_rfl) rfl #[.int .i64 ji8] rfl (by (try simp only [List.map_toArray, List.map_cons, List.map_nil]); first | done | (simp only [hji8]; rfl) | rfl | (simp only [List.length_drop, List.length_take]; rfl)) ?_; (with_reducible refine (strconv_Itoa.calls ji8 t217 _ ?side1 A9.out).mono ?_); (case side1 => exact LaidW.below HLW.out (by repeat (first | (with_reducible first | exact HB.out | apply below_alloc | apply pw_below_drewN | apply below_drew1) | exact HB.out | (refine below_set ?_ (Aside0.out ?hge); (case hge => assumption))))); rintro e w13 ⟨rfl, hb⟩; refine ⟨_, rfl, ?_⟩; have n0_ := Aside0.mk (blk_below (g := gb215) (o := .cells #[.int .i64 a0_0, .int .i64 a0_1, .string a0_2, .bool a0_3, .int .i64 a0_4, .int .i64 a0_5] 36 (0, 0)) (by (with_reducible repeat (first | refine blk_drewN ?_ _ | refine blk_drew ?_ | refine blk_alloc ?_ _)); exact BK215.out) hb); have n1_ := Aside0.mk (below_step (by repeat (first | (with_reducible first | exact HB.out | apply below_alloc | apply pw_below_drewN | apply below_drew1 | refine below_set ?_ GE215.out) | exact HB.out)) hb); clear BK215; clear HB; have BK215 := n0_; have HB := n1_; clear n0_ n1_; (try clear hb); (try clear hb2); (try clear hk); (try clear hi)))
    go_ret
    exact ⟨by first | rfl | (simp [errW_none, errW_some] <;> rfl) | (simp only [← hji8]; first | rfl | (simp [errW_none, errW_some] <;> rfl)) | (simp [*, errW_none, errW_some] <;> rfl), by repeat (first | (with_reducible first | exact HB.out | apply below_alloc | apply pw_below_drewN | apply below_drew1 | refine below_set ?_ GE215.out) | exact HB.out)⟩
   ·rw [if_neg c10] at H
    exact absurd H (by simp)
  ·rw [if_neg c7] at H
   have c7b0 : (a0_0 == 3) = false := beq_eq_false_iff_ne.mpr c7
   have c7b1 : (a0_0 != 3) = true := bne_iff_ne.mpr c7
   by_cases c14 : a0_0 = 4
   ·rw [if_pos c14] at H
    have c14b0 : (a0_0 == 4) = true := beq_iff_eq.mpr c14
    have c14b1 : (a0_0 != 4) = false := bne_eq_false_iff_eq.mpr c14
    clear c14
    replace H := Option.bind_eq_some_iff.mp H
    obtain ⟨t218, A150, H⟩ := H
    replace H : (some t218) = some r := H
    have A15 := Aside0.mk A150
    clear A150
    obtain rfl := Option.some.inj H
    go_enter Tryz.func20, Tryz.ntmps20
    go_wp2_with (first | ((with_reducible refine gate_dst (N := 1) rfl ?_); refine box_event ?hg (N := 1) ?hd (cs := #[.int .i64 a0_0, .int .i64 a0_1, .string a0_2, .bool a0_3, .int .i64 a0_4, .int .i64 a0_5]) (t := 36) ?hr ?_; (case hd => rfl); (case hg => rfl); (case hr => first | (go_simp; done) | (go_simp; rfl)); intro gb215 hg w16 hbox hb; have n0_ := Aside0.mk (below_step (by repeat (first | (with_reducible first | exact HB.out | apply below_alloc | apply pw_below_drewN | apply below_drew1) | exact HB.out)) hb); have n1_ := Aside0.mk (hbox); have n2_ := Aside0.mk ((by rw [hg]; exact (below_size (by repeat (first | (with_reducible first | exact HB.out | apply below_alloc | apply pw_below_drewN | apply below_drew1) | exact HB.out))) : w.heap.size ≤ gb215)); have n3_ := Aside0.mk ((by rw [hg]; exact (below_size (by repeat (first | (with_reducible first | exact HB.out | apply below_alloc | apply pw_below_drewN | apply below_drew1) | exact HB.out))) : w.heap.size ≤ gb215)); clear HB; have HB := n0_; have BK215 := n1_; have GW215 := n2_; have GE215 := n3_; clear n0_ n1_ n2_ n3_; clear hb hbox hg; have hcz17_0 : w16.cell? ⟨gb215, 0, none⟩ = some (.int .i64 a0_0) := (blk_cell BK215.out 0).trans rfl; have hcz17_1 : w16.cell? ⟨gb215, 1, none⟩ = some (.int .i64 a0_1) := (blk_cell BK215.out 1).trans rfl; have hcz17_2 : w16.cell? ⟨gb215, 2, none⟩ = some (.string a0_2) := (blk_cell BK215.out 2).trans rfl; have hcz17_3 : w16.cell? ⟨gb215, 3, none⟩ = some (.bool a0_3) := (blk_cell BK215.out 3).trans rfl; have hcz17_4 : w16.cell? ⟨gb215, 4, none⟩ = some (.int .i64 a0_4) := (blk_cell BK215.out 4).trans rfl; have hcz17_5 : w16.cell? ⟨gb215, 5, none⟩ = some (.int .i64 a0_5) := (blk_cell BK215.out 5).trans rfl; have hfz17_0 := blk_frozen BK215.out 0; have hfz17_1 := blk_frozen BK215.out 1; have hfz17_2 := blk_frozen BK215.out 2; have hfz17_3 := blk_frozen BK215.out 3; have hfz17_4 := blk_frozen BK215.out 4; have hfz17_5 := blk_frozen BK215.out 5) | ((with_reducible refine gate_callee (f := 35) rfl ?_); refine goesL_ (some 21) rfl rfl Tryz.func35 (by kernel_rfl) rfl #[.string a0_2] rfl (by (try simp only [List.map_toArray, List.map_cons, List.map_nil]); first | done | rfl | (simp only [List.length_drop, List.length_take]; rfl)) ?_; (with_reducible refine (label_Quote.calls a0_2 t218 _ A15.out).mono ?_); rintro e w18 ⟨rfl, hb⟩; refine ⟨_, rfl, ?_⟩; have n0_ := Aside0.mk (blk_below (g := gb215) (o := .cells #[.int .i64 a0_0, .int .i64 a0_1, .string a0_2, .bool a0_3, .int .i64 a0_4, .int .i64 a0_5] 36 (0, 0)) (by (with_reducible repeat (first | refine blk_drewN ?_ _ | refine blk_drew ?_ | refine blk_alloc ?_ _)); exact BK215.out) hb); have n1_ := Aside0.mk (below_step (by repeat (first | (with_reducible first | exact HB.out | apply below_alloc | apply pw_below_drewN | apply below_drew1 | refine below_set ?_ GE215.out) | exact HB.out)) hb); clear BK215; clear HB; have BK215 := n0_; have HB := n1_; clear n0_ n1_; (try clear hb); (try clear hb2); (try clear hk); (try clear hi)))
    go_ret
    exact ⟨by first | rfl | (simp [errW_none, errW_some] <;> rfl) | (simp [*, errW_none, errW_some] <;> rfl), by repeat (first | (with_reducible first | exact HB.out | apply below_alloc | apply pw_below_drewN | apply below_drew1 | refine below_set ?_ GE215.out) | exact HB.out)⟩
   ·rw [if_neg c14] at H
    have c14b0 : (a0_0 == 4) = false := beq_eq_false_iff_ne.mpr c14
    have c14b1 : (a0_0 != 4) = true := bne_iff_ne.mpr c14
    by_cases c19 : a0_0 = 1
    ·rw [if_pos c19] at H
     have c19b0 : (a0_0 == 1) = true := beq_iff_eq.mpr c19
     have c19b1 : (a0_0 != 1) = false := bne_eq_false_iff_eq.mpr c19
     clear c19
     obtain rfl := Option.some.inj H
     go_enter Tryz.func20, Tryz.ntmps20
     go_wp2_with (first | ((with_reducible refine gate_dst (N := 1) rfl ?_); refine box_event ?hg (N := 1) ?hd (cs := #[.int .i64 a0_0, .int .i64 a0_1, .string a0_2, .bool a0_3, .int .i64 a0_4, .int .i64 a0_5]) (t := 36) ?hr ?_; (case hd => rfl); (case hg => rfl); (case hr => first | (go_simp; done) | (go_simp; rfl)); intro gb215 hg w20 hbox hb; have n0_ := Aside0.mk (below_step (by repeat (first | (with_reducible first | exact HB.out | apply below_alloc | apply pw_below_drewN | apply below_drew1) | exact HB.out)) hb); have n1_ := Aside0.mk (hbox); have n2_ := Aside0.mk ((by rw [hg]; exact (below_size (by repeat (first | (with_reducible first | exact HB.out | apply below_alloc | apply pw_below_drewN | apply below_drew1) | exact HB.out))) : w.heap.size ≤ gb215)); have n3_ := Aside0.mk ((by rw [hg]; exact (below_size (by repeat (first | (with_reducible first | exact HB.out | apply below_alloc | apply pw_below_drewN | apply below_drew1) | exact HB.out))) : w.heap.size ≤ gb215)); clear HB; have HB := n0_; have BK215 := n1_; have GW215 := n2_; have GE215 := n3_; clear n0_ n1_ n2_ n3_; clear hb hbox hg; have hcz21_0 : w20.cell? ⟨gb215, 0, none⟩ = some (.int .i64 a0_0) := (blk_cell BK215.out 0).trans rfl; have hcz21_1 : w20.cell? ⟨gb215, 1, none⟩ = some (.int .i64 a0_1) := (blk_cell BK215.out 1).trans rfl; have hcz21_2 : w20.cell? ⟨gb215, 2, none⟩ = some (.string a0_2) := (blk_cell BK215.out 2).trans rfl; have hcz21_3 : w20.cell? ⟨gb215, 3, none⟩ = some (.bool a0_3) := (blk_cell BK215.out 3).trans rfl; have hcz21_4 : w20.cell? ⟨gb215, 4, none⟩ = some (.int .i64 a0_4) := (blk_cell BK215.out 4).trans rfl; have hcz21_5 : w20.cell? ⟨gb215, 5, none⟩ = some (.int .i64 a0_5) := (blk_cell BK215.out 5).trans rfl; have hfz21_0 := blk_frozen BK215.out 0; have hfz21_1 := blk_frozen BK215.out 1; have hfz21_2 := blk_frozen BK215.out 2; have hfz21_3 := blk_frozen BK215.out 3; have hfz21_4 := blk_frozen BK215.out 4; have hfz21_5 := blk_frozen BK215.out 5))
     go_ret
     exact ⟨by first | rfl | (simp [errW_none, errW_some] <;> rfl) | (simp [*, errW_none, errW_some] <;> rfl), by repeat (first | (with_reducible first | exact HB.out | apply below_alloc | apply pw_below_drewN | apply below_drew1 | refine below_set ?_ GE215.out) | exact HB.out)⟩
    ·rw [if_neg c19] at H
     have c19b0 : (a0_0 == 1) = false := beq_eq_false_iff_ne.mpr c19
     have c19b1 : (a0_0 != 1) = true := bne_iff_ne.mpr c19
     by_cases c22 : a0_0 = 5
     ·rw [if_pos c22] at H
      have c22b0 : (a0_0 == 5) = true := beq_iff_eq.mpr c22
      have c22b1 : (a0_0 != 5) = false := bne_eq_false_iff_eq.mpr c22
      clear c22
      obtain rfl := Option.some.inj H
      go_enter Tryz.func20, Tryz.ntmps20
      go_wp2_with (first | ((with_reducible refine gate_dst (N := 1) rfl ?_); refine box_event ?hg (N := 1) ?hd (cs := #[.int .i64 a0_0, .int .i64 a0_1, .string a0_2, .bool a0_3, .int .i64 a0_4, .int .i64 a0_5]) (t := 36) ?hr ?_; (case hd => rfl); (case hg => rfl); (case hr => first | (go_simp; done) | (go_simp; rfl)); intro gb215 hg w23 hbox hb; have n0_ := Aside0.mk (below_step (by repeat (first | (with_reducible first | exact HB.out | apply below_alloc | apply pw_below_drewN | apply below_drew1) | exact HB.out)) hb); have n1_ := Aside0.mk (hbox); have n2_ := Aside0.mk ((by rw [hg]; exact (below_size (by repeat (first | (with_reducible first | exact HB.out | apply below_alloc | apply pw_below_drewN | apply below_drew1) | exact HB.out))) : w.heap.size ≤ gb215)); have n3_ := Aside0.mk ((by rw [hg]; exact (below_size (by repeat (first | (with_reducible first | exact HB.out | apply below_alloc | apply pw_below_drewN | apply below_drew1) | exact HB.out))) : w.heap.size ≤ gb215)); clear HB; have HB := n0_; have BK215 := n1_; have GW215 := n2_; have GE215 := n3_; clear n0_ n1_ n2_ n3_; clear hb hbox hg; have hcz24_0 : w23.cell? ⟨gb215, 0, none⟩ = some (.int .i64 a0_0) := (blk_cell BK215.out 0).trans rfl; have hcz24_1 : w23.cell? ⟨gb215, 1, none⟩ = some (.int .i64 a0_1) := (blk_cell BK215.out 1).trans rfl; have hcz24_2 : w23.cell? ⟨gb215, 2, none⟩ = some (.string a0_2) := (blk_cell BK215.out 2).trans rfl; have hcz24_3 : w23.cell? ⟨gb215, 3, none⟩ = some (.bool a0_3) := (blk_cell BK215.out 3).trans rfl; have hcz24_4 : w23.cell? ⟨gb215, 4, none⟩ = some (.int .i64 a0_4) := (blk_cell BK215.out 4).trans rfl; have hcz24_5 : w23.cell? ⟨gb215, 5, none⟩ = some (.int .i64 a0_5) := (blk_cell BK215.out 5).trans rfl; have hfz24_0 := blk_frozen BK215.out 0; have hfz24_1 := blk_frozen BK215.out 1; have hfz24_2 := blk_frozen BK215.out 2; have hfz24_3 := blk_frozen BK215.out 3; have hfz24_4 := blk_frozen BK215.out 4; have hfz24_5 := blk_frozen BK215.out 5))
      go_ret
      exact ⟨by first | rfl | (simp [errW_none, errW_some] <;> rfl) | (simp [*, errW_none, errW_some] <;> rfl), by repeat (first | (with_reducible first | exact HB.out | apply below_alloc | apply pw_below_drewN | apply below_drew1 | refine below_set ?_ GE215.out) | exact HB.out)⟩
     ·rw [if_neg c22] at H
      have c22b0 : (a0_0 == 5) = false := beq_eq_false_iff_ne.mpr c22
      have c22b1 : (a0_0 != 5) = true := bne_iff_ne.mpr c22
      obtain rfl := Option.some.inj H
      go_enter Tryz.func20, Tryz.ntmps20
      go_wp2_with (first | ((with_reducible refine gate_dst (N := 1) rfl ?_); refine box_event ?hg (N := 1) ?hd (cs := #[.int .i64 a0_0, .int .i64 a0_1, .string a0_2, .bool a0_3, .int .i64 a0_4, .int .i64 a0_5]) (t := 36) ?hr ?_; (case hd => rfl); (case hg => rfl); (case hr => first | (go_simp; done) | (go_simp; rfl)); intro gb215 hg w25 hbox hb; have n0_ := Aside0.mk (below_step (by repeat (first | (with_reducible first | exact HB.out | apply below_alloc | apply pw_below_drewN | apply below_drew1) | exact HB.out)) hb); have n1_ := Aside0.mk (hbox); have n2_ := Aside0.mk ((by rw [hg]; exact (below_size (by repeat (first | (with_reducible first | exact HB.out | apply below_alloc | apply pw_below_drewN | apply below_drew1) | exact HB.out))) : w.heap.size ≤ gb215)); have n3_ := Aside0.mk ((by rw [hg]; exact (below_size (by repeat (first | (with_reducible first | exact HB.out | apply below_alloc | apply pw_below_drewN | apply below_drew1) | exact HB.out))) : w.heap.size ≤ gb215)); clear HB; have HB := n0_; have BK215 := n1_; have GW215 := n2_; have GE215 := n3_; clear n0_ n1_ n2_ n3_; clear hb hbox hg; have hcz26_0 : w25.cell? ⟨gb215, 0, none⟩ = some (.int .i64 a0_0) := (blk_cell BK215.out 0).trans rfl; have hcz26_1 : w25.cell? ⟨gb215, 1, none⟩ = some (.int .i64 a0_1) := (blk_cell BK215.out 1).trans rfl; have hcz26_2 : w25.cell? ⟨gb215, 2, none⟩ = some (.string a0_2) := (blk_cell BK215.out 2).trans rfl; have hcz26_3 : w25.cell? ⟨gb215, 3, none⟩ = some (.bool a0_3) := (blk_cell BK215.out 3).trans rfl; have hcz26_4 : w25.cell? ⟨gb215, 4, none⟩ = some (.int .i64 a0_4) := (blk_cell BK215.out 4).trans rfl; have hcz26_5 : w25.cell? ⟨gb215, 5, none⟩ = some (.int .i64 a0_5) := (blk_cell BK215.out 5).trans rfl; have hfz26_0 := blk_frozen BK215.out 0; have hfz26_1 := blk_frozen BK215.out 1; have hfz26_2 := blk_frozen BK215.out 2; have hfz26_3 := blk_frozen BK215.out 3; have hfz26_4 := blk_frozen BK215.out 4; have hfz26_5 := blk_frozen BK215.out 5))
      go_ret
      exact ⟨by first | rfl | (simp [errW_none, errW_some] <;> rfl) | (simp [*, errW_none, errW_some] <;> rfl), by repeat (first | (with_reducible first | exact HB.out | apply below_alloc | apply pw_below_drewN | apply below_drew1 | refine below_set ?_ GE215.out) | exact HB.out)⟩

end Go.Proofs.YtnjobjogddjelaaGreatDoor.Print
end

section
namespace Go.Proofs.YtnjobjogddjelaaGreatDoor.Print
open Go.RowKit Go.Proofs.YtnjobjogddjelaaGreatDoorX Go.Proofs.YtnjobjogddjelaaGreatDoorW.PrintWords Go.Proofs.YtnjobjogddjelaaGreatDoorW.PrintLast Go.Proofs.YtnjobjogddjelaaGreatDoorW.PrintMore
attribute [local go_sem] max2_int min2_int max_two min_two max_three min_three max_four min_four

/-! ### lex_Print: function 12 -/
def lex_Print.l0 : Nat → List ByteArray → List (S36) → Int → Int → Option (ByteArray)
 | 0, _, _, _, _ => none
 | k + 1, x3, x7, x8, x9 => if x9 < x8 then (if 0 ≤ x9 then (if x9 < (x7.length : Int) then ((lex_one.f ((rd_T36 x7 x9).f0) ((rd_T36 x7 x9).f1) ((rd_T36 x7 x9).f2) ((rd_T36 x7 x9).f3.f0) ((rd_T36 x7 x9).f3.f1) ((rd_T36 x7 x9).f4)).bind fun t221 => (if t221.toList = ([] : List UInt8) then (lex_Print.l0 k x3 x7 x8 (wrap64 (x9 + 1))) else (if x3.length < 8796093022208 then (lex_Print.l0 k (x3 ++ [t221]) x7 x8 (wrap64 (x9 + 1))) else (none)))) else (none)) else (none)) else ((strings_Join.f x3 (⟨#[32]⟩ : ByteArray)).bind fun t225 => (some t225))
def lex_Print.f (k : Nat) (l0 : List (S36)) : Option (ByteArray) := lex_Print.l0 k ([] : List ByteArray) l0 (l0.length : Int) 0
theorem lex_Print.mono_l : ∀ k, (∀ y0 y1 y2 y3, LeO (lex_Print.l0 k y0 y1 y2 y3) (lex_Print.l0 (k + 1) y0 y1 y2 y3))
 | 0 => fun _ _ _ _ r h => by simp [lex_Print.l0] at h
 | k + 1 => by
  have ih0 := lex_Print.mono_l k
  ·intro y0 y1 y2 y3
   unfold lex_Print.l0
   repeat' first
   | (with_reducible exact ih0 _ _ _ _)
   | (with_reducible exact LeO.refl _)
   | (with_reducible exact LeO.none _)
   | (with_reducible refine LeO.ite ?_ ?_)
   | (with_reducible refine LeO.bind ?_ (fun _ => ?_))
   | exact ih0 _ _ _ _
   | exact LeO.none _
   | refine LeO.ite ?_ ?_
   | refine LeO.bind ?_ (fun _ => ?_)
theorem lex_Print.mono : ∀ a0 k, LeO (lex_Print.f k a0) (lex_Print.f (k + 1) a0) := by
 intro a0 k
 have ih0 := lex_Print.mono_l k
 unfold lex_Print.f
 repeat' first
   | (with_reducible exact ih0 _ _ _ _)
   | (with_reducible exact LeO.refl _)
   | (with_reducible exact LeO.none _)
   | (with_reducible refine LeO.ite ?_ ?_)
   | (with_reducible refine LeO.bind ?_ (fun _ => ?_))
   | exact ih0 _ _ _ _
   | exact LeO.none _
   | refine LeO.ite ?_ ?_
   | refine LeO.bind ?_ (fun _ => ?_)
set_option maxHeartbeats 8000000 in
set_option maxRecDepth 100000 in
theorem lex_Print.calls (k : Nat) (A0 : Option Addr) (c0 : Nat) (l0 : List (S36)) (r : ByteArray) (w : World) (hr0 : Kd.C k36 w A0 l0.length l0) (hc0 : l0.length ≤ c0) (hg_ : LaidW w) (h : lex_Print.f k l0 = some r) :
  Calls Tryz.prog 12 #[.slice A0 l0.length c0] w fun e w' => e = .returned (.string r) ∧ Below w.heap.size w w' := by
 have HLW := Aside0.mk hg_
 clear hg_
 have hu36 := Tryz.underlying36
 have HR0 := Aside0.mk hr0
 have HC0 := Aside0.mk hc0
 clear hr0 hc0
 have HB := Aside0.mk (Below.refl w.heap.size w)
 have H : (lex_Print.l0 k ([] : List ByteArray) l0 (l0.length : Int) 0) = some r := h
 clear h
 have H' := Aside0.mk H
 clear H
 go_enter Tryz.func12, Tryz.ntmps12
 go_wp2
 go_loopg [3, 9] k (fun kq v3 v9 w' => ∃ (x3_1 : List ByteArray) (x9_1 : Int), v9 = .int .i64 x9_1 ∧ Aside0 (lex_Print.l0 kq x3_1 l0 (l0.length : Int) x9_1 = some r) ∧ Aside0 (kq ≤ k) ∧ Aside0 (Kd.R Kd.string 9 w' w.heap.size (fun _ => True) v3 x3_1) ∧ Aside0 (Below w.heap.size w w'))
 case atStart => exact ⟨(([] : List ByteArray)), (0), (by first | rfl | (simp; done) | (simp [*]; done)), H', ⟨Nat.le_refl _⟩, ⟨by first | exact Kd.R_nil _ _ _ _ _ | exact Kd.N_nil _ _ _ _ _ | exact Kd.V_nil _ _ _ _ _ | exact Kd.Q_nil _ _ _ _ _ | exact Kd.S_nil _ _ _ _ _⟩, ⟨by repeat (first | (with_reducible first | exact HB.out | apply below_alloc | apply pw_below_drewN | apply below_drew1) | exact HB.out)⟩⟩
 case round =>
  clear H'
  try clear c1
  obtain ⟨x3_1, x9_1, rfl, HA, HK1, HO_3, HB⟩ := hrel
  cases gk with
  | zero => exact absurd HA.out (by simp [lex_Print.l0])
  | succ k1 =>
   have H := HA.out
   clear HA
   simp only [lex_Print.l0] at H
   by_cases c2 : x9_1 < (l0.length : Int)
   ·rw [if_pos c2] at H
    have c2b0 : decide (x9_1 < (l0.length : Int)) = true := decide_eq_true c2
    clear c2
    by_cases c3 : 0 ≤ x9_1
    ·rw [if_pos c3] at H
     have c3b0 : decide (0 ≤ x9_1) = true := decide_eq_true c3
     clear c3
     by_cases c4 : x9_1 < (l0.length : Int)
     ·rw [if_pos c4] at H
      have c4b0 : decide (x9_1 < (l0.length : Int)) = true := decide_eq_true c4
      clear c4
      replace H := Option.bind_eq_some_iff.mp H
      obtain ⟨t221, A50, H⟩ := H
      replace H : (if t221.toList = ([] : List UInt8) then (lex_Print.l0 k1 x3_1 l0 (l0.length : Int) (wrap64 (x9_1 + 1))) else (if x3_1.length < 8796093022208 then (lex_Print.l0 k1 (x3_1 ++ [t221]) l0 (l0.length : Int) (wrap64 (x9_1 + 1))) else (none))) = some r := H
      have A5 := Aside0.mk A50
      clear A50
      by_cases c6 : t221.toList = ([] : List UInt8)
      ·rw [if_pos c6] at H
       have c6b0 : (t221.toList == ([] : List UInt8)) = true := beq_iff_eq.mpr c6
       have c6b1 : (t221.toList != ([] : List UInt8)) = false := bne_eq_false_iff_eq.mpr c6
       clear c6
       have H' := Aside0.mk H
       clear H
       have p219 : 0 ≤ (x9_1 : Int) := of_decide_eq_true (by first | (with_reducible assumption) | assumption)
       have q219 : x9_1 < (l0.length : Int) := of_decide_eq_true (by first | (with_reducible assumption) | assumption)
       obtain ⟨ad219, e219, hx219_0, hx219_1, hx219_2, hx219_3, hx219_4, hx219_5⟩ := at_T36 HR0.out x9_1 p219 q219
       cases e219
       replace hx219_0 := (HB.out.cell (World.block_lt_of_cell? w _ hx219_0)).trans hx219_0
       replace hx219_1 := (HB.out.cell (World.block_lt_of_cell? w _ hx219_1)).trans hx219_1
       replace hx219_2 := (HB.out.cell (World.block_lt_of_cell? w _ hx219_2)).trans hx219_2
       replace hx219_3 := (HB.out.cell (World.block_lt_of_cell? w _ hx219_3)).trans hx219_3
       replace hx219_4 := (HB.out.cell (World.block_lt_of_cell? w _ hx219_4)).trans hx219_4
       replace hx219_5 := (HB.out.cell (World.block_lt_of_cell? w _ hx219_5)).trans hx219_5
       replace p219 := eq_true p219
       replace q219 := eq_true q219
       go_wp2_with (first | ((with_reducible refine gate_dst (N := 5) rfl ?_); refine box_event ?hg (N := 5) ?hd (cs := #[.int .i64 0, .int .i64 0, .string (⟨#[]⟩ : ByteArray), .bool false, .int .i64 0, .int .i64 0]) (t := 36) ?hr ?_; (case hd => rfl); (case hg => rfl); (case hr => first | (go_simp; done) | (go_simp; rfl)); intro gb220 hg w7 hbox hb; have n0_ := Aside0.mk (Kd.R_below (by (with_reducible repeat (first | apply Kd.R_alloc | apply Kd.R_drewN | apply Kd.R_drew)); exact HO_3.out) hb); have n1_ := Aside0.mk (below_step (by repeat (first | (with_reducible first | exact HB.out | apply below_alloc | apply pw_below_drewN | apply below_drew1) | exact HB.out)) hb); have n2_ := Aside0.mk (hbox); have n3_ := Aside0.mk ((by rw [hg]; exact (below_size (by repeat (first | (with_reducible first | exact HB.out | apply below_alloc | apply pw_below_drewN | apply below_drew1) | exact HB.out))) : w.heap.size ≤ gb220)); have n4_ := Aside0.mk ((by rw [hg]; exact (below_size (by repeat (first | (with_reducible first | exact HB.out | apply below_alloc | apply pw_below_drewN | apply below_drew1) | exact HB.out))) : w.heap.size ≤ gb220)); clear HO_3; clear HB; have HO_3 := n0_; have HB := n1_; have BK220 := n2_; have GW220 := n3_; have GE220 := n4_; clear n0_ n1_ n2_ n3_ n4_; clear hb hbox hg; have hcz8_0 : w7.cell? ⟨gb220, 0, none⟩ = some (.int .i64 0) := (blk_cell BK220.out 0).trans rfl; have hcz8_1 : w7.cell? ⟨gb220, 1, none⟩ = some (.int .i64 0) := (blk_cell BK220.out 1).trans rfl; have hcz8_2 : w7.cell? ⟨gb220, 2, none⟩ = some (.string (⟨#[]⟩ : ByteArray)) := (blk_cell BK220.out 2).trans rfl; have hcz8_3 : w7.cell? ⟨gb220, 3, none⟩ = some (.bool false) := (blk_cell BK220.out 3).trans rfl; have hcz8_4 : w7.cell? ⟨gb220, 4, none⟩ = some (.int .i64 0) := (blk_cell BK220.out 4).trans rfl; have hcz8_5 : w7.cell? ⟨gb220, 5, none⟩ = some (.int .i64 0) := (blk_cell BK220.out 5).trans rfl; have hfz8_0 := blk_frozen BK220.out 0; have hfz8_1 := blk_frozen BK220.out 1; have hfz8_2 := blk_frozen BK220.out 2; have hfz8_3 := blk_frozen BK220.out 3; have hfz8_4 := blk_frozen BK220.out 4; have hfz8_5 := blk_frozen BK220.out 5) | ((with_reducible refine gate_callee (f := 20) rfl ?_); refine goesL_ (some 14) rfl rfl Tryz.func20 (by kernel_rfl) rfl #[.agg #[.int .i64 ((rd_T36 l0 x9_1).f0), .int .i64 ((rd_T36 l0 x9_1).f1), .string ((rd_T36 l0 x9_1).f2), .bool ((rd_T36 l0 x9_1).f3.f0), .int .i64 ((rd_T36 l0 x9_1).f3.f1), .int .i64 ((rd_T36 l0 x9_1).f4)]] rfl (by (try simp only [List.map_toArray, List.map_cons, List.map_nil]); first | done | rfl | (simp only [List.length_drop, List.length_take]; rfl)) ?_; (with_reducible refine (lex_one.calls ((rd_T36 l0 x9_1).f0) ((rd_T36 l0 x9_1).f1) ((rd_T36 l0 x9_1).f2) ((rd_T36 l0 x9_1).f3.f0) ((rd_T36 l0 x9_1).f3.f1) ((rd_T36 l0 x9_1).f4) t221 _ ?side1 A5.out).mono ?_); (case side1 => exact LaidW.below HLW.out (by repeat (first | (with_reducible first | exact HB.out | apply below_alloc | apply pw_below_drewN | apply below_drew1) | exact HB.out | (refine below_set ?_ (Aside0.out ?hge); (case hge => assumption))))); rintro e w9 ⟨rfl, hb⟩; refine ⟨_, rfl, ?_⟩; have n0_ := Aside0.mk (Kd.R_below (by (with_reducible repeat (first | apply Kd.R_alloc | apply Kd.R_drewN | apply Kd.R_drew)); exact (Kd.R_mono (Kd.R_far (p := ⟨gb220, 5, none⟩) (Kd.R_far (p := ⟨gb220, 4, none⟩) (Kd.R_far (p := ⟨gb220, 3, none⟩) (Kd.R_far (p := ⟨gb220, 2, none⟩) (Kd.R_far (p := ⟨gb220, 1, none⟩) (Kd.R_far (p := ⟨gb220, 0, none⟩) (Kd.R_types HO_3.out BK220.out (by decide)) (fun _ hk => hk.2) (.int .i64 ((rd_T36 l0 x9_1).f0))) (fun _ hk => hk.2) (.int .i64 ((rd_T36 l0 x9_1).f1))) (fun _ hk => hk.2) (.string ((rd_T36 l0 x9_1).f2))) (fun _ hk => hk.2) (.bool ((rd_T36 l0 x9_1).f3.f0))) (fun _ hk => hk.2) (.int .i64 ((rd_T36 l0 x9_1).f3.f1))) (fun _ hk => hk.2) (.int .i64 ((rd_T36 l0 x9_1).f4))) (fun _ h_ => h_.1))) hb); have n1_ := Aside0.mk (blk_below (g := gb220) (o := .cells #[.int .i64 ((rd_T36 l0 x9_1).f0), .int .i64 ((rd_T36 l0 x9_1).f1), .string ((rd_T36 l0 x9_1).f2), .bool ((rd_T36 l0 x9_1).f3.f0), .int .i64 ((rd_T36 l0 x9_1).f3.f1), .int .i64 ((rd_T36 l0 x9_1).f4)] 36 (0, 0)) (by (with_reducible repeat (first | refine blk_drewN ?_ _ | refine blk_drew ?_ | refine blk_alloc ?_ _)); refine blk_put (cs := #[.int .i64 ((rd_T36 l0 x9_1).f0), .int .i64 ((rd_T36 l0 x9_1).f1), .string ((rd_T36 l0 x9_1).f2), .bool ((rd_T36 l0 x9_1).f3.f0), .int .i64 ((rd_T36 l0 x9_1).f3.f1), .int .i64 0]) ?_ 5 _ rfl; (with_reducible repeat (first | refine blk_drewN ?_ _ | refine blk_drew ?_ | refine blk_alloc ?_ _)); refine blk_put (cs := #[.int .i64 ((rd_T36 l0 x9_1).f0), .int .i64 ((rd_T36 l0 x9_1).f1), .string ((rd_T36 l0 x9_1).f2), .bool ((rd_T36 l0 x9_1).f3.f0), .int .i64 0, .int .i64 0]) ?_ 4 _ rfl; (with_reducible repeat (first | refine blk_drewN ?_ _ | refine blk_drew ?_ | refine blk_alloc ?_ _)); refine blk_put (cs := #[.int .i64 ((rd_T36 l0 x9_1).f0), .int .i64 ((rd_T36 l0 x9_1).f1), .string ((rd_T36 l0 x9_1).f2), .bool false, .int .i64 0, .int .i64 0]) ?_ 3 _ rfl; (with_reducible repeat (first | refine blk_drewN ?_ _ | refine blk_drew ?_ | refine blk_alloc ?_ _)); refine blk_put (cs := #[.int .i64 ((rd_T36 l0 x9_1).f0), .int .i64 ((rd_T36 l0 x9_1).f1), .string (⟨#[]⟩ : ByteArray), .bool false, .int .i64 0, .int .i64 0]) ?_ 2 _ rfl; (with_reducible repeat (first | refine blk_drewN ?_ _ | refine blk_drew ?_ | refine blk_alloc ?_ _)); refine blk_put (cs := #[.int .i64 ((rd_T36 l0 x9_1).f0), .int .i64 0, .string (⟨#[]⟩ : ByteArray), .bool false, .int .i64 0, .int .i64 0]) ?_ 1 _ rfl; (with_reducible repeat (first | refine blk_drewN ?_ _ | refine blk_drew ?_ | refine blk_alloc ?_ _)); refine blk_put (cs := #[.int .i64 0, .int .i64 0, .string (⟨#[]⟩ : ByteArray), .bool false, .int .i64 0, .int .i64 0]) ?_ 0 _ rfl; (with_reducible repeat (first | refine blk_drewN ?_ _ | refine blk_drew ?_ | refine blk_alloc ?_ _)); exact BK220.out) hb); have n2_ := Aside0.mk (below_step (by repeat (first | (with_reducible first | exact HB.out | apply below_alloc | apply pw_below_drewN | apply below_drew1 | refine below_set ?_ GE220.out) | exact HB.out)) hb); clear HO_3; clear BK220; clear HB; have HO_3 := n0_; have BK220 := n1_; have HB := n2_; clear n0_ n1_ n2_; (try clear hb); (try clear hb2); (try clear hk); (try clear hi)))
       go_roundg k1
       case measure => have := HK1.out; omega
       case rel => exact ⟨(x3_1), (wrap64 (x9_1 + 1)), (by first | rfl | (simp; done) | (simp [*]; done)), H', ⟨by have := HK1.out; omega⟩, ⟨by (with_reducible repeat (first | apply Kd.R_alloc | apply Kd.R_drewN | apply Kd.R_drew)); exact HO_3.out⟩, ⟨by repeat (first | (with_reducible first | exact HB.out | apply below_alloc | apply pw_below_drewN | apply below_drew1 | refine below_set ?_ GE220.out) | exact HB.out)⟩⟩
      ·rw [if_neg c6] at H
       have c6b0 : (t221.toList == ([] : List UInt8)) = false := beq_eq_false_iff_ne.mpr c6
       have c6b1 : (t221.toList != ([] : List UInt8)) = true := bne_iff_ne.mpr c6
       by_cases c10 : x3_1.length < 8796093022208
       ·rw [if_pos c10] at H
        have LMc10 := Aside0.mk c10
        clear c10
        obtain ⟨y222, hy222⟩ : ∃ y_ : List ByteArray, y_ = (x3_1 ++ [t221]) := ⟨_, rfl⟩
        replace H : (lex_Print.l0 k1 y222 l0 (l0.length : Int) (wrap64 (x9_1 + 1))) = some r := by first | (rw [hy222]; with_reducible exact H) | (have H2_ := (Option.bind_some _ _).symm.trans H; rw [hy222]; with_reducible exact H2_) | (have H2_ := (Option.bind_some _ _).symm.trans H; with_reducible exact H2_) | with_reducible exact H | (rw [hy222]; exact H) | exact H
        have Ny222 := Aside0.mk hy222
        clear hy222
        have H' := Aside0.mk H
        clear H
        have p219 : 0 ≤ (x9_1 : Int) := of_decide_eq_true (by first | (with_reducible assumption) | assumption)
        have q219 : x9_1 < (l0.length : Int) := of_decide_eq_true (by first | (with_reducible assumption) | assumption)
        obtain ⟨ad219, e219, hx219_0, hx219_1, hx219_2, hx219_3, hx219_4, hx219_5⟩ := at_T36 HR0.out x9_1 p219 q219
        cases e219
        replace hx219_0 := (HB.out.cell (World.block_lt_of_cell? w _ hx219_0)).trans hx219_0
        replace hx219_1 := (HB.out.cell (World.block_lt_of_cell? w _ hx219_1)).trans hx219_1
        replace hx219_2 := (HB.out.cell (World.block_lt_of_cell? w _ hx219_2)).trans hx219_2
        replace hx219_3 := (HB.out.cell (World.block_lt_of_cell? w _ hx219_3)).trans hx219_3
        replace hx219_4 := (HB.out.cell (World.block_lt_of_cell? w _ hx219_4)).trans hx219_4
        replace hx219_5 := (HB.out.cell (World.block_lt_of_cell? w _ hx219_5)).trans hx219_5
        replace p219 := eq_true p219
        replace q219 := eq_true q219
        go_wp2_with (first | ((with_reducible refine gate_dst (N := 5) rfl ?_); refine box_event ?hg (N := 5) ?hd (cs := #[.int .i64 0, .int .i64 0, .string (⟨#[]⟩ : ByteArray), .bool false, .int .i64 0, .int .i64 0]) (t := 36) ?hr ?_; (case hd => rfl); (case hg => rfl); (case hr => first | (go_simp; done) | (go_simp; rfl)); intro gb220 hg w11 hbox hb; have n0_ := Aside0.mk (Kd.R_below (by (with_reducible repeat (first | apply Kd.R_alloc | apply Kd.R_drewN | apply Kd.R_drew)); exact HO_3.out) hb); have n1_ := Aside0.mk (below_step (by repeat (first | (with_reducible first | exact HB.out | apply below_alloc | apply pw_below_drewN | apply below_drew1) | exact HB.out)) hb); have n2_ := Aside0.mk (hbox); have n3_ := Aside0.mk ((by rw [hg]; exact (below_size (by repeat (first | (with_reducible first | exact HB.out | apply below_alloc | apply pw_below_drewN | apply below_drew1) | exact HB.out))) : w.heap.size ≤ gb220)); have n4_ := Aside0.mk ((by rw [hg]; exact (below_size (by repeat (first | (with_reducible first | exact HB.out | apply below_alloc | apply pw_below_drewN | apply below_drew1) | exact HB.out))) : w.heap.size ≤ gb220)); clear HO_3; clear HB; have HO_3 := n0_; have HB := n1_; have BK220 := n2_; have GW220 := n3_; have GE220 := n4_; clear n0_ n1_ n2_ n3_ n4_; clear hb hbox hg; have hcz12_0 : w11.cell? ⟨gb220, 0, none⟩ = some (.int .i64 0) := (blk_cell BK220.out 0).trans rfl; have hcz12_1 : w11.cell? ⟨gb220, 1, none⟩ = some (.int .i64 0) := (blk_cell BK220.out 1).trans rfl; have hcz12_2 : w11.cell? ⟨gb220, 2, none⟩ = some (.string (⟨#[]⟩ : ByteArray)) := (blk_cell BK220.out 2).trans rfl; have hcz12_3 : w11.cell? ⟨gb220, 3, none⟩ = some (.bool false) := (blk_cell BK220.out 3).trans rfl; have hcz12_4 : w11.cell? ⟨gb220, 4, none⟩ = some (.int .i64 0) := (blk_cell BK220.out 4).trans rfl; have hcz12_5 : w11.cell? ⟨gb220, 5, none⟩ = some (.int .i64 0) := (blk_cell BK220.out 5).trans rfl; have hfz12_0 := blk_frozen BK220.out 0; have hfz12_1 := blk_frozen BK220.out 1; have hfz12_2 := blk_frozen BK220.out 2; have hfz12_3 := blk_frozen BK220.out 3; have hfz12_4 := blk_frozen BK220.out 4; have hfz12_5 := blk_frozen BK220.out 5) | ((with_reducible refine gate_callee (f := 20) rfl ?_); refine goesL_ (some 14) rfl rfl Tryz.func20 (by kernel_rfl) rfl #[.agg #[.int .i64 ((rd_T36 l0 x9_1).f0), .int .i64 ((rd_T36 l0 x9_1).f1), .string ((rd_T36 l0 x9_1).f2), .bool ((rd_T36 l0 x9_1).f3.f0), .int .i64 ((rd_T36 l0 x9_1).f3.f1), .int .i64 ((rd_T36 l0 x9_1).f4)]] rfl (by (try simp only [List.map_toArray, List.map_cons, List.map_nil]); first | done | rfl | (simp only [List.length_drop, List.length_take]; rfl)) ?_; (with_reducible refine (lex_one.calls ((rd_T36 l0 x9_1).f0) ((rd_T36 l0 x9_1).f1) ((rd_T36 l0 x9_1).f2) ((rd_T36 l0 x9_1).f3.f0) ((rd_T36 l0 x9_1).f3.f1) ((rd_T36 l0 x9_1).f4) t221 _ ?side1 A5.out).mono ?_); (case side1 => exact LaidW.below HLW.out (by repeat (first | (with_reducible first | exact HB.out | apply below_alloc | apply pw_below_drewN | apply below_drew1) | exact HB.out | (refine below_set ?_ (Aside0.out ?hge); (case hge => assumption))))); rintro e w13 ⟨rfl, hb⟩; refine ⟨_, rfl, ?_⟩; have n0_ := Aside0.mk (Kd.R_below (by (with_reducible repeat (first | apply Kd.R_alloc | apply Kd.R_drewN | apply Kd.R_drew)); exact (Kd.R_mono (Kd.R_far (p := ⟨gb220, 5, none⟩) (Kd.R_far (p := ⟨gb220, 4, none⟩) (Kd.R_far (p := ⟨gb220, 3, none⟩) (Kd.R_far (p := ⟨gb220, 2, none⟩) (Kd.R_far (p := ⟨gb220, 1, none⟩) (Kd.R_far (p := ⟨gb220, 0, none⟩) (Kd.R_types HO_3.out BK220.out (by decide)) (fun _ hk => hk.2) (.int .i64 ((rd_T36 l0 x9_1).f0))) (fun _ hk => hk.2) (.int .i64 ((rd_T36 l0 x9_1).f1))) (fun _ hk => hk.2) (.string ((rd_T36 l0 x9_1).f2))) (fun _ hk => hk.2) (.bool ((rd_T36 l0 x9_1).f3.f0))) (fun _ hk => hk.2) (.int .i64 ((rd_T36 l0 x9_1).f3.f1))) (fun _ hk => hk.2) (.int .i64 ((rd_T36 l0 x9_1).f4))) (fun _ h_ => h_.1))) hb); have n1_ := Aside0.mk (blk_below (g := gb220) (o := .cells #[.int .i64 ((rd_T36 l0 x9_1).f0), .int .i64 ((rd_T36 l0 x9_1).f1), .string ((rd_T36 l0 x9_1).f2), .bool ((rd_T36 l0 x9_1).f3.f0), .int .i64 ((rd_T36 l0 x9_1).f3.f1), .int .i64 ((rd_T36 l0 x9_1).f4)] 36 (0, 0)) (by (with_reducible repeat (first | refine blk_drewN ?_ _ | refine blk_drew ?_ | refine blk_alloc ?_ _)); refine blk_put (cs := #[.int .i64 ((rd_T36 l0 x9_1).f0), .int .i64 ((rd_T36 l0 x9_1).f1), .string ((rd_T36 l0 x9_1).f2), .bool ((rd_T36 l0 x9_1).f3.f0), .int .i64 ((rd_T36 l0 x9_1).f3.f1), .int .i64 0]) ?_ 5 _ rfl; (with_reducible repeat (first | refine blk_drewN ?_ _ | refine blk_drew ?_ | refine blk_alloc ?_ _)); refine blk_put (cs := #[.int .i64 ((rd_T36 l0 x9_1).f0), .int .i64 ((rd_T36 l0 x9_1).f1), .string ((rd_T36 l0 x9_1).f2), .bool ((rd_T36 l0 x9_1).f3.f0), .int .i64 0, .int .i64 0]) ?_ 4 _ rfl; (with_reducible repeat (first | refine blk_drewN ?_ _ | refine blk_drew ?_ | refine blk_alloc ?_ _)); refine blk_put (cs := #[.int .i64 ((rd_T36 l0 x9_1).f0), .int .i64 ((rd_T36 l0 x9_1).f1), .string ((rd_T36 l0 x9_1).f2), .bool false, .int .i64 0, .int .i64 0]) ?_ 3 _ rfl; (with_reducible repeat (first | refine blk_drewN ?_ _ | refine blk_drew ?_ | refine blk_alloc ?_ _)); refine blk_put (cs := #[.int .i64 ((rd_T36 l0 x9_1).f0), .int .i64 ((rd_T36 l0 x9_1).f1), .string (⟨#[]⟩ : ByteArray), .bool false, .int .i64 0, .int .i64 0]) ?_ 2 _ rfl; (with_reducible repeat (first | refine blk_drewN ?_ _ | refine blk_drew ?_ | refine blk_alloc ?_ _)); refine blk_put (cs := #[.int .i64 ((rd_T36 l0 x9_1).f0), .int .i64 0, .string (⟨#[]⟩ : ByteArray), .bool false, .int .i64 0, .int .i64 0]) ?_ 1 _ rfl; (with_reducible repeat (first | refine blk_drewN ?_ _ | refine blk_drew ?_ | refine blk_alloc ?_ _)); refine blk_put (cs := #[.int .i64 0, .int .i64 0, .string (⟨#[]⟩ : ByteArray), .bool false, .int .i64 0, .int .i64 0]) ?_ 0 _ rfl; (with_reducible repeat (first | refine blk_drewN ?_ _ | refine blk_drew ?_ | refine blk_alloc ?_ _)); exact BK220.out) hb); have n2_ := Aside0.mk (below_step (by repeat (first | (with_reducible first | exact HB.out | apply below_alloc | apply pw_below_drewN | apply below_drew1 | refine below_set ?_ GE220.out) | exact HB.out)) hb); clear HO_3; clear BK220; clear HB; have HO_3 := n0_; have BK220 := n1_; have HB := n2_; clear n0_ n1_ n2_; (try clear hb); (try clear hb2); (try clear hk); (try clear hi)) | ((with_reducible refine gate_builtin (b := .append) (xs := #[.tmp 17, .tmp 19]) rfl ?_); at_builtin; refine Kd.R_append Kd.string (w0 := w) w.heap.size rfl (.tmp 17) (.tmp 19) 50 9 (.string ⟨#[]⟩) 16 rfl Tryz.underlying50 info9 rfl (by decide) (by omega) u3 x3_1 t221 [.string t221] (fun _ => True) (fun _ => False) rfl rfl ?aP (fun _ hk => hk.elim) ?aF ?aO ?aB ?aS ?aL ?_; (case aP => exact rfl); (case aB => exact (by repeat (first | (with_reducible first | exact HB.out | apply below_alloc | apply pw_below_drewN | apply below_drew1 | refine below_set ?_ GE220.out) | exact HB.out))); (case aF => exact (fun _ _ => trivial)); (case aO => exact (by (with_reducible repeat (first | apply Kd.R_alloc | apply Kd.R_drewN | apply Kd.R_drew)); exact HO_3.out)); (case aS => exact (below_size (by repeat (first | (with_reducible first | exact HB.out | apply below_alloc | apply pw_below_drewN | apply below_drew1 | refine below_set ?_ GE220.out) | exact HB.out)))); (case aL => have := LMc10.out; omega); intro v223 w14 ho hb hg hat; rw [← Ny222.out] at ho; have n0_ := Aside0.mk (blk_grown (g := gb220) (o := .cells #[.int .i64 ((rd_T36 l0 x9_1).f0), .int .i64 ((rd_T36 l0 x9_1).f1), .string ((rd_T36 l0 x9_1).f2), .bool ((rd_T36 l0 x9_1).f3.f0), .int .i64 ((rd_T36 l0 x9_1).f3.f1), .int .i64 ((rd_T36 l0 x9_1).f4)] 36 (0, 0)) (by (with_reducible repeat (first | refine blk_drewN ?_ _ | refine blk_drew ?_ | refine blk_alloc ?_ _)); exact BK220.out) hg (Kd.R_ne HO_3.out BK220.out (by decide))); have n1_ := Aside0.mk (hb); have n2_ := Aside0.mk (ho); clear BK220; clear HB; clear HO_3; have BK220 := n0_; have HB := n1_; have HO224 := n2_; clear n0_ n1_ n2_; clear ho hb hg hat))
        go_roundg k1
        case measure => have := HK1.out; omega
        case rel => exact ⟨(y222), (wrap64 (x9_1 + 1)), (by first | rfl | (simp; done) | (simp [*]; done)), H', ⟨by have := HK1.out; omega⟩, ⟨by (with_reducible repeat (first | apply Kd.R_alloc | apply Kd.R_drewN | apply Kd.R_drew)); exact HO224.out⟩, ⟨by repeat (first | (with_reducible first | exact HB.out | apply below_alloc | apply pw_below_drewN | apply below_drew1 | refine below_set ?_ GE220.out) | exact HB.out)⟩⟩
       ·rw [if_neg c10] at H
        exact absurd H (by simp)
     ·rw [if_neg c4] at H
      exact absurd H (by simp)
    ·rw [if_neg c3] at H
     exact absurd H (by simp)
   ·rw [if_neg c2] at H
    have c2b0 : decide (x9_1 < (l0.length : Int)) = false := decide_eq_false c2
    clear c2
    replace H := Option.bind_eq_some_iff.mp H
    obtain ⟨t225, A150, H⟩ := H
    replace H : (some t225) = some r := H
    have A15 := Aside0.mk A150
    clear A150
    obtain rfl := Option.some.inj H
    obtain ⟨Ao16, co16, eo16⟩ := Kd.R_slice HO_3.out
    subst eo16
    go_wp2_with (first | ((with_reducible refine gate_callee (f := 21) rfl ?_); refine goesL_ (some 23) rfl rfl Tryz.func21 (by kernel_rfl) rfl #[.slice Ao16 x3_1.length co16, .string (⟨#[32]⟩ : ByteArray)] rfl (by (try simp only [List.map_toArray, List.map_cons, List.map_nil]); first | done | rfl | (simp only [List.length_drop, List.length_take]; rfl)) ?_; (with_reducible refine (strings_Join.calls _ _ x3_1 (⟨#[32]⟩ : ByteArray) t225 _ ?side1 ?side2 A15.out).mono ?_); (case side1 => repeat (first | exact (Kd.R_reads' HO_3.out).2.2 | (with_reducible refine Kd.C_alloc ?_ _) | (with_reducible refine Kd.C_drewN ?_ _) | (with_reducible refine Kd.C_drew ?_))); (case side2 => exact (Kd.R_reads' HO_3.out).2.1); rintro e w17 ⟨rfl, hb⟩; refine ⟨_, rfl, ?_⟩; have n0_ := Aside0.mk (Kd.R_below (by (with_reducible repeat (first | apply Kd.R_alloc | apply Kd.R_drewN | apply Kd.R_drew)); exact HO_3.out) hb); have n1_ := Aside0.mk (below_step (by repeat (first | (with_reducible first | exact HB.out | apply below_alloc | apply pw_below_drewN | apply below_drew1) | exact HB.out)) hb); clear HO_3; clear HB; have HO_3 := n0_; have HB := n1_; clear n0_ n1_; (try clear hb); (try clear hb2); (try clear hk); (try clear hi)))
    go_ret
    exact ⟨by first | rfl | (simp [errW_none, errW_some] <;> rfl) | (simp [*, errW_none, errW_some] <;> rfl), by repeat (first | (with_reducible first | exact HB.out | apply below_alloc | apply pw_below_drewN | apply below_drew1) | exact HB.out)⟩

end Go.Proofs.YtnjobjogddjelaaGreatDoor.Print
end

section
namespace Go.Proofs.YtnjobjogddjelaaGreatDoor.Print
open Go.RowKit Go.Proofs.YtnjobjogddjelaaGreatDoorX Go.Proofs.YtnjobjogddjelaaGreatDoorW.PrintWords Go.Proofs.YtnjobjogddjelaaGreatDoorW.PrintLast Go.Proofs.YtnjobjogddjelaaGreatDoorW.PrintMore
attribute [local go_sem] max2_int min2_int max_two min_two max_three min_three max_four min_four

/-! ### spillwaylaw7_known: function 8 -/
def spillwaylaw7_known.f (k : Nat)  : Option (Bool) := (lex_Scan.f k (⟨#[114, 97, 116, 101, 40, 120, 91, 53, 116, 93, 41, 32, 62, 61, 32, 49, 46, 53]⟩ : ByteArray)).bind fun bt226 => ((lex_Scan.f k (⟨#[97, 32, 36]⟩ : ByteArray)).bind fun bt231 => (if bt226.2.2 = 0 then (if bt226.2.1 = 0 then (if (bt226.1.length : Int) = 10 then (if 4 < (bt226.1.length : Int) then (if ((rd_T36 bt226.1 4).f0) = 3 then (if ((rd_T36 bt226.1 4).f4) = 5 then (if 7 < (bt226.1.length : Int) then (if ((rd_T36 bt226.1 7).f2).toList = ([62, 61] : List UInt8) then (if 8 < (bt226.1.length : Int) then (if ((rd_T36 bt226.1 8).f3.f1) = 1500000 then (if 9 < (bt226.1.length : Int) then (if ((rd_T36 bt226.1 9).f0) = 0 then (if bt231.2.2 = 70 then (if bt231.2.1 = 2 then ((lex_Print.f k bt226.1).bind fun t241 => (some (t241.toList == ([114, 97, 116, 101, 32, 40, 32, 120, 32, 91, 32, 53, 116, 32, 93, 32, 41, 32, 62, 61, 32, 49, 46, 53] : List UInt8)))) else (none)) else (none)) else (none)) else (none)) else (none)) else (none)) else (none)) else (none)) else (none)) else (none)) else (none)) else (none)) else (none)) else (none)))
theorem spillwaylaw7_known.mono : ∀ k, LeO (spillwaylaw7_known.f k ) (spillwaylaw7_known.f (k + 1) ) := by
 intro  k
 unfold spillwaylaw7_known.f
 repeat' first
   | (with_reducible exact lex_Print.mono _ _)
   | (with_reducible exact lex_Scan.mono _ _)
   | (with_reducible exact LeO.refl _)
   | (with_reducible exact LeO.none _)
   | (with_reducible refine LeO.ite ?_ ?_)
   | (with_reducible refine LeO.bind ?_ (fun _ => ?_))
   | exact lex_Print.mono _ _
   | exact lex_Scan.mono _ _
   | exact LeO.none _
   | refine LeO.ite ?_ ?_
   | refine LeO.bind ?_ (fun _ => ?_)
set_option maxHeartbeats 8000000 in
set_option maxRecDepth 100000 in
theorem spillwaylaw7_known.calls (k : Nat)  (r : Bool) (w : World) (hg_ : LaidW w) (h : spillwaylaw7_known.f k  = some r) :
  Calls Tryz.prog 8 #[] w fun e w' => e = .returned (.bool r) ∧ Below w.heap.size w w' := by
 have HLW := Aside0.mk hg_
 clear hg_
 have HB := Aside0.mk (Below.refl w.heap.size w)
 have H : ((lex_Scan.f k (⟨#[114, 97, 116, 101, 40, 120, 91, 53, 116, 93, 41, 32, 62, 61, 32, 49, 46, 53]⟩ : ByteArray)).bind fun bt226 => ((lex_Scan.f k (⟨#[97, 32, 36]⟩ : ByteArray)).bind fun bt231 => (if bt226.2.2 = 0 then (if bt226.2.1 = 0 then (if (bt226.1.length : Int) = 10 then (if 4 < (bt226.1.length : Int) then (if ((rd_T36 bt226.1 4).f0) = 3 then (if ((rd_T36 bt226.1 4).f4) = 5 then (if 7 < (bt226.1.length : Int) then (if ((rd_T36 bt226.1 7).f2).toList = ([62, 61] : List UInt8) then (if 8 < (bt226.1.length : Int) then (if ((rd_T36 bt226.1 8).f3.f1) = 1500000 then (if 9 < (bt226.1.length : Int) then (if ((rd_T36 bt226.1 9).f0) = 0 then (if bt231.2.2 = 70 then (if bt231.2.1 = 2 then ((lex_Print.f k bt226.1).bind fun t241 => (some (t241.toList == ([114, 97, 116, 101, 32, 40, 32, 120, 32, 91, 32, 53, 116, 32, 93, 32, 41, 32, 62, 61, 32, 49, 46, 53] : List UInt8)))) else (none)) else (none)) else (none)) else (none)) else (none)) else (none)) else (none)) else (none)) else (none)) else (none)) else (none)) else (none)) else (none)) else (none)))) = some r := h
 clear h
 replace H := Option.bind_eq_some_iff.mp H
 obtain ⟨⟨t226, t227, t228⟩, A10, H⟩ := H
 replace H : ((lex_Scan.f k (⟨#[97, 32, 36]⟩ : ByteArray)).bind fun bt231 => (if t228 = 0 then (if t227 = 0 then (if (t226.length : Int) = 10 then (if 4 < (t226.length : Int) then (if ((rd_T36 t226 4).f0) = 3 then (if ((rd_T36 t226 4).f4) = 5 then (if 7 < (t226.length : Int) then (if ((rd_T36 t226 7).f2).toList = ([62, 61] : List UInt8) then (if 8 < (t226.length : Int) then (if ((rd_T36 t226 8).f3.f1) = 1500000 then (if 9 < (t226.length : Int) then (if ((rd_T36 t226 9).f0) = 0 then (if bt231.2.2 = 70 then (if bt231.2.1 = 2 then ((lex_Print.f k t226).bind fun t241 => (some (t241.toList == ([114, 97, 116, 101, 32, 40, 32, 120, 32, 91, 32, 53, 116, 32, 93, 32, 41, 32, 62, 61, 32, 49, 46, 53] : List UInt8)))) else (none)) else (none)) else (none)) else (none)) else (none)) else (none)) else (none)) else (none)) else (none)) else (none)) else (none)) else (none)) else (none)) else (none))) = some r := H
 have A1 := Aside0.mk A10
 clear A10
 replace H := Option.bind_eq_some_iff.mp H
 obtain ⟨⟨t231, t232, t233⟩, A20, H⟩ := H
 replace H : (if t228 = 0 then (if t227 = 0 then (if (t226.length : Int) = 10 then (if 4 < (t226.length : Int) then (if ((rd_T36 t226 4).f0) = 3 then (if ((rd_T36 t226 4).f4) = 5 then (if 7 < (t226.length : Int) then (if ((rd_T36 t226 7).f2).toList = ([62, 61] : List UInt8) then (if 8 < (t226.length : Int) then (if ((rd_T36 t226 8).f3.f1) = 1500000 then (if 9 < (t226.length : Int) then (if ((rd_T36 t226 9).f0) = 0 then (if t233 = 70 then (if t232 = 2 then ((lex_Print.f k t226).bind fun t241 => (some (t241.toList == ([114, 97, 116, 101, 32, 40, 32, 120, 32, 91, 32, 53, 116, 32, 93, 32, 41, 32, 62, 61, 32, 49, 46, 53] : List UInt8)))) else (none)) else (none)) else (none)) else (none)) else (none)) else (none)) else (none)) else (none)) else (none)) else (none)) else (none)) else (none)) else (none)) else (none)) = some r := H
 have A2 := Aside0.mk A20
 clear A20
 by_cases c3 : t228 = 0
 ·rw [if_pos c3] at H
  have c3b0 : (t228 == 0) = true := beq_iff_eq.mpr c3
  have c3b1 : (t228 != 0) = false := bne_eq_false_iff_eq.mpr c3
  clear c3
  by_cases c4 : t227 = 0
  ·rw [if_pos c4] at H
   have c4b0 : (t227 == 0) = true := beq_iff_eq.mpr c4
   have c4b1 : (t227 != 0) = false := bne_eq_false_iff_eq.mpr c4
   clear c4
   by_cases c5 : (t226.length : Int) = 10
   ·rw [if_pos c5] at H
    have c5b0 : ((t226.length : Int) == 10) = true := beq_iff_eq.mpr c5
    have c5b1 : ((t226.length : Int) != 10) = false := bne_eq_false_iff_eq.mpr c5
    clear c5
    by_cases c6 : 4 < (t226.length : Int)
    ·rw [if_pos c6] at H
     have c6b0 : decide (4 < (t226.length : Int)) = true := decide_eq_true c6
     have c6b1 : decide (4 < t226.length) = true := decide_eq_true (by omega)
     clear c6
     by_cases c7 : ((rd_T36 t226 4).f0) = 3
     ·rw [if_pos c7] at H
      have c7b0 : (((rd_T36 t226 4).f0) == 3) = true := beq_iff_eq.mpr c7
      have c7b1 : (((rd_T36 t226 4).f0) != 3) = false := bne_eq_false_iff_eq.mpr c7
      clear c7
      by_cases c8 : ((rd_T36 t226 4).f4) = 5
      ·rw [if_pos c8] at H
       have c8b0 : (((rd_T36 t226 4).f4) == 5) = true := beq_iff_eq.mpr c8
       have c8b1 : (((rd_T36 t226 4).f4) != 5) = false := bne_eq_false_iff_eq.mpr c8
       clear c8
       by_cases c9 : 7 < (t226.length : Int)
       ·rw [if_pos c9] at H
        have c9b0 : decide (7 < (t226.length : Int)) = true := decide_eq_true c9
        have c9b1 : decide (7 < t226.length) = true := decide_eq_true (by omega)
        clear c9
        by_cases c10 : ((rd_T36 t226 7).f2).toList = ([62, 61] : List UInt8)
        ·rw [if_pos c10] at H
         have c10b0 : (((rd_T36 t226 7).f2).toList == ([62, 61] : List UInt8)) = true := beq_iff_eq.mpr c10
         have c10b1 : (((rd_T36 t226 7).f2).toList != ([62, 61] : List UInt8)) = false := bne_eq_false_iff_eq.mpr c10
         clear c10
         by_cases c11 : 8 < (t226.length : Int)
         ·rw [if_pos c11] at H
          have c11b0 : decide (8 < (t226.length : Int)) = true := decide_eq_true c11
          have c11b1 : decide (8 < t226.length) = true := decide_eq_true (by omega)
          clear c11
          by_cases c12 : ((rd_T36 t226 8).f3.f1) = 1500000
          ·rw [if_pos c12] at H
           have c12b0 : (((rd_T36 t226 8).f3.f1) == 1500000) = true := beq_iff_eq.mpr c12
           have c12b1 : (((rd_T36 t226 8).f3.f1) != 1500000) = false := bne_eq_false_iff_eq.mpr c12
           clear c12
           by_cases c13 : 9 < (t226.length : Int)
           ·rw [if_pos c13] at H
            have c13b0 : decide (9 < (t226.length : Int)) = true := decide_eq_true c13
            have c13b1 : decide (9 < t226.length) = true := decide_eq_true (by omega)
            clear c13
            by_cases c14 : ((rd_T36 t226 9).f0) = 0
            ·rw [if_pos c14] at H
             have c14b0 : (((rd_T36 t226 9).f0) == 0) = true := beq_iff_eq.mpr c14
             have c14b1 : (((rd_T36 t226 9).f0) != 0) = false := bne_eq_false_iff_eq.mpr c14
             clear c14
             by_cases c15 : t233 = 70
             ·rw [if_pos c15] at H
              have c15b0 : (t233 == 70) = true := beq_iff_eq.mpr c15
              have c15b1 : (t233 != 70) = false := bne_eq_false_iff_eq.mpr c15
              clear c15
              by_cases c16 : t232 = 2
              ·rw [if_pos c16] at H
               have c16b0 : (t232 == 2) = true := beq_iff_eq.mpr c16
               have c16b1 : (t232 != 2) = false := bne_eq_false_iff_eq.mpr c16
               clear c16
               replace H := Option.bind_eq_some_iff.mp H
               obtain ⟨t241, A170, H⟩ := H
               replace H : (some (t241.toList == ([114, 97, 116, 101, 32, 40, 32, 120, 32, 91, 32, 53, 116, 32, 93, 32, 41, 32, 62, 61, 32, 49, 46, 53] : List UInt8))) = some r := H
               have A17 := Aside0.mk A170
               clear A170
               obtain rfl := Option.some.inj H
               go_enter Tryz.func8, Tryz.ntmps8
               go_wp2_with (first | ((with_reducible refine gate_callee (f := 9) rfl ?_); refine goesL_ (some 8) rfl rfl Tryz.func9 (by kernel_rfl) rfl #[.string (⟨#[114, 97, 116, 101, 40, 120, 91, 53, 116, 93, 41, 32, 62, 61, 32, 49, 46, 53]⟩ : ByteArray)] rfl (by (try simp only [List.map_toArray, List.map_cons, List.map_nil]); first | done | rfl | (simp only [List.length_drop, List.length_take]; rfl)) ?_; (with_reducible refine (lex_Scan.calls k (⟨#[114, 97, 116, 101, 40, 120, 91, 53, 116, 93, 41, 32, 62, 61, 32, 49, 46, 53]⟩ : ByteArray) t226 t227 t228 _ ?side1 A1.out).mono ?_); (case side1 => exact LaidW.below HLW.out (by repeat (first | (with_reducible first | exact HB.out | apply below_alloc | apply pw_below_drewN | apply below_drew1) | exact HB.out | (refine below_set ?_ (Aside0.out ?hge); (case hge => assumption))))); rintro e w18 ⟨v229, rfl, ho0, hb⟩; refine ⟨_, rfl, ?_⟩; have n0_ := Aside0.mk (Kd.R_lower ho0 (below_size (by repeat (first | (with_reducible first | exact HB.out | apply below_alloc | apply pw_below_drewN | apply below_drew1) | exact HB.out)))); have n1_ := Aside0.mk (below_step (by repeat (first | (with_reducible first | exact HB.out | apply below_alloc | apply pw_below_drewN | apply below_drew1) | exact HB.out)) hb); clear HB; have HO230 := n0_; have HB := n1_; clear n0_ n1_; (try clear hb); (try clear hb2); (try clear hk); (try clear hi); (try clear ho0)) | ((with_reducible refine gate_callee (f := 9) rfl ?_); refine goesL_ (some 13) rfl rfl Tryz.func9 (by kernel_rfl) rfl #[.string (⟨#[97, 32, 36]⟩ : ByteArray)] rfl (by (try simp only [List.map_toArray, List.map_cons, List.map_nil]); first | done | rfl | (simp only [List.length_drop, List.length_take]; rfl)) ?_; (with_reducible refine (lex_Scan.calls k (⟨#[97, 32, 36]⟩ : ByteArray) t231 t232 t233 _ ?side1 A2.out).mono ?_); (case side1 => exact LaidW.below HLW.out (by repeat (first | (with_reducible first | exact HB.out | apply below_alloc | apply pw_below_drewN | apply below_drew1) | exact HB.out | (refine below_set ?_ (Aside0.out ?hge); (case hge => assumption))))); rintro e w19 ⟨v234, rfl, ho0, hb⟩; refine ⟨_, rfl, ?_⟩; have n0_ := Aside0.mk (Kd.R_elder' (by (with_reducible repeat (first | apply Kd.R_alloc | apply Kd.R_drewN | apply Kd.R_drew)); exact HO230.out) (Kd.R_base ho0) hb); have n1_ := Aside0.mk (Kd.R_lower (Kd.R_new' ho0 (Kd.R_lt (by (with_reducible repeat (first | apply Kd.R_alloc | apply Kd.R_drewN | apply Kd.R_drew)); exact HO230.out))) (below_size (by repeat (first | (with_reducible first | exact HB.out | apply below_alloc | apply pw_below_drewN | apply below_drew1) | exact HB.out)))); have n2_ := Aside0.mk (below_step (by repeat (first | (with_reducible first | exact HB.out | apply below_alloc | apply pw_below_drewN | apply below_drew1) | exact HB.out)) hb); clear HO230; clear HB; have HO230 := n0_; have HO235 := n1_; have HB := n2_; clear n0_ n1_ n2_; (try clear hb); (try clear hb2); (try clear hk); (try clear hi); (try clear ho0); obtain ⟨Ao20, co20, eo20⟩ := Kd.R_slice HO230.out; subst eo20; have p236 : 0 ≤ (4 : Int) := (by omega); have q236 : 4 < (t226.length : Int) := of_decide_eq_true (by first | (with_reducible assumption) | assumption); obtain ⟨ad236, e236, hx236_0, hx236_1, hx236_2, hx236_3, hx236_4, hx236_5⟩ := at_T36 (Kd.R_reads' HO230.out).2.2 4 p236 q236; cases e236; (try simp only [show (4 : Int).toNat = 4 from rfl, Nat.reduceMul, Nat.reduceEqDiff, Go.Addr.add, ↓reduceIte] at hx236_0); (try simp only [show (4 : Int).toNat = 4 from rfl, Nat.reduceMul, Nat.reduceEqDiff, Go.Addr.add, ↓reduceIte] at hx236_1); (try simp only [show (4 : Int).toNat = 4 from rfl, Nat.reduceMul, Nat.reduceEqDiff, Go.Addr.add, ↓reduceIte] at hx236_2); (try simp only [show (4 : Int).toNat = 4 from rfl, Nat.reduceMul, Nat.reduceEqDiff, Go.Addr.add, ↓reduceIte] at hx236_3); (try simp only [show (4 : Int).toNat = 4 from rfl, Nat.reduceMul, Nat.reduceEqDiff, Go.Addr.add, ↓reduceIte] at hx236_4); (try simp only [show (4 : Int).toNat = 4 from rfl, Nat.reduceMul, Nat.reduceEqDiff, Go.Addr.add, ↓reduceIte] at hx236_5); have qi236 : (4 < t226.length) = True := eq_true (by omega); (try rw [show ((4 : Int)).toNat = 4 from rfl] at hx236_0); (try rw [show 4 * 6 = 24 from rfl] at hx236_0); (try rw [show ((4 : Int)).toNat = 4 from rfl] at hx236_1); (try rw [show 4 * 6 = 24 from rfl] at hx236_1); (try rw [show ((4 : Int)).toNat = 4 from rfl] at hx236_2); (try rw [show 4 * 6 = 24 from rfl] at hx236_2); (try rw [show ((4 : Int)).toNat = 4 from rfl] at hx236_3); (try rw [show 4 * 6 = 24 from rfl] at hx236_3); (try rw [show ((4 : Int)).toNat = 4 from rfl] at hx236_4); (try rw [show 4 * 6 = 24 from rfl] at hx236_4); (try rw [show ((4 : Int)).toNat = 4 from rfl] at hx236_5); (try rw [show 4 * 6 = 24 from rfl] at hx236_5); replace p236 := eq_true p236; replace q236 := eq_true q236; have p237 : 0 ≤ (4 : Int) := (by omega); have q237 : 4 < (t226.length : Int) := of_decide_eq_true (by first | (with_reducible assumption) | assumption); obtain ⟨ad237, e237, hx237_0, hx237_1, hx237_2, hx237_3, hx237_4, hx237_5⟩ := at_T36 (Kd.R_reads' HO230.out).2.2 4 p237 q237; obtain rfl : ad236 = ad237 := (by injection e237); (try simp only [show (4 : Int).toNat = 4 from rfl, Nat.reduceMul, Nat.reduceEqDiff, Go.Addr.add, ↓reduceIte] at hx237_0); (try simp only [show (4 : Int).toNat = 4 from rfl, Nat.reduceMul, Nat.reduceEqDiff, Go.Addr.add, ↓reduceIte] at hx237_1); (try simp only [show (4 : Int).toNat = 4 from rfl, Nat.reduceMul, Nat.reduceEqDiff, Go.Addr.add, ↓reduceIte] at hx237_2); (try simp only [show (4 : Int).toNat = 4 from rfl, Nat.reduceMul, Nat.reduceEqDiff, Go.Addr.add, ↓reduceIte] at hx237_3); (try simp only [show (4 : Int).toNat = 4 from rfl, Nat.reduceMul, Nat.reduceEqDiff, Go.Addr.add, ↓reduceIte] at hx237_4); (try simp only [show (4 : Int).toNat = 4 from rfl, Nat.reduceMul, Nat.reduceEqDiff, Go.Addr.add, ↓reduceIte] at hx237_5); have qi237 : (4 < t226.length) = True := eq_true (by omega); (try rw [show ((4 : Int)).toNat = 4 from rfl] at hx237_0); (try rw [show 4 * 6 = 24 from rfl] at hx237_0); (try rw [show ((4 : Int)).toNat = 4 from rfl] at hx237_1); (try rw [show 4 * 6 = 24 from rfl] at hx237_1); (try rw [show ((4 : Int)).toNat = 4 from rfl] at hx237_2); (try rw [show 4 * 6 = 24 from rfl] at hx237_2); (try rw [show ((4 : Int)).toNat = 4 from rfl] at hx237_3); (try rw [show 4 * 6 = 24 from rfl] at hx237_3); (try rw [show ((4 : Int)).toNat = 4 from rfl] at hx237_4); (try rw [show 4 * 6 = 24 from rfl] at hx237_4); (try rw [show ((4 : Int)).toNat = 4 from rfl] at hx237_5); (try rw [show 4 * 6 = 24 from rfl] at hx237_5); replace p237 := eq_true p237; replace q237 := eq_true q237; have p238 : 0 ≤ (7 : Int) := (by omega); have q238 : 7 < (t226.length : Int) := of_decide_eq_true (by first | (with_reducible assumption) | assumption); obtain ⟨ad238, e238, hx238_0, hx238_1, hx238_2, hx238_3, hx238_4, hx238_5⟩ := at_T36 (Kd.R_reads' HO230.out).2.2 7 p238 q238; obtain rfl : ad236 = ad238 := (by injection e238); (try simp only [show (7 : Int).toNat = 7 from rfl, Nat.reduceMul, Nat.reduceEqDiff, Go.Addr.add, ↓reduceIte] at hx238_0); (try simp only [show (7 : Int).toNat = 7 from rfl, Nat.reduceMul, Nat.reduceEqDiff, Go.Addr.add, ↓reduceIte] at hx238_1); (try simp only [show (7 : Int).toNat = 7 from rfl, Nat.reduceMul, Nat.reduceEqDiff, Go.Addr.add, ↓reduceIte] at hx238_2); (try simp only [show (7 : Int).toNat = 7 from rfl, Nat.reduceMul, Nat.reduceEqDiff, Go.Addr.add, ↓reduceIte] at hx238_3); (try simp only [show (7 : Int).toNat = 7 from rfl, Nat.reduceMul, Nat.reduceEqDiff, Go.Addr.add, ↓reduceIte] at hx238_4); (try simp only [show (7 : Int).toNat = 7 from rfl, Nat.reduceMul, Nat.reduceEqDiff, Go.Addr.add, ↓reduceIte] at hx238_5); have qi238 : (7 < t226.length) = True := eq_true (by omega); (try rw [show ((7 : Int)).toNat = 7 from rfl] at hx238_0); (try rw [show 7 * 6 = 42 from rfl] at hx238_0); (try rw [show ((7 : Int)).toNat = 7 from rfl] at hx238_1); (try rw [show 7 * 6 = 42 from rfl] at hx238_1); (try rw [show ((7 : Int)).toNat = 7 from rfl] at hx238_2); (try rw [show 7 * 6 = 42 from rfl] at hx238_2); (try rw [show ((7 : Int)).toNat = 7 from rfl] at hx238_3); (try rw [show 7 * 6 = 42 from rfl] at hx238_3); (try rw [show ((7 : Int)).toNat = 7 from rfl] at hx238_4); (try rw [show 7 * 6 = 42 from rfl] at hx238_4); (try rw [show ((7 : Int)).toNat = 7 from rfl] at hx238_5); (try rw [show 7 * 6 = 42 from rfl] at hx238_5); replace p238 := eq_true p238; replace q238 := eq_true q238; have p239 : 0 ≤ (8 : Int) := (by omega); have q239 : 8 < (t226.length : Int) := of_decide_eq_true (by first | (with_reducible assumption) | assumption); obtain ⟨ad239, e239, hx239_0, hx239_1, hx239_2, hx239_3, hx239_4, hx239_5⟩ := at_T36 (Kd.R_reads' HO230.out).2.2 8 p239 q239; obtain rfl : ad236 = ad239 := (by injection e239); (try simp only [show (8 : Int).toNat = 8 from rfl, Nat.reduceMul, Nat.reduceEqDiff, Go.Addr.add, ↓reduceIte] at hx239_0); (try simp only [show (8 : Int).toNat = 8 from rfl, Nat.reduceMul, Nat.reduceEqDiff, Go.Addr.add, ↓reduceIte] at hx239_1); (try simp only [show (8 : Int).toNat = 8 from rfl, Nat.reduceMul, Nat.reduceEqDiff, Go.Addr.add, ↓reduceIte] at hx239_2); (try simp only [show (8 : Int).toNat = 8 from rfl, Nat.reduceMul, Nat.reduceEqDiff, Go.Addr.add, ↓reduceIte] at hx239_3); (try simp only [show (8 : Int).toNat = 8 from rfl, Nat.reduceMul, Nat.reduceEqDiff, Go.Addr.add, ↓reduceIte] at hx239_4); (try simp only [show (8 : Int).toNat = 8 from rfl, Nat.reduceMul, Nat.reduceEqDiff, Go.Addr.add, ↓reduceIte] at hx239_5); have qi239 : (8 < t226.length) = True := eq_true (by omega); (try rw [show ((8 : Int)).toNat = 8 from rfl] at hx239_0); (try rw [show 8 * 6 = 48 from rfl] at hx239_0); (try rw [show ((8 : Int)).toNat = 8 from rfl] at hx239_1); (try rw [show 8 * 6 = 48 from rfl] at hx239_1); (try rw [show ((8 : Int)).toNat = 8 from rfl] at hx239_2); (try rw [show 8 * 6 = 48 from rfl] at hx239_2); (try rw [show ((8 : Int)).toNat = 8 from rfl] at hx239_3); (try rw [show 8 * 6 = 48 from rfl] at hx239_3); (try rw [show ((8 : Int)).toNat = 8 from rfl] at hx239_4); (try rw [show 8 * 6 = 48 from rfl] at hx239_4); (try rw [show ((8 : Int)).toNat = 8 from rfl] at hx239_5); (try rw [show 8 * 6 = 48 from rfl] at hx239_5); replace p239 := eq_true p239; replace q239 := eq_true q239; have p240 : 0 ≤ (9 : Int) := (by omega); have q240 : 9 < (t226.length : Int) := of_decide_eq_true (by first | (with_reducible assumption) | assumption); obtain ⟨ad240, e240, hx240_0, hx240_1, hx240_2, hx240_3, hx240_4, hx240_5⟩ := at_T36 (Kd.R_reads' HO230.out).2.2 9 p240 q240; obtain rfl : ad236 = ad240 := (by injection e240); (try simp only [show (9 : Int).toNat = 9 from rfl, Nat.reduceMul, Nat.reduceEqDiff, Go.Addr.add, ↓reduceIte] at hx240_0); (try simp only [show (9 : Int).toNat = 9 from rfl, Nat.reduceMul, Nat.reduceEqDiff, Go.Addr.add, ↓reduceIte] at hx240_1); (try simp only [show (9 : Int).toNat = 9 from rfl, Nat.reduceMul, Nat.reduceEqDiff, Go.Addr.add, ↓reduceIte] at hx240_2); (try simp only [show (9 : Int).toNat = 9 from rfl, Nat.reduceMul, Nat.reduceEqDiff, Go.Addr.add, ↓reduceIte] at hx240_3); (try simp only [show (9 : Int).toNat = 9 from rfl, Nat.reduceMul, Nat.reduceEqDiff, Go.Addr.add, ↓reduceIte] at hx240_4); (try simp only [show (9 : Int).toNat = 9 from rfl, Nat.reduceMul, Nat.reduceEqDiff, Go.Addr.add, ↓reduceIte] at hx240_5); have qi240 : (9 < t226.length) = True := eq_true (by omega); (try rw [show ((9 : Int)).toNat = 9 from rfl] at hx240_0); (try rw [show 9 * 6 = 54 from rfl] at hx240_0); (try rw [show ((9 : Int)).toNat = 9 from rfl] at hx240_1); (try rw [show 9 * 6 = 54 from rfl] at hx240_1); (try rw [show ((9 : Int)).toNat = 9 from rfl] at hx240_2); (try rw [show 9 * 6 = 54 from rfl] at hx240_2); (try rw [show ((9 : Int)).toNat = 9 from rfl] at hx240_3); (try rw [show 9 * 6 = 54 from rfl] at hx240_3); (try rw [show ((9 : Int)).toNat = 9 from rfl] at hx240_4); (try rw [show 9 * 6 = 54 from rfl] at hx240_4); (try rw [show ((9 : Int)).toNat = 9 from rfl] at hx240_5); (try rw [show 9 * 6 = 54 from rfl] at hx240_5); replace p240 := eq_true p240; replace q240 := eq_true q240) | (go_at_call 12; (with_reducible refine (lex_Print.calls k _ _ t226 t241 _ ?side1 ?side2 ?side3 A17.out).mono ?_); (case side1 => repeat (first | exact (Kd.R_reads' HO230.out).2.2 | (with_reducible refine Kd.C_alloc ?_ _) | (with_reducible refine Kd.C_drewN ?_ _) | (with_reducible refine Kd.C_drew ?_))); (case side2 => exact (Kd.R_reads' HO230.out).2.1); (case side3 => exact LaidW.below HLW.out (by repeat (first | (with_reducible first | exact HB.out | apply below_alloc | apply pw_below_drewN | apply below_drew1) | exact HB.out | (refine below_set ?_ (Aside0.out ?hge); (case hge => assumption))))); rintro e w21 ⟨rfl, hb⟩; have n0_ := Aside0.mk (Kd.R_below (by (with_reducible repeat (first | apply Kd.R_alloc | apply Kd.R_drewN | apply Kd.R_drew)); exact HO230.out) hb); have n1_ := Aside0.mk (Kd.R_below (by (with_reducible repeat (first | apply Kd.R_alloc | apply Kd.R_drewN | apply Kd.R_drew)); exact HO235.out) hb); have n2_ := Aside0.mk (below_step (by repeat (first | (with_reducible first | exact HB.out | apply below_alloc | apply pw_below_drewN | apply below_drew1) | exact HB.out)) hb); clear HO230; clear HO235; clear HB; have HO230 := n0_; have HO235 := n1_; have HB := n2_; clear n0_ n1_ n2_; (try clear hb); (try clear hb2); (try clear hk); (try clear hi)))
               go_ret
               exact ⟨by first | rfl | (simp [errW_none, errW_some] <;> rfl) | (simp [*, errW_none, errW_some] <;> rfl), by repeat (first | (with_reducible first | exact HB.out | apply below_alloc | apply pw_below_drewN | apply below_drew1) | exact HB.out)⟩
              ·rw [if_neg c16] at H
               exact absurd H (by simp)
             ·rw [if_neg c15] at H
              exact absurd H (by simp)
            ·rw [if_neg c14] at H
             exact absurd H (by simp)
           ·rw [if_neg c13] at H
            exact absurd H (by simp)
          ·rw [if_neg c12] at H
           exact absurd H (by simp)
         ·rw [if_neg c11] at H
          exact absurd H (by simp)
        ·rw [if_neg c10] at H
         exact absurd H (by simp)
       ·rw [if_neg c9] at H
        exact absurd H (by simp)
      ·rw [if_neg c8] at H
       exact absurd H (by simp)
     ·rw [if_neg c7] at H
      exact absurd H (by simp)
    ·rw [if_neg c6] at H
     exact absurd H (by simp)
   ·rw [if_neg c5] at H
    exact absurd H (by simp)
  ·rw [if_neg c4] at H
   exact absurd H (by simp)
 ·rw [if_neg c3] at H
  exact absurd H (by simp)

end Go.Proofs.YtnjobjogddjelaaGreatDoor.Print
end

section
namespace Go.Proofs.YtnjobjogddjelaaGreatDoor.PureN
open Go.RowKit Go.Proofs.YtnjobjogddjelaaGreatDoor.Print Go.Proofs.YtnjobjogddjelaaGreatDoor.Pure Go.Proofs.YtnjobjogddjelaaGreatDoorW.PrintWords Go.Proofs.YtnjobjogddjelaaGreatDoorW.PrintLast Go.Proofs.YtnjobjogddjelaaGreatDoorW.PrintMore
theorem up_k {α : Type} {f : Nat → Option α} (h : ∀ k, LeO (f k) (f (k + 1))) {k : Nat} {r : α} (e : f k = some r) : ∀ j, f (k + j) = some r
 | 0 => e
 | j + 1 => h (k + j) r (up_k h e j)
theorem known_60 : spillwaylaw7_known.f 60 = some true := by kernel_rfl
theorem known_eq (k : Nat) (hk : 60 ≤ k) : spillwaylaw7_known.f k = some true := by
 have := up_k (f := spillwaylaw7_known.f) spillwaylaw7_known.mono known_60 (k - 60)
 rwa [show 60 + (k - 60) = k by omega] at this
end Go.Proofs.YtnjobjogddjelaaGreatDoor.PureN
end

section
namespace Go.Proofs.YtnjobjogddjelaaGreatDoor.Print
open Go.RowKit Go.Proofs.YtnjobjogddjelaaGreatDoorX Go.Proofs.YtnjobjogddjelaaGreatDoorW.PrintWords Go.Proofs.YtnjobjogddjelaaGreatDoorW.PrintLast Go.Proofs.YtnjobjogddjelaaGreatDoorW.PrintMore
attribute [local go_sem] max2_int min2_int max_two min_two max_three min_three max_four min_four

theorem eqA34 (d : Nat) (w : World) (x0 y0 : Bool) (x1 y1 : Int) :
  (Op.equalIn (d + 2) 34 (.agg #[.bool x0, .int .i64 x1]) (.agg #[.bool y0, .int .i64 y1])).run Tryz.prog w = .ok (x0 == y0 && (x1 == y1)) w := by
 refine eqA_of Tryz.underlying34 (by kernel_rfl) ?_
 refine eqf_cons (by rfl) (by go_simp; rfl) (by go_simp; rfl) (by go_simp) ?_
 exact eqf_last (by rfl) (by go_simp; rfl) (by go_simp; rfl) (by go_simp)
theorem eqA36 (d : Nat) (w : World) (x0 y0 : Int) (x1 y1 : Int) (x2 y2 : ByteArray) (x3 y3 : Bool) (x4 y4 : Int) (x5 y5 : Int) :
  (Op.equalIn (d + 3) 36 (.agg #[.int .i64 x0, .int .i64 x1, .string x2, .bool x3, .int .i64 x4, .int .i64 x5]) (.agg #[.int .i64 y0, .int .i64 y1, .string y2, .bool y3, .int .i64 y4, .int .i64 y5])).run Tryz.prog w = .ok (x0 == y0 && (x1 == y1 && (x2.toList == y2.toList && ((x3 == y3 && (x4 == y4)) && (x5 == y5))))) w := by
 refine eqA_of Tryz.underlying36 (by kernel_rfl) ?_
 refine eqf_cons (by rfl) (by go_simp; rfl) (by go_simp; rfl) (by go_simp) ?_
 refine eqf_cons (by rfl) (by go_simp; rfl) (by go_simp; rfl) (by go_simp) ?_
 refine eqf_cons (by rfl) (by go_simp; rfl) (by go_simp; rfl) (by go_simp) ?_
 refine eqf_cons (by rfl) (by go_simp) (by go_simp) (eqA34 (d + 0) w _ _ _ _) ?_
 exact eqf_last (by rfl) (by go_simp; rfl) (by go_simp; rfl) (by go_simp)
end Go.Proofs.YtnjobjogddjelaaGreatDoor.Print
end

section
namespace Go.Proofs.YtnjobjogddjelaaGreatDoor.Print
open Go.RowKit Go.Proofs.YtnjobjogddjelaaGreatDoorX Go.Proofs.YtnjobjogddjelaaGreatDoorW.PrintWords Go.Proofs.YtnjobjogddjelaaGreatDoorW.PrintLast Go.Proofs.YtnjobjogddjelaaGreatDoorW.PrintMore
attribute [local go_sem] max2_int min2_int max_two min_two max_three min_three max_four min_four

attribute [local go_sem high] eqA36
/-! ### spillwaylaw7_same: function 11 -/
def spillwaylaw7_same.l0 : Nat → List (S36) → List (S36) → Bool → Int → Option (Bool)
 | 0, _, _, _, _ => none
 | k + 1, x0, x1, x2, x7 => if x7 < (x0.length : Int) then (if 0 ≤ x7 then (if x7 < (x1.length : Int) then (if x2 = true then (if (!(((rd_T36 x0 x7).f0) == ((rd_T36 x1 x7).f0)) || (!(((rd_T36 x0 x7).f1) == ((rd_T36 x1 x7).f1)) || (!((((rd_T36 x0 x7).f2).toList) == (((rd_T36 x1 x7).f2).toList)) || ((!(((rd_T36 x0 x7).f3.f0) == ((rd_T36 x1 x7).f3.f0)) || (!(((rd_T36 x0 x7).f3.f1) == ((rd_T36 x1 x7).f3.f1)))) || (!(((rd_T36 x0 x7).f4) == ((rd_T36 x1 x7).f4))))))) = true then (none) else (spillwaylaw7_same.l0 k x0 x1 x2 (wrap64 (x7 + 1)))) else (if (!(((rd_T36 x0 x7).f0) == ((rd_T36 x1 x7).f0)) || (!((((rd_T36 x0 x7).f2).toList) == (((rd_T36 x1 x7).f2).toList)) || ((!(((rd_T36 x0 x7).f3.f0) == ((rd_T36 x1 x7).f3.f0)) || (!(((rd_T36 x0 x7).f3.f1) == ((rd_T36 x1 x7).f3.f1)))) || (!(((rd_T36 x0 x7).f4) == ((rd_T36 x1 x7).f4)))))) = true then (none) else (spillwaylaw7_same.l0 k x0 x1 x2 (wrap64 (x7 + 1))))) else (none)) else (none)) else (some true)
def spillwaylaw7_same.f (k : Nat) (l0 : List (S36)) (l1 : List (S36)) (a2 : Bool) : Option (Bool) := if (l0.length : Int) = (l1.length : Int) then (spillwaylaw7_same.l0 k l0 l1 a2 0) else (none)
theorem spillwaylaw7_same.mono_l : ∀ k, (∀ y0 y1 y2 y3, LeO (spillwaylaw7_same.l0 k y0 y1 y2 y3) (spillwaylaw7_same.l0 (k + 1) y0 y1 y2 y3))
 | 0 => fun _ _ _ _ r h => by simp [spillwaylaw7_same.l0] at h
 | k + 1 => by
  have ih0 := spillwaylaw7_same.mono_l k
  ·intro y0 y1 y2 y3
   unfold spillwaylaw7_same.l0
   repeat' first
   | (with_reducible exact ih0 _ _ _ _)
   | (with_reducible exact LeO.refl _)
   | (with_reducible exact LeO.none _)
   | (with_reducible refine LeO.ite ?_ ?_)
   | (with_reducible refine LeO.bind ?_ (fun _ => ?_))
   | exact ih0 _ _ _ _
   | exact LeO.none _
   | refine LeO.ite ?_ ?_
   | refine LeO.bind ?_ (fun _ => ?_)
theorem spillwaylaw7_same.mono : ∀ a0 a1 a2 k, LeO (spillwaylaw7_same.f k a0 a1 a2) (spillwaylaw7_same.f (k + 1) a0 a1 a2) := by
 intro a0 a1 a2 k
 have ih0 := spillwaylaw7_same.mono_l k
 unfold spillwaylaw7_same.f
 repeat' first
   | (with_reducible exact ih0 _ _ _ _)
   | (with_reducible exact LeO.refl _)
   | (with_reducible exact LeO.none _)
   | (with_reducible refine LeO.ite ?_ ?_)
   | (with_reducible refine LeO.bind ?_ (fun _ => ?_))
   | exact ih0 _ _ _ _
   | exact LeO.none _
   | refine LeO.ite ?_ ?_
   | refine LeO.bind ?_ (fun _ => ?_)
def spillwaylaw7_same.T6 : Bool × List (List Nat × List Nat) := (true, [([], []), ([], []), ([0, 1], [0, 1]), ([2], [2]), ([], []), ([], []), ([4, 5], [4, 5]), ([6], [6]), ([], []), ([], []), ([8, 3, 0, 1, 2, 3, 8, 9], [3, 8]), ([9, 7, 10, 0, 1, 2, 3, 4, 5, 6, 7, 8, 9, 10], [7, 9])])
def spillwaylaw7_same.B6 : List Nat := [0, 0, 3, 7, 0, 0, 48, 112, 0, 0, 783, 2047]
theorem spillwaylaw7_same.tab6 : rtab .any (opsOf Tryz.f11 6) = spillwaylaw7_same.T6 := by kernel_rfl
theorem spillwaylaw7_same.bits6 : waitsOk spillwaylaw7_same.T6.2 spillwaylaw7_same.B6 = true := by kernel_rfl
set_option maxHeartbeats 8000000 in
set_option maxRecDepth 100000 in
theorem spillwaylaw7_same.calls (k : Nat) (A0 : Option Addr) (c0 : Nat) (l0 : List (S36)) (A1 : Option Addr) (c1 : Nat) (l1 : List (S36)) (a2 : Bool) (r : Bool) (w : World) (hr0 : Kd.C k36 w A0 l0.length l0) (hc0 : l0.length ≤ c0) (hr1 : Kd.C k36 w A1 l1.length l1) (hc1 : l1.length ≤ c1) (h : spillwaylaw7_same.f k l0 l1 a2 = some r) :
  Calls Tryz.prog 11 #[.slice A0 l0.length c0, .slice A1 l1.length c1, .bool a2] w fun e w' => e = .returned (.bool r) ∧ Below w.heap.size w w' := by
 have hu36 := Tryz.underlying36
 have HR0 := Aside0.mk hr0
 have HC0 := Aside0.mk hc0
 clear hr0 hc0
 have HR1 := Aside0.mk hr1
 have HC1 := Aside0.mk hc1
 clear hr1 hc1
 have HB := Aside0.mk (Below.refl w.heap.size w)
 have H : (if (l0.length : Int) = (l1.length : Int) then (spillwaylaw7_same.l0 k l0 l1 a2 0) else (none)) = some r := h
 clear h
 by_cases c4 : (l0.length : Int) = (l1.length : Int)
 ·rw [if_pos c4] at H
  have c4b0 : ((l0.length : Int) == (l1.length : Int)) = true := beq_iff_eq.mpr c4
  have c4b1 : ((l0.length : Int) != (l1.length : Int)) = false := bne_eq_false_iff_eq.mpr c4
  have c4b2 : (l0.length == l1.length) = true := by first | simpa using c4 | (simp at c4 ⊢; omega)
  clear c4
  have H' := Aside0.mk H
  clear H
  go_enter Tryz.func11, Tryz.ntmps11
  go_wp2
  go_loopg [7] k (fun kq v7 w' => ∃ (x7_1 : Int), v7 = .int .i64 x7_1 ∧ Aside0 (spillwaylaw7_same.l0 kq l0 l1 a2 x7_1 = some r) ∧ Aside0 (kq ≤ k) ∧ Aside0 (Below w.heap.size w w'))
  case atStart => exact ⟨(0), (by first | rfl | (simp; done) | (simp [*]; done)), H', ⟨Nat.le_refl _⟩, ⟨by repeat (first | (with_reducible first | exact HB.out | apply below_alloc | apply pw_below_drewN | apply below_drew1) | exact HB.out)⟩⟩
  case round =>
   clear H'
   try clear c1
   try clear p2
   try clear c4
   try clear c4b0
   try clear c4b1
   try clear c4b2
   obtain ⟨x7_1, rfl, HA, HK1, HB⟩ := hrel
   cases gk with
   | zero => exact absurd HA.out (by simp [spillwaylaw7_same.l0])
   | succ k1 =>
    have H := HA.out
    clear HA
    simp only [spillwaylaw7_same.l0] at H
    by_cases c5 : x7_1 < (l0.length : Int)
    ·rw [if_pos c5] at H
     have c5b0 : decide (x7_1 < (l0.length : Int)) = true := decide_eq_true c5
     clear c5
     by_cases c6 : 0 ≤ x7_1
     ·rw [if_pos c6] at H
      have c6b0 : decide (0 ≤ x7_1) = true := decide_eq_true c6
      clear c6
      by_cases c7 : x7_1 < (l1.length : Int)
      ·rw [if_pos c7] at H
       have c7b0 : decide (x7_1 < (l1.length : Int)) = true := decide_eq_true c7
       clear c7
       by_cases c8 : a2 = true
       ·subst c8
        have H1 : (if (!(((rd_T36 l0 x7_1).f0) == ((rd_T36 l1 x7_1).f0)) || (!(((rd_T36 l0 x7_1).f1) == ((rd_T36 l1 x7_1).f1)) || (!((((rd_T36 l0 x7_1).f2).toList) == (((rd_T36 l1 x7_1).f2).toList)) || ((!(((rd_T36 l0 x7_1).f3.f0) == ((rd_T36 l1 x7_1).f3.f0)) || (!(((rd_T36 l0 x7_1).f3.f1) == ((rd_T36 l1 x7_1).f3.f1)))) || (!(((rd_T36 l0 x7_1).f4) == ((rd_T36 l1 x7_1).f4))))))) = true then (none) else (spillwaylaw7_same.l0 k1 l0 l1 true (wrap64 (x7_1 + 1)))) = some r := by rw [if_pos rfl] at H; exact H
        clear H
        have H := H1
        clear H1
        by_cases c9 : (!(((rd_T36 l0 x7_1).f0) == ((rd_T36 l1 x7_1).f0)) || (!(((rd_T36 l0 x7_1).f1) == ((rd_T36 l1 x7_1).f1)) || (!((((rd_T36 l0 x7_1).f2).toList) == (((rd_T36 l1 x7_1).f2).toList)) || ((!(((rd_T36 l0 x7_1).f3.f0) == ((rd_T36 l1 x7_1).f3.f0)) || (!(((rd_T36 l0 x7_1).f3.f1) == ((rd_T36 l1 x7_1).f3.f1)))) || (!(((rd_T36 l0 x7_1).f4) == ((rd_T36 l1 x7_1).f4))))))) = true
        ·rw [if_pos c9] at H
         exact absurd H (by simp)
        ·rw [if_neg c9] at H
         have c9b0 : (!(((rd_T36 l0 x7_1).f0) == ((rd_T36 l1 x7_1).f0)) || (!(((rd_T36 l0 x7_1).f1) == ((rd_T36 l1 x7_1).f1)) || (!((((rd_T36 l0 x7_1).f2).toList) == (((rd_T36 l1 x7_1).f2).toList)) || ((!(((rd_T36 l0 x7_1).f3.f0) == ((rd_T36 l1 x7_1).f3.f0)) || (!(((rd_T36 l0 x7_1).f3.f1) == ((rd_T36 l1 x7_1).f3.f1)))) || (!(((rd_T36 l0 x7_1).f4) == ((rd_T36 l1 x7_1).f4))))))) = false := by simpa using c9
         clear c9
         have H' := Aside0.mk H
         clear H
         try go_wp2
         have n0_ := Aside0.mk (below_drew1 HB.out)
         clear HB
         have HB := n0_
         clear n0_
         have p318 : 0 ≤ (x7_1 : Int) := of_decide_eq_true (by first | (with_reducible assumption) | assumption)
         have q318 : x7_1 < (l0.length : Int) := of_decide_eq_true (by first | (with_reducible assumption) | assumption)
         obtain ⟨ad318, e318, hx318_0, hx318_1, hx318_2, hx318_3, hx318_4, hx318_5⟩ := at_T36 HR0.out x7_1 p318 q318
         have hw318_5 := hx318_5
         have hw318_4 := hx318_4
         have hw318_3 := hx318_3
         have hw318_2 := hx318_2
         have hw318_1 := hx318_1
         have hw318_0 := hx318_0
         cases e318
         replace hx318_0 := (HB.out.cell (World.block_lt_of_cell? w _ hx318_0)).trans hx318_0
         replace hx318_1 := (HB.out.cell (World.block_lt_of_cell? w _ hx318_1)).trans hx318_1
         replace hx318_2 := (HB.out.cell (World.block_lt_of_cell? w _ hx318_2)).trans hx318_2
         replace hx318_3 := (HB.out.cell (World.block_lt_of_cell? w _ hx318_3)).trans hx318_3
         replace hx318_4 := (HB.out.cell (World.block_lt_of_cell? w _ hx318_4)).trans hx318_4
         replace hx318_5 := (HB.out.cell (World.block_lt_of_cell? w _ hx318_5)).trans hx318_5
         replace p318 := eq_true p318
         replace q318 := eq_true q318
         have p319 : 0 ≤ (x7_1 : Int) := of_decide_eq_true (by first | (with_reducible assumption) | assumption)
         have q319 : x7_1 < (l1.length : Int) := of_decide_eq_true (by first | (with_reducible assumption) | assumption)
         obtain ⟨ad319, e319, hx319_0, hx319_1, hx319_2, hx319_3, hx319_4, hx319_5⟩ := at_T36 HR1.out x7_1 p319 q319
         have hw319_5 := hx319_5
         have hw319_4 := hx319_4
         have hw319_3 := hx319_3
         have hw319_2 := hx319_2
         have hw319_1 := hx319_1
         have hw319_0 := hx319_0
         cases e319
         replace hx319_0 := (HB.out.cell (World.block_lt_of_cell? w _ hx319_0)).trans hx319_0
         replace hx319_1 := (HB.out.cell (World.block_lt_of_cell? w _ hx319_1)).trans hx319_1
         replace hx319_2 := (HB.out.cell (World.block_lt_of_cell? w _ hx319_2)).trans hx319_2
         replace hx319_3 := (HB.out.cell (World.block_lt_of_cell? w _ hx319_3)).trans hx319_3
         replace hx319_4 := (HB.out.cell (World.block_lt_of_cell? w _ hx319_4)).trans hx319_4
         replace hx319_5 := (HB.out.cell (World.block_lt_of_cell? w _ hx319_5)).trans hx319_5
         replace p319 := eq_true p319
         replace q319 := eq_true q319
         refine start_ (n := 12) (S := fun w' => True) (ds := []) #[false, false, false, false, false, false, false, false, false, false, false, false] (by kernel_rfl) rfl rfl trivial (fun hHeld => ?_); refine with_tabW spillwaylaw7_same.tab6 spillwaylaw7_same.bits6 (fun HT_ HW_ => ?_)
         generalize wr.drew = w10 at HB hx318_0 hx318_1 hx318_2 hx318_3 hx318_4 hx318_5 hx319_0 hx319_1 hx319_2 hx319_3 hx319_4 hx319_5 hHeld ⊢
         refine pure_ (i := 0) (N := some 21) (v := ?_) (a' := ?_) #[true, false, false, false, false, false, false, false, false, false, false, false] rfl rfl (any_of HT_.out (by kernel_rfl)) (fun _ _ _ h => h) (Or.inl ⟨by rfl, ?_⟩) ?_ ?_
         rotate_left
         ·intro w'
          go_simp
          with_reducible rfl
         rotate_left
         ·simp only [Act.put, List.setIfInBounds_toArray, List.set_cons_zero, List.set_cons_succ, i64_w, i32_w]
          rfl
         refine pure_ (i := 1) (N := some 22) (v := ?_) (a' := ?_) #[true, true, false, false, false, false, false, false, false, false, false, false] rfl rfl (any_of HT_.out (by kernel_rfl)) (fun _ _ _ h => h) (Or.inl ⟨by rfl, ?_⟩) ?_ ?_
         rotate_left
         ·intro w'
          go_simp
          with_reducible rfl
         rotate_left
         ·simp only [Act.put, List.setIfInBounds_toArray, List.set_cons_zero, List.set_cons_succ, i64_w, i32_w]
          rfl
         refine pure_ (i := 4) (N := some 25) (v := ?_) (a' := ?_) #[true, true, false, false, true, false, false, false, false, false, false, false] rfl rfl (any_of HT_.out (by kernel_rfl)) (fun _ _ _ h => h) (Or.inl ⟨by rfl, ?_⟩) ?_ ?_
         rotate_left
         ·intro w'
          go_simp
          with_reducible rfl
         rotate_left
         ·simp only [Act.put, List.setIfInBounds_toArray, List.set_cons_zero, List.set_cons_succ, i64_w, i32_w]
          rfl
         refine pure_ (i := 5) (N := some 26) (v := ?_) (a' := ?_) #[true, true, false, false, true, true, false, false, false, false, false, false] rfl rfl (any_of HT_.out (by kernel_rfl)) (fun _ _ _ h => h) (Or.inl ⟨by rfl, ?_⟩) ?_ ?_
         rotate_left
         ·intro w'
          go_simp
          with_reducible rfl
         rotate_left
         ·simp only [Act.put, List.setIfInBounds_toArray, List.set_cons_zero, List.set_cons_succ, i64_w, i32_w]
          rfl
         refine inv_at [2, 3, 6, 7, 8, 9, 10, 11] (fun a0_ b a w' => ∃ (gb320 : Nat) (gb321 : Nat) (m8_ : Value) (m9_ : Value), a = putSel a0_ b [(2, 23, .pointer (some (ad318.add ((x7_1).toNat * 6)))), (3, 24, .agg #[.int .i64 ((rd_T36 l0 x7_1).f0), .int .i64 ((rd_T36 l0 x7_1).f1), .string ((rd_T36 l0 x7_1).f2), .bool ((rd_T36 l0 x7_1).f3.f0), .int .i64 ((rd_T36 l0 x7_1).f3.f1), .int .i64 ((rd_T36 l0 x7_1).f4)]), (6, 27, .pointer (some (ad319.add ((x7_1).toNat * 6)))), (7, 28, .agg #[.int .i64 ((rd_T36 l1 x7_1).f0), .int .i64 ((rd_T36 l1 x7_1).f1), .string ((rd_T36 l1 x7_1).f2), .bool ((rd_T36 l1 x7_1).f3.f0), .int .i64 ((rd_T36 l1 x7_1).f3.f1), .int .i64 ((rd_T36 l1 x7_1).f4)]), (8, 8, m8_), (9, 9, m9_)] ∧ (Below w.heap.size w w') ∧ (b 8 = true → b 9 = true → gb321 ≠ gb320) ∧ (b 8 = true → b 9 = true → gb320 ≠ gb321) ∧ (b 8 = true → b 10 = false → w'.heap[gb320]? = some (.cells #[.int .i64 0, .int .i64 0, .string (⟨#[]⟩ : ByteArray), .bool false, .int .i64 0, .int .i64 0] 36 (0, 0))) ∧ (b 8 = true → w.heap.size ≤ gb320) ∧ (b 8 = true → w.heap.size ≤ gb320) ∧ (b 9 = true → b 11 = false → w'.heap[gb321]? = some (.cells #[.int .i64 0, .int .i64 0, .string (⟨#[]⟩ : ByteArray), .bool false, .int .i64 0, .int .i64 0] 36 (0, 0))) ∧ (b 9 = true → w.heap.size ≤ gb321) ∧ (b 9 = true → w.heap.size ≤ gb321) ∧ (b 10 = true → w'.heap[gb320]? = some (.cells #[.int .i64 ((rd_T36 l0 x7_1).f0), .int .i64 ((rd_T36 l0 x7_1).f1), .string ((rd_T36 l0 x7_1).f2), .bool ((rd_T36 l0 x7_1).f3.f0), .int .i64 ((rd_T36 l0 x7_1).f3.f1), .int .i64 ((rd_T36 l0 x7_1).f4)] 36 (0, 0))) ∧ (b 11 = true → w'.heap[gb321]? = some (.cells #[.int .i64 ((rd_T36 l1 x7_1).f0), .int .i64 ((rd_T36 l1 x7_1).f1), .string ((rd_T36 l1 x7_1).f2), .bool ((rd_T36 l1 x7_1).f3.f0), .int .i64 ((rd_T36 l1 x7_1).f3.f1), .int .i64 ((rd_T36 l1 x7_1).f4)] 36 (0, 0))) ∧ (b 8 = true → (m8_ : Value) = .pointer (some ⟨gb320, 0, none⟩)) ∧ (b 9 = true → (m9_ : Value) = .pointer (some ⟨gb321, 0, none⟩))) HT_.out HW_.out (by kernel_rfl) (by kernel_rfl) ?_ ?_ ?_
         ·exact ⟨0, 0, .bool false, .bool false, by simp only [putSel, Bool.false_eq_true, if_false], HB.out, fun h_ => absurd h_ (by decide), fun h_ => absurd h_ (by decide), fun h_ => absurd h_ (by decide), fun h_ => absurd h_ (by decide), fun h_ => absurd h_ (by decide), fun h_ => absurd h_ (by decide), fun h_ => absurd h_ (by decide), fun h_ => absurd h_ (by decide), fun h_ => absurd h_ (by decide), fun h_ => absurd h_ (by decide), fun h_ => absurd h_ (by decide), fun h_ => absurd h_ (by decide)⟩
         ·skip
          clear HB
          refine steps_cons ?_ ?_
          ·rintro b a w' ⟨gb320, gb321, m8_, m9_, ha, Q_HB, Q_NB321_320, Q_NB320_321, Q_BK320, Q_GW320, Q_GE320, Q_BK321, Q_GW321, Q_GE321, Q_BK320_e10, Q_BK321_e11, Q_X8_, Q_X9_⟩ hb_ hon hoff
           refine ⟨_, rfl, fun K hK => ?_⟩
           have e21 : a.tmps[21]? = some (.slice (some ad318) l0.length c0) := by rw [ha]; exact (putSel_off rfl).trans rfl
           have e22 : a.tmps[22]? = some (.int .i64 x7_1) := by rw [ha]; exact (putSel_off rfl).trans rfl
           replace ha := Aside0.mk ha
           have HB := Aside0.mk Q_HB
           have hs0_ : w'.cell? (ad318.add ((x7_1).toNat * 6)) = some (.int .i64 ((rd_T36 l0 x7_1).f0)) := ((HB.out.cell (World.block_lt_of_cell? w _ hw318_0)).trans hw318_0)
           have hs1_ : w'.cell? ⟨(ad318.add ((x7_1).toNat * 6)).block, (ad318.add ((x7_1).toNat * 6)).off + 1, none⟩ = some (.int .i64 ((rd_T36 l0 x7_1).f1)) := ((HB.out.cell (World.block_lt_of_cell? w _ hw318_1)).trans hw318_1)
           have hs2_ : w'.cell? ⟨(ad318.add ((x7_1).toNat * 6)).block, (ad318.add ((x7_1).toNat * 6)).off + 2, none⟩ = some (.string ((rd_T36 l0 x7_1).f2)) := ((HB.out.cell (World.block_lt_of_cell? w _ hw318_2)).trans hw318_2)
           have hs3_ : w'.cell? ⟨(ad318.add ((x7_1).toNat * 6)).block, (ad318.add ((x7_1).toNat * 6)).off + 3, none⟩ = some (.bool ((rd_T36 l0 x7_1).f3.f0)) := ((HB.out.cell (World.block_lt_of_cell? w _ hw318_3)).trans hw318_3)
           have hs4_ : w'.cell? ⟨(ad318.add ((x7_1).toNat * 6)).block, (ad318.add ((x7_1).toNat * 6)).off + 4, none⟩ = some (.int .i64 ((rd_T36 l0 x7_1).f3.f1)) := ((HB.out.cell (World.block_lt_of_cell? w _ hw318_4)).trans hw318_4)
           have hs5_ : w'.cell? ⟨(ad318.add ((x7_1).toNat * 6)).block, (ad318.add ((x7_1).toNat * 6)).off + 5, none⟩ = some (.int .i64 ((rd_T36 l0 x7_1).f4)) := ((HB.out.cell (World.block_lt_of_cell? w _ hw318_5)).trans hw318_5)
           refine value_ (w1 := w') (v := .pointer (some (ad318.add ((x7_1).toNat * 6)))) (by rfl) rfl ?_ ?_
           ·go_simp
            (try simp only [i64_w])
            try rfl
           refine hK.out _ _ ⟨gb320, gb321, m8_, m9_, (by rw [ha.out]; exact putSel_upk 0 hb_ rfl rfl rfl), Q_HB, Q_NB321_320, Q_NB320_321, Q_BK320, Q_GW320, Q_GE320, Q_BK321, Q_GW321, Q_GE321, fun h0_ => absurd ((hoff 10 (by kernel_rfl)).symm.trans h0_) (by decide), fun h0_ => absurd ((hoff 11 (by kernel_rfl)).symm.trans h0_) (by decide), Q_X8_, Q_X9_⟩
          refine steps_cons ?_ ?_
          ·rintro b a w' ⟨gb320, gb321, m8_, m9_, ha, Q_HB, Q_NB321_320, Q_NB320_321, Q_BK320, Q_GW320, Q_GE320, Q_BK321, Q_GW321, Q_GE321, Q_BK320_e10, Q_BK321_e11, Q_X8_, Q_X9_⟩ hb_ hon hoff
           refine ⟨_, rfl, fun K hK => ?_⟩
           have e23 : a.tmps[23]? = some (.pointer (some (ad318.add ((x7_1).toNat * 6)))) := by rw [ha]; exact putSel_on (e := (2, 23, .pointer (some (ad318.add ((x7_1).toNat * 6))))) 0 rfl rfl (hon 2 (by kernel_rfl)) rfl
           replace ha := Aside0.mk ha
           have HB := Aside0.mk Q_HB
           have hs0_ : w'.cell? (ad318.add ((x7_1).toNat * 6)) = some (.int .i64 ((rd_T36 l0 x7_1).f0)) := ((HB.out.cell (World.block_lt_of_cell? w _ hw318_0)).trans hw318_0)
           have hs1_ : w'.cell? ⟨(ad318.add ((x7_1).toNat * 6)).block, (ad318.add ((x7_1).toNat * 6)).off + 1, none⟩ = some (.int .i64 ((rd_T36 l0 x7_1).f1)) := ((HB.out.cell (World.block_lt_of_cell? w _ hw318_1)).trans hw318_1)
           have hs2_ : w'.cell? ⟨(ad318.add ((x7_1).toNat * 6)).block, (ad318.add ((x7_1).toNat * 6)).off + 2, none⟩ = some (.string ((rd_T36 l0 x7_1).f2)) := ((HB.out.cell (World.block_lt_of_cell? w _ hw318_2)).trans hw318_2)
           have hs3_ : w'.cell? ⟨(ad318.add ((x7_1).toNat * 6)).block, (ad318.add ((x7_1).toNat * 6)).off + 3, none⟩ = some (.bool ((rd_T36 l0 x7_1).f3.f0)) := ((HB.out.cell (World.block_lt_of_cell? w _ hw318_3)).trans hw318_3)
           have hs4_ : w'.cell? ⟨(ad318.add ((x7_1).toNat * 6)).block, (ad318.add ((x7_1).toNat * 6)).off + 4, none⟩ = some (.int .i64 ((rd_T36 l0 x7_1).f3.f1)) := ((HB.out.cell (World.block_lt_of_cell? w _ hw318_4)).trans hw318_4)
           have hs5_ : w'.cell? ⟨(ad318.add ((x7_1).toNat * 6)).block, (ad318.add ((x7_1).toNat * 6)).off + 5, none⟩ = some (.int .i64 ((rd_T36 l0 x7_1).f4)) := ((HB.out.cell (World.block_lt_of_cell? w _ hw318_5)).trans hw318_5)
           refine value_ (w1 := w') (v := .agg #[.int .i64 ((rd_T36 l0 x7_1).f0), .int .i64 ((rd_T36 l0 x7_1).f1), .string ((rd_T36 l0 x7_1).f2), .bool ((rd_T36 l0 x7_1).f3.f0), .int .i64 ((rd_T36 l0 x7_1).f3.f1), .int .i64 ((rd_T36 l0 x7_1).f4)]) (by rfl) rfl ?_ ?_
           ·go_simp
            (try simp only [i64_w])
            try rfl
           refine hK.out _ _ ⟨gb320, gb321, m8_, m9_, (by rw [ha.out]; exact putSel_upk 1 hb_ rfl rfl rfl), Q_HB, Q_NB321_320, Q_NB320_321, Q_BK320, Q_GW320, Q_GE320, Q_BK321, Q_GW321, Q_GE321, fun h0_ => absurd ((hoff 10 (by kernel_rfl)).symm.trans h0_) (by decide), fun h0_ => absurd ((hoff 11 (by kernel_rfl)).symm.trans h0_) (by decide), Q_X8_, Q_X9_⟩
          refine steps_cons ?_ ?_
          ·rintro b a w' ⟨gb320, gb321, m8_, m9_, ha, Q_HB, Q_NB321_320, Q_NB320_321, Q_BK320, Q_GW320, Q_GE320, Q_BK321, Q_GW321, Q_GE321, Q_BK320_e10, Q_BK321_e11, Q_X8_, Q_X9_⟩ hb_ hon hoff
           refine ⟨_, rfl, fun K hK => ?_⟩
           have e25 : a.tmps[25]? = some (.slice (some ad319) l1.length c1) := by rw [ha]; exact (putSel_off rfl).trans rfl
           have e26 : a.tmps[26]? = some (.int .i64 x7_1) := by rw [ha]; exact (putSel_off rfl).trans rfl
           replace ha := Aside0.mk ha
           have HB := Aside0.mk Q_HB
           have hs6_ : w'.cell? (ad319.add ((x7_1).toNat * 6)) = some (.int .i64 ((rd_T36 l1 x7_1).f0)) := ((HB.out.cell (World.block_lt_of_cell? w _ hw319_0)).trans hw319_0)
           have hs7_ : w'.cell? ⟨(ad319.add ((x7_1).toNat * 6)).block, (ad319.add ((x7_1).toNat * 6)).off + 1, none⟩ = some (.int .i64 ((rd_T36 l1 x7_1).f1)) := ((HB.out.cell (World.block_lt_of_cell? w _ hw319_1)).trans hw319_1)
           have hs8_ : w'.cell? ⟨(ad319.add ((x7_1).toNat * 6)).block, (ad319.add ((x7_1).toNat * 6)).off + 2, none⟩ = some (.string ((rd_T36 l1 x7_1).f2)) := ((HB.out.cell (World.block_lt_of_cell? w _ hw319_2)).trans hw319_2)
           have hs9_ : w'.cell? ⟨(ad319.add ((x7_1).toNat * 6)).block, (ad319.add ((x7_1).toNat * 6)).off + 3, none⟩ = some (.bool ((rd_T36 l1 x7_1).f3.f0)) := ((HB.out.cell (World.block_lt_of_cell? w _ hw319_3)).trans hw319_3)
           have hs10_ : w'.cell? ⟨(ad319.add ((x7_1).toNat * 6)).block, (ad319.add ((x7_1).toNat * 6)).off + 4, none⟩ = some (.int .i64 ((rd_T36 l1 x7_1).f3.f1)) := ((HB.out.cell (World.block_lt_of_cell? w _ hw319_4)).trans hw319_4)
           have hs11_ : w'.cell? ⟨(ad319.add ((x7_1).toNat * 6)).block, (ad319.add ((x7_1).toNat * 6)).off + 5, none⟩ = some (.int .i64 ((rd_T36 l1 x7_1).f4)) := ((HB.out.cell (World.block_lt_of_cell? w _ hw319_5)).trans hw319_5)
           refine value_ (w1 := w') (v := .pointer (some (ad319.add ((x7_1).toNat * 6)))) (by rfl) rfl ?_ ?_
           ·go_simp
            (try simp only [i64_w])
            try rfl
           refine hK.out _ _ ⟨gb320, gb321, m8_, m9_, (by rw [ha.out]; exact putSel_upk 2 hb_ rfl rfl rfl), Q_HB, Q_NB321_320, Q_NB320_321, Q_BK320, Q_GW320, Q_GE320, Q_BK321, Q_GW321, Q_GE321, Q_BK320_e10, fun h0_ => absurd ((hoff 11 (by kernel_rfl)).symm.trans h0_) (by decide), Q_X8_, Q_X9_⟩
          refine steps_cons ?_ ?_
          ·rintro b a w' ⟨gb320, gb321, m8_, m9_, ha, Q_HB, Q_NB321_320, Q_NB320_321, Q_BK320, Q_GW320, Q_GE320, Q_BK321, Q_GW321, Q_GE321, Q_BK320_e10, Q_BK321_e11, Q_X8_, Q_X9_⟩ hb_ hon hoff
           refine ⟨_, rfl, fun K hK => ?_⟩
           have e27 : a.tmps[27]? = some (.pointer (some (ad319.add ((x7_1).toNat * 6)))) := by rw [ha]; exact putSel_on (e := (6, 27, .pointer (some (ad319.add ((x7_1).toNat * 6))))) 2 rfl rfl (hon 6 (by kernel_rfl)) rfl
           replace ha := Aside0.mk ha
           have HB := Aside0.mk Q_HB
           have hs6_ : w'.cell? (ad319.add ((x7_1).toNat * 6)) = some (.int .i64 ((rd_T36 l1 x7_1).f0)) := ((HB.out.cell (World.block_lt_of_cell? w _ hw319_0)).trans hw319_0)
           have hs7_ : w'.cell? ⟨(ad319.add ((x7_1).toNat * 6)).block, (ad319.add ((x7_1).toNat * 6)).off + 1, none⟩ = some (.int .i64 ((rd_T36 l1 x7_1).f1)) := ((HB.out.cell (World.block_lt_of_cell? w _ hw319_1)).trans hw319_1)
           have hs8_ : w'.cell? ⟨(ad319.add ((x7_1).toNat * 6)).block, (ad319.add ((x7_1).toNat * 6)).off + 2, none⟩ = some (.string ((rd_T36 l1 x7_1).f2)) := ((HB.out.cell (World.block_lt_of_cell? w _ hw319_2)).trans hw319_2)
           have hs9_ : w'.cell? ⟨(ad319.add ((x7_1).toNat * 6)).block, (ad319.add ((x7_1).toNat * 6)).off + 3, none⟩ = some (.bool ((rd_T36 l1 x7_1).f3.f0)) := ((HB.out.cell (World.block_lt_of_cell? w _ hw319_3)).trans hw319_3)
           have hs10_ : w'.cell? ⟨(ad319.add ((x7_1).toNat * 6)).block, (ad319.add ((x7_1).toNat * 6)).off + 4, none⟩ = some (.int .i64 ((rd_T36 l1 x7_1).f3.f1)) := ((HB.out.cell (World.block_lt_of_cell? w _ hw319_4)).trans hw319_4)
           have hs11_ : w'.cell? ⟨(ad319.add ((x7_1).toNat * 6)).block, (ad319.add ((x7_1).toNat * 6)).off + 5, none⟩ = some (.int .i64 ((rd_T36 l1 x7_1).f4)) := ((HB.out.cell (World.block_lt_of_cell? w _ hw319_5)).trans hw319_5)
           refine value_ (w1 := w') (v := .agg #[.int .i64 ((rd_T36 l1 x7_1).f0), .int .i64 ((rd_T36 l1 x7_1).f1), .string ((rd_T36 l1 x7_1).f2), .bool ((rd_T36 l1 x7_1).f3.f0), .int .i64 ((rd_T36 l1 x7_1).f3.f1), .int .i64 ((rd_T36 l1 x7_1).f4)]) (by rfl) rfl ?_ ?_
           ·go_simp
            (try simp only [i64_w])
            try rfl
           refine hK.out _ _ ⟨gb320, gb321, m8_, m9_, (by rw [ha.out]; exact putSel_upk 3 hb_ rfl rfl rfl), Q_HB, Q_NB321_320, Q_NB320_321, Q_BK320, Q_GW320, Q_GE320, Q_BK321, Q_GW321, Q_GE321, Q_BK320_e10, fun h0_ => absurd ((hoff 11 (by kernel_rfl)).symm.trans h0_) (by decide), Q_X8_, Q_X9_⟩
          refine steps_cons ?_ ?_
          ·rintro b a w' ⟨gb320, gb321, m8_, m9_, ha, Q_HB, Q_NB321_320, Q_NB320_321, Q_BK320, Q_GW320, Q_GE320, Q_BK321, Q_GW321, Q_GE321, Q_BK320_e10, Q_BK321_e11, Q_X8_, Q_X9_⟩ hb_ hon hoff
           refine ⟨_, rfl, fun K hK => ?_⟩
           replace ha := Aside0.mk ha
           have HB := Aside0.mk Q_HB
           refine box_step ?hg (N := 8) ?hd (cs := #[.int .i64 0, .int .i64 0, .string (⟨#[]⟩ : ByteArray), .bool false, .int .i64 0, .int .i64 0]) (t := 36) ?hr ?_; (case hd => rfl); (case hg => rfl); (case hr => first | (go_simp; done) | (go_simp; rfl))
           intro gb320 hg w11 hbox hb
           have n0_ := Aside0.mk (below_step (by repeat (first | (with_reducible first | exact HB.out | apply below_alloc | apply pw_below_drewN | apply below_drew1) | exact HB.out)) hb)
           have n1_ := Aside0.mk (hbox)
           have n2_ := Aside0.mk ((by rw [hg]; exact (below_size (by repeat (first | (with_reducible first | exact HB.out | apply below_alloc | apply pw_below_drewN | apply below_drew1) | exact HB.out))) : w.heap.size ≤ gb320))
           have n3_ := Aside0.mk ((by rw [hg]; exact (below_size (by repeat (first | (with_reducible first | exact HB.out | apply below_alloc | apply pw_below_drewN | apply below_drew1) | exact HB.out))) : w.heap.size ≤ gb320))
           have z_NB321_320 := fun (h0_ : up b 8 8 = true) (h1_ : up b 8 9 = true) => (show gb321 ≠ gb320 from ((by rw [hg]; cases h9_ : b 11 with | false => exact Nat.ne_of_lt (blk_lt (Q_BK321 h1_ h9_)) | true => exact Nat.ne_of_lt (blk_lt (Q_BK321_e11 h9_)) : gb321 ≠ gb320)))
           have z_NB320_321 := fun (h0_ : up b 8 8 = true) (h1_ : up b 8 9 = true) => (show gb320 ≠ gb321 from ((by rw [hg]; cases h9_ : b 11 with | false => exact Nat.ne_of_gt (blk_lt (Q_BK321 h1_ h9_)) | true => exact Nat.ne_of_gt (blk_lt (Q_BK321_e11 h9_)) : gb320 ≠ gb321)))
           have z_BK321 := fun (h0_ : b 9 = true) (h1_ : b 11 = false) => (show w11.heap[gb321]? = some (.cells #[.int .i64 0, .int .i64 0, .string (⟨#[]⟩ : ByteArray), .bool false, .int .i64 0, .int .i64 0] 36 (0, 0)) from by first | exact (blk_below (g := gb321) (o := .cells #[.int .i64 0, .int .i64 0, .string (⟨#[]⟩ : ByteArray), .bool false, .int .i64 0, .int .i64 0] 36 (0, 0)) (by (with_reducible repeat (first | refine blk_drewN ?_ _ | refine blk_drew ?_ | refine blk_alloc ?_ _)); exact (Q_BK321 h0_ h1_)) hb))
           clear HB
           have HB := n0_
           have BK320 := n1_
           have GW320 := n2_
           have GE320 := n3_
           clear n0_ n1_ n2_ n3_
           clear hb hbox hg
           refine hK.out _ _ ⟨gb320, gb321, (.pointer (some ⟨gb320, 0, none⟩)), m9_, (by rw [ha.out]; exact putSel_upk 4 hb_ rfl rfl rfl), (by repeat (first | (with_reducible first | exact HB.out | apply below_alloc | apply pw_below_drewN | apply below_drew1 | refine below_set ?_ GE320.out) | exact HB.out)), @z_NB321_320, @z_NB320_321, fun _ _ => (by (with_reducible repeat (first | refine blk_drewN ?_ _ | refine blk_drew ?_ | refine blk_alloc ?_ _)); exact BK320.out), fun _ => GW320.out, fun _ => GE320.out, z_BK321, Q_GW321, Q_GE321, fun h0_ => absurd ((hoff 10 (by kernel_rfl)).symm.trans h0_) (by decide), fun h0_ => absurd ((hoff 11 (by kernel_rfl)).symm.trans h0_) (by decide), fun _ => rfl, Q_X9_⟩
          refine steps_cons ?_ ?_
          ·rintro b a w' ⟨gb320, gb321, m8_, m9_, ha, Q_HB, Q_NB321_320, Q_NB320_321, Q_BK320, Q_GW320, Q_GE320, Q_BK321, Q_GW321, Q_GE321, Q_BK320_e10, Q_BK321_e11, Q_X8_, Q_X9_⟩ hb_ hon hoff
           refine ⟨_, rfl, fun K hK => ?_⟩
           replace ha := Aside0.mk ha
           have HB := Aside0.mk Q_HB
           refine box_step ?hg (N := 9) ?hd (cs := #[.int .i64 0, .int .i64 0, .string (⟨#[]⟩ : ByteArray), .bool false, .int .i64 0, .int .i64 0]) (t := 36) ?hr ?_; (case hd => rfl); (case hg => rfl); (case hr => first | (go_simp; done) | (go_simp; rfl))
           intro gb321 hg w11 hbox hb
           have n0_ := Aside0.mk (below_step (by repeat (first | (with_reducible first | exact HB.out | apply below_alloc | apply pw_below_drewN | apply below_drew1) | exact HB.out)) hb)
           have n1_ := Aside0.mk (hbox)
           have n2_ := Aside0.mk ((by rw [hg]; exact (below_size (by repeat (first | (with_reducible first | exact HB.out | apply below_alloc | apply pw_below_drewN | apply below_drew1) | exact HB.out))) : w.heap.size ≤ gb321))
           have n3_ := Aside0.mk ((by rw [hg]; exact (below_size (by repeat (first | (with_reducible first | exact HB.out | apply below_alloc | apply pw_below_drewN | apply below_drew1) | exact HB.out))) : w.heap.size ≤ gb321))
           have z_NB321_320 := fun (h0_ : up b 9 8 = true) (h1_ : up b 9 9 = true) => (show gb321 ≠ gb320 from ((by rw [hg]; cases h9_ : b 10 with | false => exact Nat.ne_of_gt (blk_lt (Q_BK320 h0_ h9_)) | true => exact Nat.ne_of_gt (blk_lt (Q_BK320_e10 h9_)) : gb321 ≠ gb320)))
           have z_NB320_321 := fun (h0_ : up b 9 8 = true) (h1_ : up b 9 9 = true) => (show gb320 ≠ gb321 from ((by rw [hg]; cases h9_ : b 10 with | false => exact Nat.ne_of_lt (blk_lt (Q_BK320 h0_ h9_)) | true => exact Nat.ne_of_lt (blk_lt (Q_BK320_e10 h9_)) : gb320 ≠ gb321)))
           have z_BK320 := fun (h0_ : b 8 = true) (h1_ : b 10 = false) => (show w11.heap[gb320]? = some (.cells #[.int .i64 0, .int .i64 0, .string (⟨#[]⟩ : ByteArray), .bool false, .int .i64 0, .int .i64 0] 36 (0, 0)) from by first | exact (blk_below (g := gb320) (o := .cells #[.int .i64 0, .int .i64 0, .string (⟨#[]⟩ : ByteArray), .bool false, .int .i64 0, .int .i64 0] 36 (0, 0)) (by (with_reducible repeat (first | refine blk_drewN ?_ _ | refine blk_drew ?_ | refine blk_alloc ?_ _)); exact (Q_BK320 h0_ h1_)) hb))
           clear HB
           have HB := n0_
           have BK321 := n1_
           have GW321 := n2_
           have GE321 := n3_
           clear n0_ n1_ n2_ n3_
           clear hb hbox hg
           refine hK.out _ _ ⟨gb320, gb321, m8_, (.pointer (some ⟨gb321, 0, none⟩)), (by rw [ha.out]; exact putSel_upk 5 hb_ rfl rfl rfl), (by repeat (first | (with_reducible first | exact HB.out | apply below_alloc | apply pw_below_drewN | apply below_drew1 | refine below_set ?_ GE321.out) | exact HB.out)), @z_NB321_320, @z_NB320_321, z_BK320, Q_GW320, Q_GE320, fun _ _ => (by (with_reducible repeat (first | refine blk_drewN ?_ _ | refine blk_drew ?_ | refine blk_alloc ?_ _)); exact BK321.out), fun _ => GW321.out, fun _ => GE321.out, fun h0_ => absurd ((hoff 10 (by kernel_rfl)).symm.trans h0_) (by decide), fun h0_ => absurd ((hoff 11 (by kernel_rfl)).symm.trans h0_) (by decide), Q_X8_, fun _ => rfl⟩
          refine steps_cons ?_ ?_
          ·rintro b a w' ⟨gb320, gb321, m8_, m9_, ha, Q_HB, Q_NB321_320, Q_NB320_321, Q_BK320, Q_GW320, Q_GE320, Q_BK321, Q_GW321, Q_GE321, Q_BK320_e10, Q_BK321_e11, Q_X8_, Q_X9_⟩ hb_ hon hoff
           refine ⟨_, rfl, fun K hK => ?_⟩
           have e8 : a.tmps[8]? = some (m8_) := by rw [ha]; exact putSel_on (e := (8, 8, m8_)) 4 rfl rfl (hon 8 (by kernel_rfl)) rfl
           rw [Q_X8_ (hon 8 (by kernel_rfl))] at e8
           have e24 : a.tmps[24]? = some (.agg #[.int .i64 ((rd_T36 l0 x7_1).f0), .int .i64 ((rd_T36 l0 x7_1).f1), .string ((rd_T36 l0 x7_1).f2), .bool ((rd_T36 l0 x7_1).f3.f0), .int .i64 ((rd_T36 l0 x7_1).f3.f1), .int .i64 ((rd_T36 l0 x7_1).f4)]) := by rw [ha]; exact putSel_on (e := (3, 24, .agg #[.int .i64 ((rd_T36 l0 x7_1).f0), .int .i64 ((rd_T36 l0 x7_1).f1), .string ((rd_T36 l0 x7_1).f2), .bool ((rd_T36 l0 x7_1).f3.f0), .int .i64 ((rd_T36 l0 x7_1).f3.f1), .int .i64 ((rd_T36 l0 x7_1).f4)])) 1 rfl rfl (hon 3 (by kernel_rfl)) rfl
           replace ha := Aside0.mk ha
           have HB := Aside0.mk Q_HB
           have NB321_320 := Aside0.mk (Q_NB321_320 (hon 8 (by kernel_rfl)) (hon 9 (by kernel_rfl)))
           have NB320_321 := Aside0.mk (Q_NB320_321 (hon 8 (by kernel_rfl)) (hon 9 (by kernel_rfl)))
           have BK320 := Aside0.mk (Q_BK320 (hon 8 (by kernel_rfl)) hb_)
           have GW320 := Aside0.mk (Q_GW320 (hon 8 (by kernel_rfl)))
           have GE320 := Aside0.mk (Q_GE320 (hon 8 (by kernel_rfl)))
           have BK321 := Aside0.mk (Q_BK321 (hon 9 (by kernel_rfl)) (hoff 11 (by kernel_rfl)))
           have GW321 := Aside0.mk (Q_GW321 (hon 9 (by kernel_rfl)))
           have GE321 := Aside0.mk (Q_GE321 (hon 9 (by kernel_rfl)))
           have hs14 : w'.cell? ⟨gb320, 0, none⟩ = some (.int .i64 0) := (blk_cell BK320.out 0).trans rfl
           have hfs14 := blk_frozen BK320.out 0
           have hns14_1 := NB321_320.out
           have hms14_1 := NB320_321.out
           have hs15 : w'.cell? ⟨gb320, 1, none⟩ = some (.int .i64 0) := (blk_cell BK320.out 1).trans rfl
           have hfs15 := blk_frozen BK320.out 1
           have hns15_1 := NB321_320.out
           have hms15_1 := NB320_321.out
           have hs16 : w'.cell? ⟨gb320, 2, none⟩ = some (.string (⟨#[]⟩ : ByteArray)) := (blk_cell BK320.out 2).trans rfl
           have hfs16 := blk_frozen BK320.out 2
           have hns16_1 := NB321_320.out
           have hms16_1 := NB320_321.out
           have hs17 : w'.cell? ⟨gb320, 3, none⟩ = some (.bool false) := (blk_cell BK320.out 3).trans rfl
           have hfs17 := blk_frozen BK320.out 3
           have hns17_1 := NB321_320.out
           have hms17_1 := NB320_321.out
           have hs18 : w'.cell? ⟨gb320, 4, none⟩ = some (.int .i64 0) := (blk_cell BK320.out 4).trans rfl
           have hfs18 := blk_frozen BK320.out 4
           have hns18_1 := NB321_320.out
           have hms18_1 := NB320_321.out
           have hs19 : w'.cell? ⟨gb320, 5, none⟩ = some (.int .i64 0) := (blk_cell BK320.out 5).trans rfl
           have hfs19 := blk_frozen BK320.out 5
           have hns19_1 := NB321_320.out
           have hms19_1 := NB320_321.out
           refine skip_ (w1 := ?_) (by rfl) rfl ?_ ?_
           rotate_left
           ·go_simp
            rfl
           refine hK.out _ _ ⟨gb320, gb321, m8_, m9_, (by rw [ha.out]; exact putSel_none (v := undef) rfl), (by repeat (first | (with_reducible first | exact HB.out | apply below_alloc | apply pw_below_drewN | apply below_drew1 | refine below_set ?_ GE320.out | refine below_set ?_ GE321.out) | exact HB.out)), fun _ _ => NB321_320.out, fun _ _ => NB320_321.out, fun _ h1_ => absurd ((up_self b 10).symm.trans h1_) (by decide), fun _ => GW320.out, fun _ => GE320.out, fun _ _ => (by (with_reducible repeat (first | refine blk_drewN ?_ _ | refine blk_drew ?_ | refine blk_alloc ?_ _)); refine blk_far ?_ NB321_320.out _; (with_reducible repeat (first | refine blk_drewN ?_ _ | refine blk_drew ?_ | refine blk_alloc ?_ _)); refine blk_far ?_ NB321_320.out _; (with_reducible repeat (first | refine blk_drewN ?_ _ | refine blk_drew ?_ | refine blk_alloc ?_ _)); refine blk_far ?_ NB321_320.out _; (with_reducible repeat (first | refine blk_drewN ?_ _ | refine blk_drew ?_ | refine blk_alloc ?_ _)); refine blk_far ?_ NB321_320.out _; (with_reducible repeat (first | refine blk_drewN ?_ _ | refine blk_drew ?_ | refine blk_alloc ?_ _)); refine blk_far ?_ NB321_320.out _; (with_reducible repeat (first | refine blk_drewN ?_ _ | refine blk_drew ?_ | refine blk_alloc ?_ _)); refine blk_far ?_ NB321_320.out _; (with_reducible repeat (first | refine blk_drewN ?_ _ | refine blk_drew ?_ | refine blk_alloc ?_ _)); exact BK321.out), fun _ => GW321.out, fun _ => GE321.out, fun _ => (by (with_reducible repeat (first | refine blk_drewN ?_ _ | refine blk_drew ?_ | refine blk_alloc ?_ _)); refine blk_put (cs := #[.int .i64 ((rd_T36 l0 x7_1).f0), .int .i64 ((rd_T36 l0 x7_1).f1), .string ((rd_T36 l0 x7_1).f2), .bool ((rd_T36 l0 x7_1).f3.f0), .int .i64 ((rd_T36 l0 x7_1).f3.f1), .int .i64 0]) ?_ 5 _ rfl; (with_reducible repeat (first | refine blk_drewN ?_ _ | refine blk_drew ?_ | refine blk_alloc ?_ _)); refine blk_put (cs := #[.int .i64 ((rd_T36 l0 x7_1).f0), .int .i64 ((rd_T36 l0 x7_1).f1), .string ((rd_T36 l0 x7_1).f2), .bool ((rd_T36 l0 x7_1).f3.f0), .int .i64 0, .int .i64 0]) ?_ 4 _ rfl; (with_reducible repeat (first | refine blk_drewN ?_ _ | refine blk_drew ?_ | refine blk_alloc ?_ _)); refine blk_put (cs := #[.int .i64 ((rd_T36 l0 x7_1).f0), .int .i64 ((rd_T36 l0 x7_1).f1), .string ((rd_T36 l0 x7_1).f2), .bool false, .int .i64 0, .int .i64 0]) ?_ 3 _ rfl; (with_reducible repeat (first | refine blk_drewN ?_ _ | refine blk_drew ?_ | refine blk_alloc ?_ _)); refine blk_put (cs := #[.int .i64 ((rd_T36 l0 x7_1).f0), .int .i64 ((rd_T36 l0 x7_1).f1), .string (⟨#[]⟩ : ByteArray), .bool false, .int .i64 0, .int .i64 0]) ?_ 2 _ rfl; (with_reducible repeat (first | refine blk_drewN ?_ _ | refine blk_drew ?_ | refine blk_alloc ?_ _)); refine blk_put (cs := #[.int .i64 ((rd_T36 l0 x7_1).f0), .int .i64 0, .string (⟨#[]⟩ : ByteArray), .bool false, .int .i64 0, .int .i64 0]) ?_ 1 _ rfl; (with_reducible repeat (first | refine blk_drewN ?_ _ | refine blk_drew ?_ | refine blk_alloc ?_ _)); refine blk_put (cs := #[.int .i64 0, .int .i64 0, .string (⟨#[]⟩ : ByteArray), .bool false, .int .i64 0, .int .i64 0]) ?_ 0 _ rfl; (with_reducible repeat (first | refine blk_drewN ?_ _ | refine blk_drew ?_ | refine blk_alloc ?_ _)); exact BK320.out), fun h0_ => absurd ((hoff 11 (by kernel_rfl)).symm.trans h0_) (by decide), Q_X8_, Q_X9_⟩
          refine steps_cons ?_ ?_
          ·rintro b a w' ⟨gb320, gb321, m8_, m9_, ha, Q_HB, Q_NB321_320, Q_NB320_321, Q_BK320, Q_GW320, Q_GE320, Q_BK321, Q_GW321, Q_GE321, Q_BK320_e10, Q_BK321_e11, Q_X8_, Q_X9_⟩ hb_ hon hoff
           refine ⟨_, rfl, fun K hK => ?_⟩
           have e9 : a.tmps[9]? = some (m9_) := by rw [ha]; exact putSel_on (e := (9, 9, m9_)) 5 rfl rfl (hon 9 (by kernel_rfl)) rfl
           rw [Q_X9_ (hon 9 (by kernel_rfl))] at e9
           have e28 : a.tmps[28]? = some (.agg #[.int .i64 ((rd_T36 l1 x7_1).f0), .int .i64 ((rd_T36 l1 x7_1).f1), .string ((rd_T36 l1 x7_1).f2), .bool ((rd_T36 l1 x7_1).f3.f0), .int .i64 ((rd_T36 l1 x7_1).f3.f1), .int .i64 ((rd_T36 l1 x7_1).f4)]) := by rw [ha]; exact putSel_on (e := (7, 28, .agg #[.int .i64 ((rd_T36 l1 x7_1).f0), .int .i64 ((rd_T36 l1 x7_1).f1), .string ((rd_T36 l1 x7_1).f2), .bool ((rd_T36 l1 x7_1).f3.f0), .int .i64 ((rd_T36 l1 x7_1).f3.f1), .int .i64 ((rd_T36 l1 x7_1).f4)])) 3 rfl rfl (hon 7 (by kernel_rfl)) rfl
           replace ha := Aside0.mk ha
           have HB := Aside0.mk Q_HB
           have NB321_320 := Aside0.mk (Q_NB321_320 (hon 8 (by kernel_rfl)) (hon 9 (by kernel_rfl)))
           have NB320_321 := Aside0.mk (Q_NB320_321 (hon 8 (by kernel_rfl)) (hon 9 (by kernel_rfl)))
           have GW320 := Aside0.mk (Q_GW320 (hon 8 (by kernel_rfl)))
           have GE320 := Aside0.mk (Q_GE320 (hon 8 (by kernel_rfl)))
           have BK321 := Aside0.mk (Q_BK321 (hon 9 (by kernel_rfl)) hb_)
           have GW321 := Aside0.mk (Q_GW321 (hon 9 (by kernel_rfl)))
           have GE321 := Aside0.mk (Q_GE321 (hon 9 (by kernel_rfl)))
           have BK320 := Aside0.mk (Q_BK320_e10 (hon 10 (by kernel_rfl)))
           have hs20 : w'.cell? ⟨gb321, 0, none⟩ = some (.int .i64 0) := (blk_cell BK321.out 0).trans rfl
           have hfs20 := blk_frozen BK321.out 0
           have hns20_0 := NB320_321.out
           have hms20_0 := NB321_320.out
           have hs21 : w'.cell? ⟨gb321, 1, none⟩ = some (.int .i64 0) := (blk_cell BK321.out 1).trans rfl
           have hfs21 := blk_frozen BK321.out 1
           have hns21_0 := NB320_321.out
           have hms21_0 := NB321_320.out
           have hs22 : w'.cell? ⟨gb321, 2, none⟩ = some (.string (⟨#[]⟩ : ByteArray)) := (blk_cell BK321.out 2).trans rfl
           have hfs22 := blk_frozen BK321.out 2
           have hns22_0 := NB320_321.out
           have hms22_0 := NB321_320.out
           have hs23 : w'.cell? ⟨gb321, 3, none⟩ = some (.bool false) := (blk_cell BK321.out 3).trans rfl
           have hfs23 := blk_frozen BK321.out 3
           have hns23_0 := NB320_321.out
           have hms23_0 := NB321_320.out
           have hs24 : w'.cell? ⟨gb321, 4, none⟩ = some (.int .i64 0) := (blk_cell BK321.out 4).trans rfl
           have hfs24 := blk_frozen BK321.out 4
           have hns24_0 := NB320_321.out
           have hms24_0 := NB321_320.out
           have hs25 : w'.cell? ⟨gb321, 5, none⟩ = some (.int .i64 0) := (blk_cell BK321.out 5).trans rfl
           have hfs25 := blk_frozen BK321.out 5
           have hns25_0 := NB320_321.out
           have hms25_0 := NB321_320.out
           refine skip_ (w1 := ?_) (by rfl) rfl ?_ ?_
           rotate_left
           ·go_simp
            rfl
           refine hK.out _ _ ⟨gb320, gb321, m8_, m9_, (by rw [ha.out]; exact putSel_none (v := undef) rfl), (by repeat (first | (with_reducible first | exact HB.out | apply below_alloc | apply pw_below_drewN | apply below_drew1 | refine below_set ?_ GE320.out | refine below_set ?_ GE321.out) | exact HB.out)), fun _ _ => NB321_320.out, fun _ _ => NB320_321.out, fun _ h1_ => absurd ((hon 10 (by kernel_rfl)).symm.trans h1_) (by decide), fun _ => GW320.out, fun _ => GE320.out, fun _ h1_ => absurd ((up_self b 11).symm.trans h1_) (by decide), fun _ => GW321.out, fun _ => GE321.out, fun _ => (by (with_reducible repeat (first | refine blk_drewN ?_ _ | refine blk_drew ?_ | refine blk_alloc ?_ _)); refine blk_far ?_ NB320_321.out _; (with_reducible repeat (first | refine blk_drewN ?_ _ | refine blk_drew ?_ | refine blk_alloc ?_ _)); refine blk_far ?_ NB320_321.out _; (with_reducible repeat (first | refine blk_drewN ?_ _ | refine blk_drew ?_ | refine blk_alloc ?_ _)); refine blk_far ?_ NB320_321.out _; (with_reducible repeat (first | refine blk_drewN ?_ _ | refine blk_drew ?_ | refine blk_alloc ?_ _)); refine blk_far ?_ NB320_321.out _; (with_reducible repeat (first | refine blk_drewN ?_ _ | refine blk_drew ?_ | refine blk_alloc ?_ _)); refine blk_far ?_ NB320_321.out _; (with_reducible repeat (first | refine blk_drewN ?_ _ | refine blk_drew ?_ | refine blk_alloc ?_ _)); refine blk_far ?_ NB320_321.out _; (with_reducible repeat (first | refine blk_drewN ?_ _ | refine blk_drew ?_ | refine blk_alloc ?_ _)); exact BK320.out), fun _ => (by (with_reducible repeat (first | refine blk_drewN ?_ _ | refine blk_drew ?_ | refine blk_alloc ?_ _)); refine blk_put (cs := #[.int .i64 ((rd_T36 l1 x7_1).f0), .int .i64 ((rd_T36 l1 x7_1).f1), .string ((rd_T36 l1 x7_1).f2), .bool ((rd_T36 l1 x7_1).f3.f0), .int .i64 ((rd_T36 l1 x7_1).f3.f1), .int .i64 0]) ?_ 5 _ rfl; (with_reducible repeat (first | refine blk_drewN ?_ _ | refine blk_drew ?_ | refine blk_alloc ?_ _)); refine blk_put (cs := #[.int .i64 ((rd_T36 l1 x7_1).f0), .int .i64 ((rd_T36 l1 x7_1).f1), .string ((rd_T36 l1 x7_1).f2), .bool ((rd_T36 l1 x7_1).f3.f0), .int .i64 0, .int .i64 0]) ?_ 4 _ rfl; (with_reducible repeat (first | refine blk_drewN ?_ _ | refine blk_drew ?_ | refine blk_alloc ?_ _)); refine blk_put (cs := #[.int .i64 ((rd_T36 l1 x7_1).f0), .int .i64 ((rd_T36 l1 x7_1).f1), .string ((rd_T36 l1 x7_1).f2), .bool false, .int .i64 0, .int .i64 0]) ?_ 3 _ rfl; (with_reducible repeat (first | refine blk_drewN ?_ _ | refine blk_drew ?_ | refine blk_alloc ?_ _)); refine blk_put (cs := #[.int .i64 ((rd_T36 l1 x7_1).f0), .int .i64 ((rd_T36 l1 x7_1).f1), .string (⟨#[]⟩ : ByteArray), .bool false, .int .i64 0, .int .i64 0]) ?_ 2 _ rfl; (with_reducible repeat (first | refine blk_drewN ?_ _ | refine blk_drew ?_ | refine blk_alloc ?_ _)); refine blk_put (cs := #[.int .i64 ((rd_T36 l1 x7_1).f0), .int .i64 0, .string (⟨#[]⟩ : ByteArray), .bool false, .int .i64 0, .int .i64 0]) ?_ 1 _ rfl; (with_reducible repeat (first | refine blk_drewN ?_ _ | refine blk_drew ?_ | refine blk_alloc ?_ _)); refine blk_put (cs := #[.int .i64 0, .int .i64 0, .string (⟨#[]⟩ : ByteArray), .bool false, .int .i64 0, .int .i64 0]) ?_ 0 _ rfl; (with_reducible repeat (first | refine blk_drewN ?_ _ | refine blk_drew ?_ | refine blk_alloc ?_ _)); exact BK321.out), Q_X8_, Q_X9_⟩
          exact steps_nil
         rintro b a w25 hall ⟨gb320, gb321, m8_, m9_, ha, Q_HB, Q_NB321_320, Q_NB320_321, Q_BK320, Q_GW320, Q_GE320, Q_BK321, Q_GW321, Q_GE321, Q_BK320_e10, Q_BK321_e11, Q_X8_, Q_X9_⟩
         clear HB
         have hb2_ := hall 2 (by kernel_rfl)
         have hb3_ := hall 3 (by kernel_rfl)
         have hb6_ := hall 6 (by kernel_rfl)
         have hb7_ := hall 7 (by kernel_rfl)
         have hb8_ := hall 8 (by kernel_rfl)
         have hb9_ := hall 9 (by kernel_rfl)
         have hb10_ := hall 10 (by kernel_rfl)
         have hb11_ := hall 11 (by kernel_rfl)
         subst ha
         obtain rfl := Q_X8_ hb8_
         obtain rfl := Q_X9_ hb9_
         simp only [putSel, hb2_, hb3_, hb6_, hb7_, hb8_, hb9_, hb10_, hb11_, if_true, Act.put, List.setIfInBounds_toArray, List.set_cons_zero, List.set_cons_succ]
         have HB := Aside0.mk Q_HB
         clear Q_HB
         have NB321_320 := Aside0.mk (Q_NB321_320 hb8_ hb9_)
         clear Q_NB321_320
         have NB320_321 := Aside0.mk (Q_NB320_321 hb8_ hb9_)
         clear Q_NB320_321
         clear Q_BK320
         have GW320 := Aside0.mk (Q_GW320 hb8_)
         clear Q_GW320
         have GE320 := Aside0.mk (Q_GE320 hb8_)
         clear Q_GE320
         clear Q_BK321
         have GW321 := Aside0.mk (Q_GW321 hb9_)
         clear Q_GW321
         have GE321 := Aside0.mk (Q_GE321 hb9_)
         clear Q_GE321
         have BK320 := Aside0.mk (Q_BK320_e10 hb10_)
         clear Q_BK320_e10
         have BK321 := Aside0.mk (Q_BK321_e11 hb11_)
         clear Q_BK321_e11
         clear hall hb2_ hb3_ hb6_ hb7_ hb8_ hb9_ hb10_ hb11_
         have hnb26 := NB320_321.out
         have hnc26 := NB321_320.out
         have hcz27_0 : w25.cell? ⟨gb320, 0, none⟩ = some (.int .i64 ((rd_T36 l0 x7_1).f0)) := (blk_cell BK320.out 0).trans rfl
         have hcz27_1 : w25.cell? ⟨gb320, 1, none⟩ = some (.int .i64 ((rd_T36 l0 x7_1).f1)) := (blk_cell BK320.out 1).trans rfl
         have hcz27_2 : w25.cell? ⟨gb320, 2, none⟩ = some (.string ((rd_T36 l0 x7_1).f2)) := (blk_cell BK320.out 2).trans rfl
         have hcz27_3 : w25.cell? ⟨gb320, 3, none⟩ = some (.bool ((rd_T36 l0 x7_1).f3.f0)) := (blk_cell BK320.out 3).trans rfl
         have hcz27_4 : w25.cell? ⟨gb320, 4, none⟩ = some (.int .i64 ((rd_T36 l0 x7_1).f3.f1)) := (blk_cell BK320.out 4).trans rfl
         have hcz27_5 : w25.cell? ⟨gb320, 5, none⟩ = some (.int .i64 ((rd_T36 l0 x7_1).f4)) := (blk_cell BK320.out 5).trans rfl
         have hfz27_0 := blk_frozen BK320.out 0
         have hfz27_1 := blk_frozen BK320.out 1
         have hfz27_2 := blk_frozen BK320.out 2
         have hfz27_3 := blk_frozen BK320.out 3
         have hfz27_4 := blk_frozen BK320.out 4
         have hfz27_5 := blk_frozen BK320.out 5
         have hcz28_0 : w25.cell? ⟨gb321, 0, none⟩ = some (.int .i64 ((rd_T36 l1 x7_1).f0)) := (blk_cell BK321.out 0).trans rfl
         have hcz28_1 : w25.cell? ⟨gb321, 1, none⟩ = some (.int .i64 ((rd_T36 l1 x7_1).f1)) := (blk_cell BK321.out 1).trans rfl
         have hcz28_2 : w25.cell? ⟨gb321, 2, none⟩ = some (.string ((rd_T36 l1 x7_1).f2)) := (blk_cell BK321.out 2).trans rfl
         have hcz28_3 : w25.cell? ⟨gb321, 3, none⟩ = some (.bool ((rd_T36 l1 x7_1).f3.f0)) := (blk_cell BK321.out 3).trans rfl
         have hcz28_4 : w25.cell? ⟨gb321, 4, none⟩ = some (.int .i64 ((rd_T36 l1 x7_1).f3.f1)) := (blk_cell BK321.out 4).trans rfl
         have hcz28_5 : w25.cell? ⟨gb321, 5, none⟩ = some (.int .i64 ((rd_T36 l1 x7_1).f4)) := (blk_cell BK321.out 5).trans rfl
         have hfz28_0 := blk_frozen BK321.out 0
         have hfz28_1 := blk_frozen BK321.out 1
         have hfz28_2 := blk_frozen BK321.out 2
         have hfz28_3 := blk_frozen BK321.out 3
         have hfz28_4 := blk_frozen BK321.out 4
         have hfz28_5 := blk_frozen BK321.out 5
         try go_wp2
         go_roundg k1
         case measure => have := HK1.out; omega
         case rel => exact ⟨(wrap64 (x7_1 + 1)), (by first | rfl | (simp; done) | (simp [*]; done)), H', ⟨by have := HK1.out; omega⟩, ⟨by repeat (first | (with_reducible first | exact HB.out | apply below_alloc | apply pw_below_drewN | apply below_drew1 | refine below_set ?_ GE320.out | refine below_set ?_ GE321.out) | exact HB.out)⟩⟩
       ·replace c8 := Bool.eq_false_iff.mpr c8
        subst c8
        have H1 : (if (!(((rd_T36 l0 x7_1).f0) == ((rd_T36 l1 x7_1).f0)) || (!((((rd_T36 l0 x7_1).f2).toList) == (((rd_T36 l1 x7_1).f2).toList)) || ((!(((rd_T36 l0 x7_1).f3.f0) == ((rd_T36 l1 x7_1).f3.f0)) || (!(((rd_T36 l0 x7_1).f3.f1) == ((rd_T36 l1 x7_1).f3.f1)))) || (!(((rd_T36 l0 x7_1).f4) == ((rd_T36 l1 x7_1).f4)))))) = true then (none) else (spillwaylaw7_same.l0 k1 l0 l1 false (wrap64 (x7_1 + 1)))) = some r := by rw [if_neg (show ¬ (false = true) by decide)] at H; exact H
        clear H
        have H := H1
        clear H1
        by_cases c29 : (!(((rd_T36 l0 x7_1).f0) == ((rd_T36 l1 x7_1).f0)) || (!((((rd_T36 l0 x7_1).f2).toList) == (((rd_T36 l1 x7_1).f2).toList)) || ((!(((rd_T36 l0 x7_1).f3.f0) == ((rd_T36 l1 x7_1).f3.f0)) || (!(((rd_T36 l0 x7_1).f3.f1) == ((rd_T36 l1 x7_1).f3.f1)))) || (!(((rd_T36 l0 x7_1).f4) == ((rd_T36 l1 x7_1).f4)))))) = true
        ·rw [if_pos c29] at H
         exact absurd H (by simp)
        ·rw [if_neg c29] at H
         have c29b0 : (!(((rd_T36 l0 x7_1).f0) == ((rd_T36 l1 x7_1).f0)) || (!((((rd_T36 l0 x7_1).f2).toList) == (((rd_T36 l1 x7_1).f2).toList)) || ((!(((rd_T36 l0 x7_1).f3.f0) == ((rd_T36 l1 x7_1).f3.f0)) || (!(((rd_T36 l0 x7_1).f3.f1) == ((rd_T36 l1 x7_1).f3.f1)))) || (!(((rd_T36 l0 x7_1).f4) == ((rd_T36 l1 x7_1).f4)))))) = false := by simpa using c29
         clear c29
         have H' := Aside0.mk H
         clear H
         try go_wp2
         have n0_ := Aside0.mk (below_drew1 HB.out)
         clear HB
         have HB := n0_
         clear n0_
         have p318 : 0 ≤ (x7_1 : Int) := of_decide_eq_true (by first | (with_reducible assumption) | assumption)
         have q318 : x7_1 < (l0.length : Int) := of_decide_eq_true (by first | (with_reducible assumption) | assumption)
         obtain ⟨ad318, e318, hx318_0, hx318_1, hx318_2, hx318_3, hx318_4, hx318_5⟩ := at_T36 HR0.out x7_1 p318 q318
         have hw318_5 := hx318_5
         have hw318_4 := hx318_4
         have hw318_3 := hx318_3
         have hw318_2 := hx318_2
         have hw318_1 := hx318_1
         have hw318_0 := hx318_0
         cases e318
         replace hx318_0 := (HB.out.cell (World.block_lt_of_cell? w _ hx318_0)).trans hx318_0
         replace hx318_1 := (HB.out.cell (World.block_lt_of_cell? w _ hx318_1)).trans hx318_1
         replace hx318_2 := (HB.out.cell (World.block_lt_of_cell? w _ hx318_2)).trans hx318_2
         replace hx318_3 := (HB.out.cell (World.block_lt_of_cell? w _ hx318_3)).trans hx318_3
         replace hx318_4 := (HB.out.cell (World.block_lt_of_cell? w _ hx318_4)).trans hx318_4
         replace hx318_5 := (HB.out.cell (World.block_lt_of_cell? w _ hx318_5)).trans hx318_5
         replace p318 := eq_true p318
         replace q318 := eq_true q318
         have p319 : 0 ≤ (x7_1 : Int) := of_decide_eq_true (by first | (with_reducible assumption) | assumption)
         have q319 : x7_1 < (l1.length : Int) := of_decide_eq_true (by first | (with_reducible assumption) | assumption)
         obtain ⟨ad319, e319, hx319_0, hx319_1, hx319_2, hx319_3, hx319_4, hx319_5⟩ := at_T36 HR1.out x7_1 p319 q319
         have hw319_5 := hx319_5
         have hw319_4 := hx319_4
         have hw319_3 := hx319_3
         have hw319_2 := hx319_2
         have hw319_1 := hx319_1
         have hw319_0 := hx319_0
         cases e319
         replace hx319_0 := (HB.out.cell (World.block_lt_of_cell? w _ hx319_0)).trans hx319_0
         replace hx319_1 := (HB.out.cell (World.block_lt_of_cell? w _ hx319_1)).trans hx319_1
         replace hx319_2 := (HB.out.cell (World.block_lt_of_cell? w _ hx319_2)).trans hx319_2
         replace hx319_3 := (HB.out.cell (World.block_lt_of_cell? w _ hx319_3)).trans hx319_3
         replace hx319_4 := (HB.out.cell (World.block_lt_of_cell? w _ hx319_4)).trans hx319_4
         replace hx319_5 := (HB.out.cell (World.block_lt_of_cell? w _ hx319_5)).trans hx319_5
         replace p319 := eq_true p319
         replace q319 := eq_true q319
         refine start_ (n := 12) (S := fun w' => True) (ds := []) #[false, false, false, false, false, false, false, false, false, false, false, false] (by kernel_rfl) rfl rfl trivial (fun hHeld => ?_); refine with_tabW spillwaylaw7_same.tab6 spillwaylaw7_same.bits6 (fun HT_ HW_ => ?_)
         generalize wr.drew = w30 at HB hx318_0 hx318_1 hx318_2 hx318_3 hx318_4 hx318_5 hx319_0 hx319_1 hx319_2 hx319_3 hx319_4 hx319_5 hHeld ⊢
         refine pure_ (i := 0) (N := some 21) (v := ?_) (a' := ?_) #[true, false, false, false, false, false, false, false, false, false, false, false] rfl rfl (any_of HT_.out (by kernel_rfl)) (fun _ _ _ h => h) (Or.inl ⟨by rfl, ?_⟩) ?_ ?_
         rotate_left
         ·intro w'
          go_simp
          with_reducible rfl
         rotate_left
         ·simp only [Act.put, List.setIfInBounds_toArray, List.set_cons_zero, List.set_cons_succ, i64_w, i32_w]
          rfl
         refine pure_ (i := 1) (N := some 22) (v := ?_) (a' := ?_) #[true, true, false, false, false, false, false, false, false, false, false, false] rfl rfl (any_of HT_.out (by kernel_rfl)) (fun _ _ _ h => h) (Or.inl ⟨by rfl, ?_⟩) ?_ ?_
         rotate_left
         ·intro w'
          go_simp
          with_reducible rfl
         rotate_left
         ·simp only [Act.put, List.setIfInBounds_toArray, List.set_cons_zero, List.set_cons_succ, i64_w, i32_w]
          rfl
         refine pure_ (i := 4) (N := some 25) (v := ?_) (a' := ?_) #[true, true, false, false, true, false, false, false, false, false, false, false] rfl rfl (any_of HT_.out (by kernel_rfl)) (fun _ _ _ h => h) (Or.inl ⟨by rfl, ?_⟩) ?_ ?_
         rotate_left
         ·intro w'
          go_simp
          with_reducible rfl
         rotate_left
         ·simp only [Act.put, List.setIfInBounds_toArray, List.set_cons_zero, List.set_cons_succ, i64_w, i32_w]
          rfl
         refine pure_ (i := 5) (N := some 26) (v := ?_) (a' := ?_) #[true, true, false, false, true, true, false, false, false, false, false, false] rfl rfl (any_of HT_.out (by kernel_rfl)) (fun _ _ _ h => h) (Or.inl ⟨by rfl, ?_⟩) ?_ ?_
         rotate_left
         ·intro w'
          go_simp
          with_reducible rfl
         rotate_left
         ·simp only [Act.put, List.setIfInBounds_toArray, List.set_cons_zero, List.set_cons_succ, i64_w, i32_w]
          rfl
         refine inv_at [2, 3, 6, 7, 8, 9, 10, 11] (fun a0_ b a w' => ∃ (gb320 : Nat) (gb321 : Nat) (m8_ : Value) (m9_ : Value), a = putSel a0_ b [(2, 23, .pointer (some (ad318.add ((x7_1).toNat * 6)))), (3, 24, .agg #[.int .i64 ((rd_T36 l0 x7_1).f0), .int .i64 ((rd_T36 l0 x7_1).f1), .string ((rd_T36 l0 x7_1).f2), .bool ((rd_T36 l0 x7_1).f3.f0), .int .i64 ((rd_T36 l0 x7_1).f3.f1), .int .i64 ((rd_T36 l0 x7_1).f4)]), (6, 27, .pointer (some (ad319.add ((x7_1).toNat * 6)))), (7, 28, .agg #[.int .i64 ((rd_T36 l1 x7_1).f0), .int .i64 ((rd_T36 l1 x7_1).f1), .string ((rd_T36 l1 x7_1).f2), .bool ((rd_T36 l1 x7_1).f3.f0), .int .i64 ((rd_T36 l1 x7_1).f3.f1), .int .i64 ((rd_T36 l1 x7_1).f4)]), (8, 8, m8_), (9, 9, m9_)] ∧ (Below w.heap.size w w') ∧ (b 8 = true → b 9 = true → gb321 ≠ gb320) ∧ (b 8 = true → b 9 = true → gb320 ≠ gb321) ∧ (b 8 = true → b 10 = false → w'.heap[gb320]? = some (.cells #[.int .i64 0, .int .i64 0, .string (⟨#[]⟩ : ByteArray), .bool false, .int .i64 0, .int .i64 0] 36 (0, 0))) ∧ (b 8 = true → w.heap.size ≤ gb320) ∧ (b 8 = true → w.heap.size ≤ gb320) ∧ (b 9 = true → b 11 = false → w'.heap[gb321]? = some (.cells #[.int .i64 0, .int .i64 0, .string (⟨#[]⟩ : ByteArray), .bool false, .int .i64 0, .int .i64 0] 36 (0, 0))) ∧ (b 9 = true → w.heap.size ≤ gb321) ∧ (b 9 = true → w.heap.size ≤ gb321) ∧ (b 10 = true → w'.heap[gb320]? = some (.cells #[.int .i64 ((rd_T36 l0 x7_1).f0), .int .i64 ((rd_T36 l0 x7_1).f1), .string ((rd_T36 l0 x7_1).f2), .bool ((rd_T36 l0 x7_1).f3.f0), .int .i64 ((rd_T36 l0 x7_1).f3.f1), .int .i64 ((rd_T36 l0 x7_1).f4)] 36 (0, 0))) ∧ (b 11 = true → w'.heap[gb321]? = some (.cells #[.int .i64 ((rd_T36 l1 x7_1).f0), .int .i64 ((rd_T36 l1 x7_1).f1), .string ((rd_T36 l1 x7_1).f2), .bool ((rd_T36 l1 x7_1).f3.f0), .int .i64 ((rd_T36 l1 x7_1).f3.f1), .int .i64 ((rd_T36 l1 x7_1).f4)] 36 (0, 0))) ∧ (b 8 = true → (m8_ : Value) = .pointer (some ⟨gb320, 0, none⟩)) ∧ (b 9 = true → (m9_ : Value) = .pointer (some ⟨gb321, 0, none⟩))) HT_.out HW_.out (by kernel_rfl) (by kernel_rfl) ?_ ?_ ?_
         ·exact ⟨0, 0, .bool false, .bool false, by simp only [putSel, Bool.false_eq_true, if_false], HB.out, fun h_ => absurd h_ (by decide), fun h_ => absurd h_ (by decide), fun h_ => absurd h_ (by decide), fun h_ => absurd h_ (by decide), fun h_ => absurd h_ (by decide), fun h_ => absurd h_ (by decide), fun h_ => absurd h_ (by decide), fun h_ => absurd h_ (by decide), fun h_ => absurd h_ (by decide), fun h_ => absurd h_ (by decide), fun h_ => absurd h_ (by decide), fun h_ => absurd h_ (by decide)⟩
         ·skip
          clear HB
          refine steps_cons ?_ ?_
          ·rintro b a w' ⟨gb320, gb321, m8_, m9_, ha, Q_HB, Q_NB321_320, Q_NB320_321, Q_BK320, Q_GW320, Q_GE320, Q_BK321, Q_GW321, Q_GE321, Q_BK320_e10, Q_BK321_e11, Q_X8_, Q_X9_⟩ hb_ hon hoff
           refine ⟨_, rfl, fun K hK => ?_⟩
           have e21 : a.tmps[21]? = some (.slice (some ad318) l0.length c0) := by rw [ha]; exact (putSel_off rfl).trans rfl
           have e22 : a.tmps[22]? = some (.int .i64 x7_1) := by rw [ha]; exact (putSel_off rfl).trans rfl
           replace ha := Aside0.mk ha
           have HB := Aside0.mk Q_HB
           have hs0_ : w'.cell? (ad318.add ((x7_1).toNat * 6)) = some (.int .i64 ((rd_T36 l0 x7_1).f0)) := ((HB.out.cell (World.block_lt_of_cell? w _ hw318_0)).trans hw318_0)
           have hs1_ : w'.cell? ⟨(ad318.add ((x7_1).toNat * 6)).block, (ad318.add ((x7_1).toNat * 6)).off + 1, none⟩ = some (.int .i64 ((rd_T36 l0 x7_1).f1)) := ((HB.out.cell (World.block_lt_of_cell? w _ hw318_1)).trans hw318_1)
           have hs2_ : w'.cell? ⟨(ad318.add ((x7_1).toNat * 6)).block, (ad318.add ((x7_1).toNat * 6)).off + 2, none⟩ = some (.string ((rd_T36 l0 x7_1).f2)) := ((HB.out.cell (World.block_lt_of_cell? w _ hw318_2)).trans hw318_2)
           have hs3_ : w'.cell? ⟨(ad318.add ((x7_1).toNat * 6)).block, (ad318.add ((x7_1).toNat * 6)).off + 3, none⟩ = some (.bool ((rd_T36 l0 x7_1).f3.f0)) := ((HB.out.cell (World.block_lt_of_cell? w _ hw318_3)).trans hw318_3)
           have hs4_ : w'.cell? ⟨(ad318.add ((x7_1).toNat * 6)).block, (ad318.add ((x7_1).toNat * 6)).off + 4, none⟩ = some (.int .i64 ((rd_T36 l0 x7_1).f3.f1)) := ((HB.out.cell (World.block_lt_of_cell? w _ hw318_4)).trans hw318_4)
           have hs5_ : w'.cell? ⟨(ad318.add ((x7_1).toNat * 6)).block, (ad318.add ((x7_1).toNat * 6)).off + 5, none⟩ = some (.int .i64 ((rd_T36 l0 x7_1).f4)) := ((HB.out.cell (World.block_lt_of_cell? w _ hw318_5)).trans hw318_5)
           refine value_ (w1 := w') (v := .pointer (some (ad318.add ((x7_1).toNat * 6)))) (by rfl) rfl ?_ ?_
           ·go_simp
            (try simp only [i64_w])
            try rfl
           refine hK.out _ _ ⟨gb320, gb321, m8_, m9_, (by rw [ha.out]; exact putSel_upk 0 hb_ rfl rfl rfl), Q_HB, Q_NB321_320, Q_NB320_321, Q_BK320, Q_GW320, Q_GE320, Q_BK321, Q_GW321, Q_GE321, fun h0_ => absurd ((hoff 10 (by kernel_rfl)).symm.trans h0_) (by decide), fun h0_ => absurd ((hoff 11 (by kernel_rfl)).symm.trans h0_) (by decide), Q_X8_, Q_X9_⟩
          refine steps_cons ?_ ?_
          ·rintro b a w' ⟨gb320, gb321, m8_, m9_, ha, Q_HB, Q_NB321_320, Q_NB320_321, Q_BK320, Q_GW320, Q_GE320, Q_BK321, Q_GW321, Q_GE321, Q_BK320_e10, Q_BK321_e11, Q_X8_, Q_X9_⟩ hb_ hon hoff
           refine ⟨_, rfl, fun K hK => ?_⟩
           have e23 : a.tmps[23]? = some (.pointer (some (ad318.add ((x7_1).toNat * 6)))) := by rw [ha]; exact putSel_on (e := (2, 23, .pointer (some (ad318.add ((x7_1).toNat * 6))))) 0 rfl rfl (hon 2 (by kernel_rfl)) rfl
           replace ha := Aside0.mk ha
           have HB := Aside0.mk Q_HB
           have hs0_ : w'.cell? (ad318.add ((x7_1).toNat * 6)) = some (.int .i64 ((rd_T36 l0 x7_1).f0)) := ((HB.out.cell (World.block_lt_of_cell? w _ hw318_0)).trans hw318_0)
           have hs1_ : w'.cell? ⟨(ad318.add ((x7_1).toNat * 6)).block, (ad318.add ((x7_1).toNat * 6)).off + 1, none⟩ = some (.int .i64 ((rd_T36 l0 x7_1).f1)) := ((HB.out.cell (World.block_lt_of_cell? w _ hw318_1)).trans hw318_1)
           have hs2_ : w'.cell? ⟨(ad318.add ((x7_1).toNat * 6)).block, (ad318.add ((x7_1).toNat * 6)).off + 2, none⟩ = some (.string ((rd_T36 l0 x7_1).f2)) := ((HB.out.cell (World.block_lt_of_cell? w _ hw318_2)).trans hw318_2)
           have hs3_ : w'.cell? ⟨(ad318.add ((x7_1).toNat * 6)).block, (ad318.add ((x7_1).toNat * 6)).off + 3, none⟩ = some (.bool ((rd_T36 l0 x7_1).f3.f0)) := ((HB.out.cell (World.block_lt_of_cell? w _ hw318_3)).trans hw318_3)
           have hs4_ : w'.cell? ⟨(ad318.add ((x7_1).toNat * 6)).block, (ad318.add ((x7_1).toNat * 6)).off + 4, none⟩ = some (.int .i64 ((rd_T36 l0 x7_1).f3.f1)) := ((HB.out.cell (World.block_lt_of_cell? w _ hw318_4)).trans hw318_4)
           have hs5_ : w'.cell? ⟨(ad318.add ((x7_1).toNat * 6)).block, (ad318.add ((x7_1).toNat * 6)).off + 5, none⟩ = some (.int .i64 ((rd_T36 l0 x7_1).f4)) := ((HB.out.cell (World.block_lt_of_cell? w _ hw318_5)).trans hw318_5)
           refine value_ (w1 := w') (v := .agg #[.int .i64 ((rd_T36 l0 x7_1).f0), .int .i64 ((rd_T36 l0 x7_1).f1), .string ((rd_T36 l0 x7_1).f2), .bool ((rd_T36 l0 x7_1).f3.f0), .int .i64 ((rd_T36 l0 x7_1).f3.f1), .int .i64 ((rd_T36 l0 x7_1).f4)]) (by rfl) rfl ?_ ?_
           ·go_simp
            (try simp only [i64_w])
            try rfl
           refine hK.out _ _ ⟨gb320, gb321, m8_, m9_, (by rw [ha.out]; exact putSel_upk 1 hb_ rfl rfl rfl), Q_HB, Q_NB321_320, Q_NB320_321, Q_BK320, Q_GW320, Q_GE320, Q_BK321, Q_GW321, Q_GE321, fun h0_ => absurd ((hoff 10 (by kernel_rfl)).symm.trans h0_) (by decide), fun h0_ => absurd ((hoff 11 (by kernel_rfl)).symm.trans h0_) (by decide), Q_X8_, Q_X9_⟩
          refine steps_cons ?_ ?_
          ·rintro b a w' ⟨gb320, gb321, m8_, m9_, ha, Q_HB, Q_NB321_320, Q_NB320_321, Q_BK320, Q_GW320, Q_GE320, Q_BK321, Q_GW321, Q_GE321, Q_BK320_e10, Q_BK321_e11, Q_X8_, Q_X9_⟩ hb_ hon hoff
           refine ⟨_, rfl, fun K hK => ?_⟩
           have e25 : a.tmps[25]? = some (.slice (some ad319) l1.length c1) := by rw [ha]; exact (putSel_off rfl).trans rfl
           have e26 : a.tmps[26]? = some (.int .i64 x7_1) := by rw [ha]; exact (putSel_off rfl).trans rfl
           replace ha := Aside0.mk ha
           have HB := Aside0.mk Q_HB
           have hs6_ : w'.cell? (ad319.add ((x7_1).toNat * 6)) = some (.int .i64 ((rd_T36 l1 x7_1).f0)) := ((HB.out.cell (World.block_lt_of_cell? w _ hw319_0)).trans hw319_0)
           have hs7_ : w'.cell? ⟨(ad319.add ((x7_1).toNat * 6)).block, (ad319.add ((x7_1).toNat * 6)).off + 1, none⟩ = some (.int .i64 ((rd_T36 l1 x7_1).f1)) := ((HB.out.cell (World.block_lt_of_cell? w _ hw319_1)).trans hw319_1)
           have hs8_ : w'.cell? ⟨(ad319.add ((x7_1).toNat * 6)).block, (ad319.add ((x7_1).toNat * 6)).off + 2, none⟩ = some (.string ((rd_T36 l1 x7_1).f2)) := ((HB.out.cell (World.block_lt_of_cell? w _ hw319_2)).trans hw319_2)
           have hs9_ : w'.cell? ⟨(ad319.add ((x7_1).toNat * 6)).block, (ad319.add ((x7_1).toNat * 6)).off + 3, none⟩ = some (.bool ((rd_T36 l1 x7_1).f3.f0)) := ((HB.out.cell (World.block_lt_of_cell? w _ hw319_3)).trans hw319_3)
           have hs10_ : w'.cell? ⟨(ad319.add ((x7_1).toNat * 6)).block, (ad319.add ((x7_1).toNat * 6)).off + 4, none⟩ = some (.int .i64 ((rd_T36 l1 x7_1).f3.f1)) := ((HB.out.cell (World.block_lt_of_cell? w _ hw319_4)).trans hw319_4)
           have hs11_ : w'.cell? ⟨(ad319.add ((x7_1).toNat * 6)).block, (ad319.add ((x7_1).toNat * 6)).off + 5, none⟩ = some (.int .i64 ((rd_T36 l1 x7_1).f4)) := ((HB.out.cell (World.block_lt_of_cell? w _ hw319_5)).trans hw319_5)
           refine value_ (w1 := w') (v := .pointer (some (ad319.add ((x7_1).toNat * 6)))) (by rfl) rfl ?_ ?_
           ·go_simp
            (try simp only [i64_w])
            try rfl
           refine hK.out _ _ ⟨gb320, gb321, m8_, m9_, (by rw [ha.out]; exact putSel_upk 2 hb_ rfl rfl rfl), Q_HB, Q_NB321_320, Q_NB320_321, Q_BK320, Q_GW320, Q_GE320, Q_BK321, Q_GW321, Q_GE321, Q_BK320_e10, fun h0_ => absurd ((hoff 11 (by kernel_rfl)).symm.trans h0_) (by decide), Q_X8_, Q_X9_⟩
          refine steps_cons ?_ ?_
          ·rintro b a w' ⟨gb320, gb321, m8_, m9_, ha, Q_HB, Q_NB321_320, Q_NB320_321, Q_BK320, Q_GW320, Q_GE320, Q_BK321, Q_GW321, Q_GE321, Q_BK320_e10, Q_BK321_e11, Q_X8_, Q_X9_⟩ hb_ hon hoff
           refine ⟨_, rfl, fun K hK => ?_⟩
           have e27 : a.tmps[27]? = some (.pointer (some (ad319.add ((x7_1).toNat * 6)))) := by rw [ha]; exact putSel_on (e := (6, 27, .pointer (some (ad319.add ((x7_1).toNat * 6))))) 2 rfl rfl (hon 6 (by kernel_rfl)) rfl
           replace ha := Aside0.mk ha
           have HB := Aside0.mk Q_HB
           have hs6_ : w'.cell? (ad319.add ((x7_1).toNat * 6)) = some (.int .i64 ((rd_T36 l1 x7_1).f0)) := ((HB.out.cell (World.block_lt_of_cell? w _ hw319_0)).trans hw319_0)
           have hs7_ : w'.cell? ⟨(ad319.add ((x7_1).toNat * 6)).block, (ad319.add ((x7_1).toNat * 6)).off + 1, none⟩ = some (.int .i64 ((rd_T36 l1 x7_1).f1)) := ((HB.out.cell (World.block_lt_of_cell? w _ hw319_1)).trans hw319_1)
           have hs8_ : w'.cell? ⟨(ad319.add ((x7_1).toNat * 6)).block, (ad319.add ((x7_1).toNat * 6)).off + 2, none⟩ = some (.string ((rd_T36 l1 x7_1).f2)) := ((HB.out.cell (World.block_lt_of_cell? w _ hw319_2)).trans hw319_2)
           have hs9_ : w'.cell? ⟨(ad319.add ((x7_1).toNat * 6)).block, (ad319.add ((x7_1).toNat * 6)).off + 3, none⟩ = some (.bool ((rd_T36 l1 x7_1).f3.f0)) := ((HB.out.cell (World.block_lt_of_cell? w _ hw319_3)).trans hw319_3)
           have hs10_ : w'.cell? ⟨(ad319.add ((x7_1).toNat * 6)).block, (ad319.add ((x7_1).toNat * 6)).off + 4, none⟩ = some (.int .i64 ((rd_T36 l1 x7_1).f3.f1)) := ((HB.out.cell (World.block_lt_of_cell? w _ hw319_4)).trans hw319_4)
           have hs11_ : w'.cell? ⟨(ad319.add ((x7_1).toNat * 6)).block, (ad319.add ((x7_1).toNat * 6)).off + 5, none⟩ = some (.int .i64 ((rd_T36 l1 x7_1).f4)) := ((HB.out.cell (World.block_lt_of_cell? w _ hw319_5)).trans hw319_5)
           refine value_ (w1 := w') (v := .agg #[.int .i64 ((rd_T36 l1 x7_1).f0), .int .i64 ((rd_T36 l1 x7_1).f1), .string ((rd_T36 l1 x7_1).f2), .bool ((rd_T36 l1 x7_1).f3.f0), .int .i64 ((rd_T36 l1 x7_1).f3.f1), .int .i64 ((rd_T36 l1 x7_1).f4)]) (by rfl) rfl ?_ ?_
           ·go_simp
            (try simp only [i64_w])
            try rfl
           refine hK.out _ _ ⟨gb320, gb321, m8_, m9_, (by rw [ha.out]; exact putSel_upk 3 hb_ rfl rfl rfl), Q_HB, Q_NB321_320, Q_NB320_321, Q_BK320, Q_GW320, Q_GE320, Q_BK321, Q_GW321, Q_GE321, Q_BK320_e10, fun h0_ => absurd ((hoff 11 (by kernel_rfl)).symm.trans h0_) (by decide), Q_X8_, Q_X9_⟩
          refine steps_cons ?_ ?_
          ·rintro b a w' ⟨gb320, gb321, m8_, m9_, ha, Q_HB, Q_NB321_320, Q_NB320_321, Q_BK320, Q_GW320, Q_GE320, Q_BK321, Q_GW321, Q_GE321, Q_BK320_e10, Q_BK321_e11, Q_X8_, Q_X9_⟩ hb_ hon hoff
           refine ⟨_, rfl, fun K hK => ?_⟩
           replace ha := Aside0.mk ha
           have HB := Aside0.mk Q_HB
           refine box_step ?hg (N := 8) ?hd (cs := #[.int .i64 0, .int .i64 0, .string (⟨#[]⟩ : ByteArray), .bool false, .int .i64 0, .int .i64 0]) (t := 36) ?hr ?_; (case hd => rfl); (case hg => rfl); (case hr => first | (go_simp; done) | (go_simp; rfl))
           intro gb320 hg w31 hbox hb
           have n0_ := Aside0.mk (below_step (by repeat (first | (with_reducible first | exact HB.out | apply below_alloc | apply pw_below_drewN | apply below_drew1) | exact HB.out)) hb)
           have n1_ := Aside0.mk (hbox)
           have n2_ := Aside0.mk ((by rw [hg]; exact (below_size (by repeat (first | (with_reducible first | exact HB.out | apply below_alloc | apply pw_below_drewN | apply below_drew1) | exact HB.out))) : w.heap.size ≤ gb320))
           have n3_ := Aside0.mk ((by rw [hg]; exact (below_size (by repeat (first | (with_reducible first | exact HB.out | apply below_alloc | apply pw_below_drewN | apply below_drew1) | exact HB.out))) : w.heap.size ≤ gb320))
           have z_NB321_320 := fun (h0_ : up b 8 8 = true) (h1_ : up b 8 9 = true) => (show gb321 ≠ gb320 from ((by rw [hg]; cases h9_ : b 11 with | false => exact Nat.ne_of_lt (blk_lt (Q_BK321 h1_ h9_)) | true => exact Nat.ne_of_lt (blk_lt (Q_BK321_e11 h9_)) : gb321 ≠ gb320)))
           have z_NB320_321 := fun (h0_ : up b 8 8 = true) (h1_ : up b 8 9 = true) => (show gb320 ≠ gb321 from ((by rw [hg]; cases h9_ : b 11 with | false => exact Nat.ne_of_gt (blk_lt (Q_BK321 h1_ h9_)) | true => exact Nat.ne_of_gt (blk_lt (Q_BK321_e11 h9_)) : gb320 ≠ gb321)))
           have z_BK321 := fun (h0_ : b 9 = true) (h1_ : b 11 = false) => (show w31.heap[gb321]? = some (.cells #[.int .i64 0, .int .i64 0, .string (⟨#[]⟩ : ByteArray), .bool false, .int .i64 0, .int .i64 0] 36 (0, 0)) from by first | exact (blk_below (g := gb321) (o := .cells #[.int .i64 0, .int .i64 0, .string (⟨#[]⟩ : ByteArray), .bool false, .int .i64 0, .int .i64 0] 36 (0, 0)) (by (with_reducible repeat (first | refine blk_drewN ?_ _ | refine blk_drew ?_ | refine blk_alloc ?_ _)); exact (Q_BK321 h0_ h1_)) hb))
           clear HB
           have HB := n0_
           have BK320 := n1_
           have GW320 := n2_
           have GE320 := n3_
           clear n0_ n1_ n2_ n3_
           clear hb hbox hg
           refine hK.out _ _ ⟨gb320, gb321, (.pointer (some ⟨gb320, 0, none⟩)), m9_, (by rw [ha.out]; exact putSel_upk 4 hb_ rfl rfl rfl), (by repeat (first | (with_reducible first | exact HB.out | apply below_alloc | apply pw_below_drewN | apply below_drew1 | refine below_set ?_ GE320.out) | exact HB.out)), @z_NB321_320, @z_NB320_321, fun _ _ => (by (with_reducible repeat (first | refine blk_drewN ?_ _ | refine blk_drew ?_ | refine blk_alloc ?_ _)); exact BK320.out), fun _ => GW320.out, fun _ => GE320.out, z_BK321, Q_GW321, Q_GE321, fun h0_ => absurd ((hoff 10 (by kernel_rfl)).symm.trans h0_) (by decide), fun h0_ => absurd ((hoff 11 (by kernel_rfl)).symm.trans h0_) (by decide), fun _ => rfl, Q_X9_⟩
          refine steps_cons ?_ ?_
          ·rintro b a w' ⟨gb320, gb321, m8_, m9_, ha, Q_HB, Q_NB321_320, Q_NB320_321, Q_BK320, Q_GW320, Q_GE320, Q_BK321, Q_GW321, Q_GE321, Q_BK320_e10, Q_BK321_e11, Q_X8_, Q_X9_⟩ hb_ hon hoff
           refine ⟨_, rfl, fun K hK => ?_⟩
           replace ha := Aside0.mk ha
           have HB := Aside0.mk Q_HB
           refine box_step ?hg (N := 9) ?hd (cs := #[.int .i64 0, .int .i64 0, .string (⟨#[]⟩ : ByteArray), .bool false, .int .i64 0, .int .i64 0]) (t := 36) ?hr ?_; (case hd => rfl); (case hg => rfl); (case hr => first | (go_simp; done) | (go_simp; rfl))
           intro gb321 hg w31 hbox hb
           have n0_ := Aside0.mk (below_step (by repeat (first | (with_reducible first | exact HB.out | apply below_alloc | apply pw_below_drewN | apply below_drew1) | exact HB.out)) hb)
           have n1_ := Aside0.mk (hbox)
           have n2_ := Aside0.mk ((by rw [hg]; exact (below_size (by repeat (first | (with_reducible first | exact HB.out | apply below_alloc | apply pw_below_drewN | apply below_drew1) | exact HB.out))) : w.heap.size ≤ gb321))
           have n3_ := Aside0.mk ((by rw [hg]; exact (below_size (by repeat (first | (with_reducible first | exact HB.out | apply below_alloc | apply pw_below_drewN | apply below_drew1) | exact HB.out))) : w.heap.size ≤ gb321))
           have z_NB321_320 := fun (h0_ : up b 9 8 = true) (h1_ : up b 9 9 = true) => (show gb321 ≠ gb320 from ((by rw [hg]; cases h9_ : b 10 with | false => exact Nat.ne_of_gt (blk_lt (Q_BK320 h0_ h9_)) | true => exact Nat.ne_of_gt (blk_lt (Q_BK320_e10 h9_)) : gb321 ≠ gb320)))
           have z_NB320_321 := fun (h0_ : up b 9 8 = true) (h1_ : up b 9 9 = true) => (show gb320 ≠ gb321 from ((by rw [hg]; cases h9_ : b 10 with | false => exact Nat.ne_of_lt (blk_lt (Q_BK320 h0_ h9_)) | true => exact Nat.ne_of_lt (blk_lt (Q_BK320_e10 h9_)) : gb320 ≠ gb321)))
           have z_BK320 := fun (h0_ : b 8 = true) (h1_ : b 10 = false) => (show w31.heap[gb320]? = some (.cells #[.int .i64 0, .int .i64 0, .string (⟨#[]⟩ : ByteArray), .bool false, .int .i64 0, .int .i64 0] 36 (0, 0)) from by first | exact (blk_below (g := gb320) (o := .cells #[.int .i64 0, .int .i64 0, .string (⟨#[]⟩ : ByteArray), .bool false, .int .i64 0, .int .i64 0] 36 (0, 0)) (by (with_reducible repeat (first | refine blk_drewN ?_ _ | refine blk_drew ?_ | refine blk_alloc ?_ _)); exact (Q_BK320 h0_ h1_)) hb))
           clear HB
           have HB := n0_
           have BK321 := n1_
           have GW321 := n2_
           have GE321 := n3_
           clear n0_ n1_ n2_ n3_
           clear hb hbox hg
           refine hK.out _ _ ⟨gb320, gb321, m8_, (.pointer (some ⟨gb321, 0, none⟩)), (by rw [ha.out]; exact putSel_upk 5 hb_ rfl rfl rfl), (by repeat (first | (with_reducible first | exact HB.out | apply below_alloc | apply pw_below_drewN | apply below_drew1 | refine below_set ?_ GE321.out) | exact HB.out)), @z_NB321_320, @z_NB320_321, z_BK320, Q_GW320, Q_GE320, fun _ _ => (by (with_reducible repeat (first | refine blk_drewN ?_ _ | refine blk_drew ?_ | refine blk_alloc ?_ _)); exact BK321.out), fun _ => GW321.out, fun _ => GE321.out, fun h0_ => absurd ((hoff 10 (by kernel_rfl)).symm.trans h0_) (by decide), fun h0_ => absurd ((hoff 11 (by kernel_rfl)).symm.trans h0_) (by decide), Q_X8_, fun _ => rfl⟩
          refine steps_cons ?_ ?_
          ·rintro b a w' ⟨gb320, gb321, m8_, m9_, ha, Q_HB, Q_NB321_320, Q_NB320_321, Q_BK320, Q_GW320, Q_GE320, Q_BK321, Q_GW321, Q_GE321, Q_BK320_e10, Q_BK321_e11, Q_X8_, Q_X9_⟩ hb_ hon hoff
           refine ⟨_, rfl, fun K hK => ?_⟩
           have e8 : a.tmps[8]? = some (m8_) := by rw [ha]; exact putSel_on (e := (8, 8, m8_)) 4 rfl rfl (hon 8 (by kernel_rfl)) rfl
           rw [Q_X8_ (hon 8 (by kernel_rfl))] at e8
           have e24 : a.tmps[24]? = some (.agg #[.int .i64 ((rd_T36 l0 x7_1).f0), .int .i64 ((rd_T36 l0 x7_1).f1), .string ((rd_T36 l0 x7_1).f2), .bool ((rd_T36 l0 x7_1).f3.f0), .int .i64 ((rd_T36 l0 x7_1).f3.f1), .int .i64 ((rd_T36 l0 x7_1).f4)]) := by rw [ha]; exact putSel_on (e := (3, 24, .agg #[.int .i64 ((rd_T36 l0 x7_1).f0), .int .i64 ((rd_T36 l0 x7_1).f1), .string ((rd_T36 l0 x7_1).f2), .bool ((rd_T36 l0 x7_1).f3.f0), .int .i64 ((rd_T36 l0 x7_1).f3.f1), .int .i64 ((rd_T36 l0 x7_1).f4)])) 1 rfl rfl (hon 3 (by kernel_rfl)) rfl
           replace ha := Aside0.mk ha
           have HB := Aside0.mk Q_HB
           have NB321_320 := Aside0.mk (Q_NB321_320 (hon 8 (by kernel_rfl)) (hon 9 (by kernel_rfl)))
           have NB320_321 := Aside0.mk (Q_NB320_321 (hon 8 (by kernel_rfl)) (hon 9 (by kernel_rfl)))
           have BK320 := Aside0.mk (Q_BK320 (hon 8 (by kernel_rfl)) hb_)
           have GW320 := Aside0.mk (Q_GW320 (hon 8 (by kernel_rfl)))
           have GE320 := Aside0.mk (Q_GE320 (hon 8 (by kernel_rfl)))
           have BK321 := Aside0.mk (Q_BK321 (hon 9 (by kernel_rfl)) (hoff 11 (by kernel_rfl)))
           have GW321 := Aside0.mk (Q_GW321 (hon 9 (by kernel_rfl)))
           have GE321 := Aside0.mk (Q_GE321 (hon 9 (by kernel_rfl)))
           have hs34 : w'.cell? ⟨gb320, 0, none⟩ = some (.int .i64 0) := (blk_cell BK320.out 0).trans rfl
           have hfs34 := blk_frozen BK320.out 0
           have hns34_1 := NB321_320.out
           have hms34_1 := NB320_321.out
           have hs35 : w'.cell? ⟨gb320, 1, none⟩ = some (.int .i64 0) := (blk_cell BK320.out 1).trans rfl
           have hfs35 := blk_frozen BK320.out 1
           have hns35_1 := NB321_320.out
           have hms35_1 := NB320_321.out
           have hs36 : w'.cell? ⟨gb320, 2, none⟩ = some (.string (⟨#[]⟩ : ByteArray)) := (blk_cell BK320.out 2).trans rfl
           have hfs36 := blk_frozen BK320.out 2
           have hns36_1 := NB321_320.out
           have hms36_1 := NB320_321.out
           have hs37 : w'.cell? ⟨gb320, 3, none⟩ = some (.bool false) := (blk_cell BK320.out 3).trans rfl
           have hfs37 := blk_frozen BK320.out 3
           have hns37_1 := NB321_320.out
           have hms37_1 := NB320_321.out
           have hs38 : w'.cell? ⟨gb320, 4, none⟩ = some (.int .i64 0) := (blk_cell BK320.out 4).trans rfl
           have hfs38 := blk_frozen BK320.out 4
           have hns38_1 := NB321_320.out
           have hms38_1 := NB320_321.out
           have hs39 : w'.cell? ⟨gb320, 5, none⟩ = some (.int .i64 0) := (blk_cell BK320.out 5).trans rfl
           have hfs39 := blk_frozen BK320.out 5
           have hns39_1 := NB321_320.out
           have hms39_1 := NB320_321.out
           refine skip_ (w1 := ?_) (by rfl) rfl ?_ ?_
           rotate_left
           ·go_simp
            rfl
           refine hK.out _ _ ⟨gb320, gb321, m8_, m9_, (by rw [ha.out]; exact putSel_none (v := undef) rfl), (by repeat (first | (with_reducible first | exact HB.out | apply below_alloc | apply pw_below_drewN | apply below_drew1 | refine below_set ?_ GE320.out | refine below_set ?_ GE321.out) | exact HB.out)), fun _ _ => NB321_320.out, fun _ _ => NB320_321.out, fun _ h1_ => absurd ((up_self b 10).symm.trans h1_) (by decide), fun _ => GW320.out, fun _ => GE320.out, fun _ _ => (by (with_reducible repeat (first | refine blk_drewN ?_ _ | refine blk_drew ?_ | refine blk_alloc ?_ _)); refine blk_far ?_ NB321_320.out _; (with_reducible repeat (first | refine blk_drewN ?_ _ | refine blk_drew ?_ | refine blk_alloc ?_ _)); refine blk_far ?_ NB321_320.out _; (with_reducible repeat (first | refine blk_drewN ?_ _ | refine blk_drew ?_ | refine blk_alloc ?_ _)); refine blk_far ?_ NB321_320.out _; (with_reducible repeat (first | refine blk_drewN ?_ _ | refine blk_drew ?_ | refine blk_alloc ?_ _)); refine blk_far ?_ NB321_320.out _; (with_reducible repeat (first | refine blk_drewN ?_ _ | refine blk_drew ?_ | refine blk_alloc ?_ _)); refine blk_far ?_ NB321_320.out _; (with_reducible repeat (first | refine blk_drewN ?_ _ | refine blk_drew ?_ | refine blk_alloc ?_ _)); refine blk_far ?_ NB321_320.out _; (with_reducible repeat (first | refine blk_drewN ?_ _ | refine blk_drew ?_ | refine blk_alloc ?_ _)); exact BK321.out), fun _ => GW321.out, fun _ => GE321.out, fun _ => (by (with_reducible repeat (first | refine blk_drewN ?_ _ | refine blk_drew ?_ | refine blk_alloc ?_ _)); refine blk_put (cs := #[.int .i64 ((rd_T36 l0 x7_1).f0), .int .i64 ((rd_T36 l0 x7_1).f1), .string ((rd_T36 l0 x7_1).f2), .bool ((rd_T36 l0 x7_1).f3.f0), .int .i64 ((rd_T36 l0 x7_1).f3.f1), .int .i64 0]) ?_ 5 _ rfl; (with_reducible repeat (first | refine blk_drewN ?_ _ | refine blk_drew ?_ | refine blk_alloc ?_ _)); refine blk_put (cs := #[.int .i64 ((rd_T36 l0 x7_1).f0), .int .i64 ((rd_T36 l0 x7_1).f1), .string ((rd_T36 l0 x7_1).f2), .bool ((rd_T36 l0 x7_1).f3.f0), .int .i64 0, .int .i64 0]) ?_ 4 _ rfl; (with_reducible repeat (first | refine blk_drewN ?_ _ | refine blk_drew ?_ | refine blk_alloc ?_ _)); refine blk_put (cs := #[.int .i64 ((rd_T36 l0 x7_1).f0), .int .i64 ((rd_T36 l0 x7_1).f1), .string ((rd_T36 l0 x7_1).f2), .bool false, .int .i64 0, .int .i64 0]) ?_ 3 _ rfl; (with_reducible repeat (first | refine blk_drewN ?_ _ | refine blk_drew ?_ | refine blk_alloc ?_ _)); refine blk_put (cs := #[.int .i64 ((rd_T36 l0 x7_1).f0), .int .i64 ((rd_T36 l0 x7_1).f1), .string (⟨#[]⟩ : ByteArray), .bool false, .int .i64 0, .int .i64 0]) ?_ 2 _ rfl; (with_reducible repeat (first | refine blk_drewN ?_ _ | refine blk_drew ?_ | refine blk_alloc ?_ _)); refine blk_put (cs := #[.int .i64 ((rd_T36 l0 x7_1).f0), .int .i64 0, .string (⟨#[]⟩ : ByteArray), .bool false, .int .i64 0, .int .i64 0]) ?_ 1 _ rfl; (with_reducible repeat (first | refine blk_drewN ?_ _ | refine blk_drew ?_ | refine blk_alloc ?_ _)); refine blk_put (cs := #[.int .i64 0, .int .i64 0, .string (⟨#[]⟩ : ByteArray), .bool false, .int .i64 0, .int .i64 0]) ?_ 0 _ rfl; (with_reducible repeat (first | refine blk_drewN ?_ _ | refine blk_drew ?_ | refine blk_alloc ?_ _)); exact BK320.out), fun h0_ => absurd ((hoff 11 (by kernel_rfl)).symm.trans h0_) (by decide), Q_X8_, Q_X9_⟩
          refine steps_cons ?_ ?_
          ·rintro b a w' ⟨gb320, gb321, m8_, m9_, ha, Q_HB, Q_NB321_320, Q_NB320_321, Q_BK320, Q_GW320, Q_GE320, Q_BK321, Q_GW321, Q_GE321, Q_BK320_e10, Q_BK321_e11, Q_X8_, Q_X9_⟩ hb_ hon hoff
           refine ⟨_, rfl, fun K hK => ?_⟩
           have e9 : a.tmps[9]? = some (m9_) := by rw [ha]; exact putSel_on (e := (9, 9, m9_)) 5 rfl rfl (hon 9 (by kernel_rfl)) rfl
           rw [Q_X9_ (hon 9 (by kernel_rfl))] at e9
           have e28 : a.tmps[28]? = some (.agg #[.int .i64 ((rd_T36 l1 x7_1).f0), .int .i64 ((rd_T36 l1 x7_1).f1), .string ((rd_T36 l1 x7_1).f2), .bool ((rd_T36 l1 x7_1).f3.f0), .int .i64 ((rd_T36 l1 x7_1).f3.f1), .int .i64 ((rd_T36 l1 x7_1).f4)]) := by rw [ha]; exact putSel_on (e := (7, 28, .agg #[.int .i64 ((rd_T36 l1 x7_1).f0), .int .i64 ((rd_T36 l1 x7_1).f1), .string ((rd_T36 l1 x7_1).f2), .bool ((rd_T36 l1 x7_1).f3.f0), .int .i64 ((rd_T36 l1 x7_1).f3.f1), .int .i64 ((rd_T36 l1 x7_1).f4)])) 3 rfl rfl (hon 7 (by kernel_rfl)) rfl
           replace ha := Aside0.mk ha
           have HB := Aside0.mk Q_HB
           have NB321_320 := Aside0.mk (Q_NB321_320 (hon 8 (by kernel_rfl)) (hon 9 (by kernel_rfl)))
           have NB320_321 := Aside0.mk (Q_NB320_321 (hon 8 (by kernel_rfl)) (hon 9 (by kernel_rfl)))
           have GW320 := Aside0.mk (Q_GW320 (hon 8 (by kernel_rfl)))
           have GE320 := Aside0.mk (Q_GE320 (hon 8 (by kernel_rfl)))
           have BK321 := Aside0.mk (Q_BK321 (hon 9 (by kernel_rfl)) hb_)
           have GW321 := Aside0.mk (Q_GW321 (hon 9 (by kernel_rfl)))
           have GE321 := Aside0.mk (Q_GE321 (hon 9 (by kernel_rfl)))
           have BK320 := Aside0.mk (Q_BK320_e10 (hon 10 (by kernel_rfl)))
           have hs40 : w'.cell? ⟨gb321, 0, none⟩ = some (.int .i64 0) := (blk_cell BK321.out 0).trans rfl
           have hfs40 := blk_frozen BK321.out 0
           have hns40_0 := NB320_321.out
           have hms40_0 := NB321_320.out
           have hs41 : w'.cell? ⟨gb321, 1, none⟩ = some (.int .i64 0) := (blk_cell BK321.out 1).trans rfl
           have hfs41 := blk_frozen BK321.out 1
           have hns41_0 := NB320_321.out
           have hms41_0 := NB321_320.out
           have hs42 : w'.cell? ⟨gb321, 2, none⟩ = some (.string (⟨#[]⟩ : ByteArray)) := (blk_cell BK321.out 2).trans rfl
           have hfs42 := blk_frozen BK321.out 2
           have hns42_0 := NB320_321.out
           have hms42_0 := NB321_320.out
           have hs43 : w'.cell? ⟨gb321, 3, none⟩ = some (.bool false) := (blk_cell BK321.out 3).trans rfl
           have hfs43 := blk_frozen BK321.out 3
           have hns43_0 := NB320_321.out
           have hms43_0 := NB321_320.out
           have hs44 : w'.cell? ⟨gb321, 4, none⟩ = some (.int .i64 0) := (blk_cell BK321.out 4).trans rfl
           have hfs44 := blk_frozen BK321.out 4
           have hns44_0 := NB320_321.out
           have hms44_0 := NB321_320.out
           have hs45 : w'.cell? ⟨gb321, 5, none⟩ = some (.int .i64 0) := (blk_cell BK321.out 5).trans rfl
           have hfs45 := blk_frozen BK321.out 5
           have hns45_0 := NB320_321.out
           have hms45_0 := NB321_320.out
           refine skip_ (w1 := ?_) (by rfl) rfl ?_ ?_
           rotate_left
           ·go_simp
            rfl
           refine hK.out _ _ ⟨gb320, gb321, m8_, m9_, (by rw [ha.out]; exact putSel_none (v := undef) rfl), (by repeat (first | (with_reducible first | exact HB.out | apply below_alloc | apply pw_below_drewN | apply below_drew1 | refine below_set ?_ GE320.out | refine below_set ?_ GE321.out) | exact HB.out)), fun _ _ => NB321_320.out, fun _ _ => NB320_321.out, fun _ h1_ => absurd ((hon 10 (by kernel_rfl)).symm.trans h1_) (by decide), fun _ => GW320.out, fun _ => GE320.out, fun _ h1_ => absurd ((up_self b 11).symm.trans h1_) (by decide), fun _ => GW321.out, fun _ => GE321.out, fun _ => (by (with_reducible repeat (first | refine blk_drewN ?_ _ | refine blk_drew ?_ | refine blk_alloc ?_ _)); refine blk_far ?_ NB320_321.out _; (with_reducible repeat (first | refine blk_drewN ?_ _ | refine blk_drew ?_ | refine blk_alloc ?_ _)); refine blk_far ?_ NB320_321.out _; (with_reducible repeat (first | refine blk_drewN ?_ _ | refine blk_drew ?_ | refine blk_alloc ?_ _)); refine blk_far ?_ NB320_321.out _; (with_reducible repeat (first | refine blk_drewN ?_ _ | refine blk_drew ?_ | refine blk_alloc ?_ _)); refine blk_far ?_ NB320_321.out _; (with_reducible repeat (first | refine blk_drewN ?_ _ | refine blk_drew ?_ | refine blk_alloc ?_ _)); refine blk_far ?_ NB320_321.out _; (with_reducible repeat (first | refine blk_drewN ?_ _ | refine blk_drew ?_ | refine blk_alloc ?_ _)); refine blk_far ?_ NB320_321.out _; (with_reducible repeat (first | refine blk_drewN ?_ _ | refine blk_drew ?_ | refine blk_alloc ?_ _)); exact BK320.out), fun _ => (by (with_reducible repeat (first | refine blk_drewN ?_ _ | refine blk_drew ?_ | refine blk_alloc ?_ _)); refine blk_put (cs := #[.int .i64 ((rd_T36 l1 x7_1).f0), .int .i64 ((rd_T36 l1 x7_1).f1), .string ((rd_T36 l1 x7_1).f2), .bool ((rd_T36 l1 x7_1).f3.f0), .int .i64 ((rd_T36 l1 x7_1).f3.f1), .int .i64 0]) ?_ 5 _ rfl; (with_reducible repeat (first | refine blk_drewN ?_ _ | refine blk_drew ?_ | refine blk_alloc ?_ _)); refine blk_put (cs := #[.int .i64 ((rd_T36 l1 x7_1).f0), .int .i64 ((rd_T36 l1 x7_1).f1), .string ((rd_T36 l1 x7_1).f2), .bool ((rd_T36 l1 x7_1).f3.f0), .int .i64 0, .int .i64 0]) ?_ 4 _ rfl; (with_reducible repeat (first | refine blk_drewN ?_ _ | refine blk_drew ?_ | refine blk_alloc ?_ _)); refine blk_put (cs := #[.int .i64 ((rd_T36 l1 x7_1).f0), .int .i64 ((rd_T36 l1 x7_1).f1), .string ((rd_T36 l1 x7_1).f2), .bool false, .int .i64 0, .int .i64 0]) ?_ 3 _ rfl; (with_reducible repeat (first | refine blk_drewN ?_ _ | refine blk_drew ?_ | refine blk_alloc ?_ _)); refine blk_put (cs := #[.int .i64 ((rd_T36 l1 x7_1).f0), .int .i64 ((rd_T36 l1 x7_1).f1), .string (⟨#[]⟩ : ByteArray), .bool false, .int .i64 0, .int .i64 0]) ?_ 2 _ rfl; (with_reducible repeat (first | refine blk_drewN ?_ _ | refine blk_drew ?_ | refine blk_alloc ?_ _)); refine blk_put (cs := #[.int .i64 ((rd_T36 l1 x7_1).f0), .int .i64 0, .string (⟨#[]⟩ : ByteArray), .bool false, .int .i64 0, .int .i64 0]) ?_ 1 _ rfl; (with_reducible repeat (first | refine blk_drewN ?_ _ | refine blk_drew ?_ | refine blk_alloc ?_ _)); refine blk_put (cs := #[.int .i64 0, .int .i64 0, .string (⟨#[]⟩ : ByteArray), .bool false, .int .i64 0, .int .i64 0]) ?_ 0 _ rfl; (with_reducible repeat (first | refine blk_drewN ?_ _ | refine blk_drew ?_ | refine blk_alloc ?_ _)); exact BK321.out), Q_X8_, Q_X9_⟩
          exact steps_nil
         rintro b a w45 hall ⟨gb320, gb321, m8_, m9_, ha, Q_HB, Q_NB321_320, Q_NB320_321, Q_BK320, Q_GW320, Q_GE320, Q_BK321, Q_GW321, Q_GE321, Q_BK320_e10, Q_BK321_e11, Q_X8_, Q_X9_⟩
         clear HB
         have hb2_ := hall 2 (by kernel_rfl)
         have hb3_ := hall 3 (by kernel_rfl)
         have hb6_ := hall 6 (by kernel_rfl)
         have hb7_ := hall 7 (by kernel_rfl)
         have hb8_ := hall 8 (by kernel_rfl)
         have hb9_ := hall 9 (by kernel_rfl)
         have hb10_ := hall 10 (by kernel_rfl)
         have hb11_ := hall 11 (by kernel_rfl)
         subst ha
         obtain rfl := Q_X8_ hb8_
         obtain rfl := Q_X9_ hb9_
         simp only [putSel, hb2_, hb3_, hb6_, hb7_, hb8_, hb9_, hb10_, hb11_, if_true, Act.put, List.setIfInBounds_toArray, List.set_cons_zero, List.set_cons_succ]
         have HB := Aside0.mk Q_HB
         clear Q_HB
         have NB321_320 := Aside0.mk (Q_NB321_320 hb8_ hb9_)
         clear Q_NB321_320
         have NB320_321 := Aside0.mk (Q_NB320_321 hb8_ hb9_)
         clear Q_NB320_321
         clear Q_BK320
         have GW320 := Aside0.mk (Q_GW320 hb8_)
         clear Q_GW320
         have GE320 := Aside0.mk (Q_GE320 hb8_)
         clear Q_GE320
         clear Q_BK321
         have GW321 := Aside0.mk (Q_GW321 hb9_)
         clear Q_GW321
         have GE321 := Aside0.mk (Q_GE321 hb9_)
         clear Q_GE321
         have BK320 := Aside0.mk (Q_BK320_e10 hb10_)
         clear Q_BK320_e10
         have BK321 := Aside0.mk (Q_BK321_e11 hb11_)
         clear Q_BK321_e11
         clear hall hb2_ hb3_ hb6_ hb7_ hb8_ hb9_ hb10_ hb11_
         have hnb46 := NB320_321.out
         have hnc46 := NB321_320.out
         have hcz47_0 : w45.cell? ⟨gb320, 0, none⟩ = some (.int .i64 ((rd_T36 l0 x7_1).f0)) := (blk_cell BK320.out 0).trans rfl
         have hcz47_1 : w45.cell? ⟨gb320, 1, none⟩ = some (.int .i64 ((rd_T36 l0 x7_1).f1)) := (blk_cell BK320.out 1).trans rfl
         have hcz47_2 : w45.cell? ⟨gb320, 2, none⟩ = some (.string ((rd_T36 l0 x7_1).f2)) := (blk_cell BK320.out 2).trans rfl
         have hcz47_3 : w45.cell? ⟨gb320, 3, none⟩ = some (.bool ((rd_T36 l0 x7_1).f3.f0)) := (blk_cell BK320.out 3).trans rfl
         have hcz47_4 : w45.cell? ⟨gb320, 4, none⟩ = some (.int .i64 ((rd_T36 l0 x7_1).f3.f1)) := (blk_cell BK320.out 4).trans rfl
         have hcz47_5 : w45.cell? ⟨gb320, 5, none⟩ = some (.int .i64 ((rd_T36 l0 x7_1).f4)) := (blk_cell BK320.out 5).trans rfl
         have hfz47_0 := blk_frozen BK320.out 0
         have hfz47_1 := blk_frozen BK320.out 1
         have hfz47_2 := blk_frozen BK320.out 2
         have hfz47_3 := blk_frozen BK320.out 3
         have hfz47_4 := blk_frozen BK320.out 4
         have hfz47_5 := blk_frozen BK320.out 5
         have hcz48_0 : w45.cell? ⟨gb321, 0, none⟩ = some (.int .i64 ((rd_T36 l1 x7_1).f0)) := (blk_cell BK321.out 0).trans rfl
         have hcz48_1 : w45.cell? ⟨gb321, 1, none⟩ = some (.int .i64 ((rd_T36 l1 x7_1).f1)) := (blk_cell BK321.out 1).trans rfl
         have hcz48_2 : w45.cell? ⟨gb321, 2, none⟩ = some (.string ((rd_T36 l1 x7_1).f2)) := (blk_cell BK321.out 2).trans rfl
         have hcz48_3 : w45.cell? ⟨gb321, 3, none⟩ = some (.bool ((rd_T36 l1 x7_1).f3.f0)) := (blk_cell BK321.out 3).trans rfl
         have hcz48_4 : w45.cell? ⟨gb321, 4, none⟩ = some (.int .i64 ((rd_T36 l1 x7_1).f3.f1)) := (blk_cell BK321.out 4).trans rfl
         have hcz48_5 : w45.cell? ⟨gb321, 5, none⟩ = some (.int .i64 ((rd_T36 l1 x7_1).f4)) := (blk_cell BK321.out 5).trans rfl
         have hfz48_0 := blk_frozen BK321.out 0
         have hfz48_1 := blk_frozen BK321.out 1
         have hfz48_2 := blk_frozen BK321.out 2
         have hfz48_3 := blk_frozen BK321.out 3
         have hfz48_4 := blk_frozen BK321.out 4
         have hfz48_5 := blk_frozen BK321.out 5
         try go_wp2
         go_roundg k1
         case measure => have := HK1.out; omega
         case rel => exact ⟨(wrap64 (x7_1 + 1)), (by first | rfl | (simp; done) | (simp [*]; done)), H', ⟨by have := HK1.out; omega⟩, ⟨by repeat (first | (with_reducible first | exact HB.out | apply below_alloc | apply pw_below_drewN | apply below_drew1 | refine below_set ?_ GE320.out | refine below_set ?_ GE321.out) | exact HB.out)⟩⟩
      ·rw [if_neg c7] at H
       exact absurd H (by simp)
     ·rw [if_neg c6] at H
      exact absurd H (by simp)
    ·rw [if_neg c5] at H
     have c5b0 : decide (x7_1 < (l0.length : Int)) = false := decide_eq_false c5
     clear c5
     obtain rfl := Option.some.inj H
     go_wp2
     go_ret
     exact ⟨by first | rfl | (simp [errW_none, errW_some] <;> rfl) | (simp [*, errW_none, errW_some] <;> rfl), by repeat (first | (with_reducible first | exact HB.out | apply below_alloc | apply pw_below_drewN | apply below_drew1) | exact HB.out)⟩
 ·rw [if_neg c4] at H
  exact absurd H (by simp)

end Go.Proofs.YtnjobjogddjelaaGreatDoor.Print
end

section
namespace Go.Proofs.YtnjobjogddjelaaGreatDoor.PureN
open Go.RowKit Go.Proofs.YtnjobjogddjelaaGreatDoor.Print Go.Proofs.YtnjobjogddjelaaGreatDoor.Pure Go.Proofs.YtnjobjogddjelaaGreatDoorW.PrintWords Go.Proofs.YtnjobjogddjelaaGreatDoorW.PrintLast Go.Proofs.YtnjobjogddjelaaGreatDoorW.PrintMore

/-! LexTells. -/
theorem rd_at (l : List S36) (i : Nat) (h : i < l.length) : rd_T36 l (i : Int) = l[i] := by
 unfold rd_T36
 rw [Int.toNat_natCast, List.getD_eq_getElem?_getD, List.getElem?_eq_getElem h]
 rfl
/-- The same, but for their places. -/
def eqv (p : Bool) (a b : S36) : Prop := a.f0 = b.f0 ∧ a.f2 = b.f2 ∧ a.f3 = b.f3 ∧ a.f4 = b.f4 ∧ (p = true → a.f1 = b.f1)
theorem same_l0 (x y : List S36) (p : Bool) (hn : x.length = y.length) (hl : x.length ≤ 100000) (he : ∀ i (h : i < x.length), eqv p x[i] (y[i]'(hn ▸ h))) :
  ∀ (d k i : Nat), i + d = x.length → d < k → spillwaylaw7_same.l0 k x y p (i : Int) = some true
 | 0, k, i, h, hk => by
  obtain ⟨k, rfl⟩ : ∃ m, k = m + 1 := ⟨k - 1, by omega⟩
  rw [spillwaylaw7_same.l0, if_neg (by omega)]
 | d + 1, k, i, h, hk => by
  obtain ⟨k, rfl⟩ : ∃ m, k = m + 1 := ⟨k - 1, by omega⟩
  have hi : i < x.length := by omega
  have ih := same_l0 x y p hn hl he d k (i + 1) (by omega) (by omega)
  obtain ⟨e0, e2, e3, e4, e1⟩ := he i hi
  rw [spillwaylaw7_same.l0, if_pos (by omega), if_pos (by omega), if_pos (by omega), rd_at x i hi, rd_at y i (by omega), e0, e2, e3, e4, w1 i (by omega), ih]
  cases p
  ·simp
  ·rw [e1 rfl]
   simp
theorem same_eq (x y : List S36) (p : Bool) (k : Nat) (hn : x.length = y.length) (hl : x.length ≤ 100000) (hk : x.length < k) (he : ∀ i (h : i < x.length), eqv p x[i] (y[i]'(hn ▸ h))) : spillwaylaw7_same.f k x y p = some true := by
 unfold spillwaylaw7_same.f
 rw [if_pos (by omega)]
 exact same_l0 x y p hn hl he x.length k 0 (by omega) hk
theorem scan_len (n : Nat) : ∀ (l : List UInt8) (i : Nat) (ts : List Tok), l.length ≤ n → scanS i l = .ok ts → ts.length ≤ l.length + 1 := by
 induction n with
 | zero =>
  intro l i ts h hs
  cases l with
  | nil =>
   rw [scanS_nil] at hs
   injection hs with hs
   rw [← hs]
   simp
  | cons c r => simp at h
 | succ n ih =>
  intro l i ts h hs
  cases l with
  | nil =>
   rw [scanS_nil] at hs
   injection hs with hs
   rw [← hs]
   simp
  | cons c r =>
   rw [List.length_cons] at h ⊢
   cases hb : blank c
   ·cases e : readS (c :: r) with
    | none => rw [scanS_bad _ _ _ hb e] at hs; simp at hs
    | some x =>
     rw [scanS_good _ _ _ x e] at hs
     cases e2 : scanS (i + x.2) (r.drop (x.2 - 1)) with
     | error j => rw [e2] at hs; simp at hs
     | ok ts' =>
      rw [e2] at hs
      injection hs with hs
      have := ih (r.drop (x.2 - 1)) (i + x.2) ts' (by rw [List.length_drop]; omega) e2
      rw [List.length_drop] at this
      rw [← hs, List.length_cons]
      omega
   ·rw [scanS_blank _ _ _ hb] at hs
    have := ih r (i + 1) ts (by omega) hs
    omega
end Go.Proofs.YtnjobjogddjelaaGreatDoor.PureN
end

section
namespace Go.Proofs.YtnjobjogddjelaaGreatDoor.Print
open Go.RowKit Go.Proofs.YtnjobjogddjelaaGreatDoorX Go.Proofs.YtnjobjogddjelaaGreatDoorW.PrintWords Go.Proofs.YtnjobjogddjelaaGreatDoorW.PrintLast Go.Proofs.YtnjobjogddjelaaGreatDoorW.PrintMore
attribute [local go_sem] max2_int min2_int max_two min_two max_three min_three max_four min_four

/-! ### spillwayref2_Digits: function 15 -/
def spillwayref2_Digits.l0 : Nat → Int → ByteArray → Option (ByteArray)
 | 0, _, _ => none
 | k + 1, x0, x3 => (some (([(IntKind.u64.wrap (48 + (Int.tmod x0 10))) % 256] : List Int) : List Int)).bind fun y334 => (if (strOfNums y334).size + x3.size ≤ 9223372036854775807 then (if (IntKind.u64.wrap (Int.tdiv x0 10)) = 0 then (some ((strOfNums y334) ++ x3)) else (spillwayref2_Digits.l0 k (IntKind.u64.wrap (Int.tdiv x0 10)) ((strOfNums y334) ++ x3))) else (none))
def spillwayref2_Digits.f (k : Nat) (a0 : Int) : Option (ByteArray) := spillwayref2_Digits.l0 k a0 (⟨#[]⟩ : ByteArray)
theorem spillwayref2_Digits.mono_l : ∀ k, (∀ y0 y1, LeO (spillwayref2_Digits.l0 k y0 y1) (spillwayref2_Digits.l0 (k + 1) y0 y1))
 | 0 => fun _ _ r h => by simp [spillwayref2_Digits.l0] at h
 | k + 1 => by
  have ih0 := spillwayref2_Digits.mono_l k
  ·intro y0 y1
   unfold spillwayref2_Digits.l0
   repeat' first
   | (with_reducible exact ih0 _ _)
   | (with_reducible exact LeO.refl _)
   | (with_reducible exact LeO.none _)
   | (with_reducible refine LeO.ite ?_ ?_)
   | (with_reducible refine LeO.bind ?_ (fun _ => ?_))
   | exact ih0 _ _
   | exact LeO.none _
   | refine LeO.ite ?_ ?_
   | refine LeO.bind ?_ (fun _ => ?_)
theorem spillwayref2_Digits.mono : ∀ a0 k, LeO (spillwayref2_Digits.f k a0) (spillwayref2_Digits.f (k + 1) a0) := by
 intro a0 k
 have ih0 := spillwayref2_Digits.mono_l k
 unfold spillwayref2_Digits.f
 repeat' first
   | (with_reducible exact ih0 _ _)
   | (with_reducible exact LeO.refl _)
   | (with_reducible exact LeO.none _)
   | (with_reducible refine LeO.ite ?_ ?_)
   | (with_reducible refine LeO.bind ?_ (fun _ => ?_))
   | exact ih0 _ _
   | exact LeO.none _
   | refine LeO.ite ?_ ?_
   | refine LeO.bind ?_ (fun _ => ?_)
set_option maxHeartbeats 8000000 in
set_option maxRecDepth 100000 in
theorem spillwayref2_Digits.calls (k : Nat) (a0 : Int) (r : ByteArray) (w : World) (h : spillwayref2_Digits.f k a0 = some r) :
  Calls Tryz.prog 15 #[.int .u64 a0] w fun e w' => e = .returned (.string r) ∧ Below w.heap.size w w' := by
 have HB := Aside0.mk (Below.refl w.heap.size w)
 have H : (spillwayref2_Digits.l0 k a0 (⟨#[]⟩ : ByteArray)) = some r := h
 clear h
 have H' := Aside0.mk H
 clear H
 go_enter Tryz.func15, Tryz.ntmps15
 go_wp2
 go_loopg [0, 3] k (fun kq v0 v3 w' => ∃ (x0_1 : Int) (x3_1 : ByteArray), v0 = .int .u64 x0_1 ∧ v3 = .string x3_1 ∧ Aside0 (spillwayref2_Digits.l0 kq x0_1 x3_1 = some r) ∧ Aside0 (kq ≤ k) ∧ Aside0 (Below w.heap.size w w'))
 case atStart => exact ⟨(a0), ((⟨#[]⟩ : ByteArray)), (by first | rfl | (simp; done) | (simp [*]; done)), (by first | rfl | (simp; done) | (simp [*]; done)), H', ⟨Nat.le_refl _⟩, ⟨by repeat (first | (with_reducible first | exact HB.out | apply below_alloc | apply pw_below_drewN | apply below_drew1) | exact HB.out)⟩⟩
 case round =>
  clear H'
  try clear c1
  obtain ⟨x0_1, x3_1, rfl, rfl, HA, HK1, HB⟩ := hrel
  cases gk with
  | zero => exact absurd HA.out (by simp [spillwayref2_Digits.l0])
  | succ k1 =>
   have H := HA.out
   clear HA
   simp only [spillwayref2_Digits.l0] at H
   obtain ⟨y334, hy334⟩ : ∃ y_ : List Int, y_ = (([(IntKind.u64.wrap (48 + (Int.tmod x0_1 10))) % 256] : List Int)) := ⟨_, rfl⟩
   replace H : (if (strOfNums y334).size + x3_1.size ≤ 9223372036854775807 then (if (IntKind.u64.wrap (Int.tdiv x0_1 10)) = 0 then (some ((strOfNums y334) ++ x3_1)) else (spillwayref2_Digits.l0 k1 (IntKind.u64.wrap (Int.tdiv x0_1 10)) ((strOfNums y334) ++ x3_1))) else (none)) = some r := by first | (rw [hy334]; with_reducible exact H) | (have H2_ := (Option.bind_some _ _).symm.trans H; rw [hy334]; with_reducible exact H2_) | (have H2_ := (Option.bind_some _ _).symm.trans H; with_reducible exact H2_) | with_reducible exact H | (rw [hy334]; exact H) | exact H
   have Ny334 := Aside0.mk hy334
   clear hy334
   by_cases c2 : (strOfNums y334).size + x3_1.size ≤ 9223372036854775807
   ·rw [if_pos c2] at H
    have c2b0 := eq_true c2
    have c2b1 : decide ((strOfNums y334).size + x3_1.size ≤ 9223372036854775807) = true := decide_eq_true c2
    try have c2b2 : (9223372036854775807 < (strOfNums y334).size + x3_1.size) = False := eq_false (Nat.not_lt.2 c2)
    by_cases c3 : (IntKind.u64.wrap (Int.tdiv x0_1 10)) = 0
    ·rw [if_pos c3] at H
     have c3b0 : ((IntKind.u64.wrap (Int.tdiv x0_1 10)) == 0) = true := beq_iff_eq.mpr c3
     have c3b1 : ((IntKind.u64.wrap (Int.tdiv x0_1 10)) != 0) = false := bne_eq_false_iff_eq.mpr c3
     clear c3
     obtain rfl := Option.some.inj H
     go_wp2_with (first | ((with_reducible refine gate_dst (N := 8) rfl ?_); refine Kd.R_lit (Kd.int .u8) _ 5 ?hg (N := 8) ?hd (xs := ([(IntKind.u64.wrap (48 + (Int.tmod x0_1 10))) % 256] : List Int)) (inner := [.int .u8 ((IntKind.u64.wrap (48 + (Int.tmod x0_1 10))) % 256)]) (ok := fun _ => True) (okp := fun _ => True) ?hr ?hp (fun _ hk => hk) trivial (Below.refl _ _) (Nat.le_refl _) (by simp) ?_; (case hd => rfl); (case hg => rfl); (case hr => first | (go_simp; done) | (go_simp; rfl)); (case hp => exact (Reps.one (show Kd.M (Kd.int .u8) _ _ _ ((IntKind.u64.wrap (48 + (Int.tmod x0_1 10))) % 256) [.int .u8 ((IntKind.u64.wrap (48 + (Int.tmod x0_1 10))) % 256)] from rfl) (Reps.none _ _))); intro v335 w4 ho5 hb hg_ hnew_; clear hg_ hnew_; (first | rw [← Ny334.out] at ho5 | (simp only [Int.reduceToNat] at ho5; rw [← Ny334.out] at ho5)); have n0_ := Aside0.mk (Kd.R_lower ho5 (below_size (by repeat (first | (with_reducible first | exact HB.out | apply below_alloc | apply pw_below_drewN | apply below_drew1) | exact HB.out)))); have n1_ := Aside0.mk (below_step (by repeat (first | (with_reducible first | exact HB.out | apply below_alloc | apply pw_below_drewN | apply below_drew1) | exact HB.out)) hb); clear HB; have HO336 := n0_; have HB := n1_; clear n0_ n1_; clear hb ho5; have hcv6 := own_string (P := Tryz.prog) Tryz.underlying44 Tryz.underlying5 Tryz.underlying9 (Kd.own_of_R HO336.out)))
     go_ret
     exact ⟨by first | rfl | (simp [errW_none, errW_some] <;> rfl) | (simp [*, errW_none, errW_some] <;> rfl), by repeat (first | (with_reducible first | exact HB.out | apply below_alloc | apply pw_below_drewN | apply below_drew1) | exact HB.out)⟩
    ·rw [if_neg c3] at H
     have c3b0 : ((IntKind.u64.wrap (Int.tdiv x0_1 10)) == 0) = false := beq_eq_false_iff_ne.mpr c3
     have c3b1 : ((IntKind.u64.wrap (Int.tdiv x0_1 10)) != 0) = true := bne_iff_ne.mpr c3
     have H' := Aside0.mk H
     clear H
     go_wp2_with (first | ((with_reducible refine gate_dst (N := 8) rfl ?_); refine Kd.R_lit (Kd.int .u8) _ 5 ?hg (N := 8) ?hd (xs := ([(IntKind.u64.wrap (48 + (Int.tmod x0_1 10))) % 256] : List Int)) (inner := [.int .u8 ((IntKind.u64.wrap (48 + (Int.tmod x0_1 10))) % 256)]) (ok := fun _ => True) (okp := fun _ => True) ?hr ?hp (fun _ hk => hk) trivial (Below.refl _ _) (Nat.le_refl _) (by simp) ?_; (case hd => rfl); (case hg => rfl); (case hr => first | (go_simp; done) | (go_simp; rfl)); (case hp => exact (Reps.one (show Kd.M (Kd.int .u8) _ _ _ ((IntKind.u64.wrap (48 + (Int.tmod x0_1 10))) % 256) [.int .u8 ((IntKind.u64.wrap (48 + (Int.tmod x0_1 10))) % 256)] from rfl) (Reps.none _ _))); intro v335 w7 ho8 hb hg_ hnew_; clear hg_ hnew_; (first | rw [← Ny334.out] at ho8 | (simp only [Int.reduceToNat] at ho8; rw [← Ny334.out] at ho8)); have n0_ := Aside0.mk (Kd.R_lower ho8 (below_size (by repeat (first | (with_reducible first | exact HB.out | apply below_alloc | apply pw_below_drewN | apply below_drew1) | exact HB.out)))); have n1_ := Aside0.mk (below_step (by repeat (first | (with_reducible first | exact HB.out | apply below_alloc | apply pw_below_drewN | apply below_drew1) | exact HB.out)) hb); clear HB; have HO336 := n0_; have HB := n1_; clear n0_ n1_; clear hb ho8; have hcv9 := own_string (P := Tryz.prog) Tryz.underlying44 Tryz.underlying5 Tryz.underlying9 (Kd.own_of_R HO336.out)))
     go_roundg k1
     case measure => have := HK1.out; omega
     case rel => exact ⟨(IntKind.u64.wrap (Int.tdiv x0_1 10)), ((strOfNums y334) ++ x3_1), (by first | rfl | (simp; done) | (simp [*]; done)), (by first | rfl | (simp; done) | (simp [*]; done)), H', ⟨by have := HK1.out; omega⟩, ⟨by repeat (first | (with_reducible first | exact HB.out | apply below_alloc | apply pw_below_drewN | apply below_drew1) | exact HB.out)⟩⟩
   ·rw [if_neg c2] at H
    exact absurd H (by simp)

end Go.Proofs.YtnjobjogddjelaaGreatDoor.Print
end

section
namespace Go.Proofs.YtnjobjogddjelaaGreatDoor.Print
open Go.RowKit Go.Proofs.YtnjobjogddjelaaGreatDoorX Go.Proofs.YtnjobjogddjelaaGreatDoorW.PrintWords Go.Proofs.YtnjobjogddjelaaGreatDoorW.PrintLast Go.Proofs.YtnjobjogddjelaaGreatDoorW.PrintMore
attribute [local go_sem] max2_int min2_int max_two min_two max_three min_three max_four min_four

/-! ### spillwayref2_Is: function 39 -/
def spillwayref2_Is.f (a0_0 : Bool) (a0_1 : Int) : Option (Bool) := if a0_0 = true then (some (a0_1 == 0)) else (if a0_1 = (-9223372036854775808) then (some false) else (some true))
set_option maxHeartbeats 8000000 in
set_option maxRecDepth 100000 in
theorem spillwayref2_Is.calls (a0_0 : Bool) (a0_1 : Int) (r : Bool) (w : World) (h : spillwayref2_Is.f a0_0 a0_1 = some r) :
  Calls Tryz.prog 39 #[.agg #[.bool a0_0, .int .i64 a0_1]] w fun e w' => e = .returned (.bool r) ∧ Below w.heap.size w w' := by
 have hu34 := Tryz.underlying34
 have HB := Aside0.mk (Below.refl w.heap.size w)
 have H : (if a0_0 = true then (some (a0_1 == 0)) else (if a0_1 = (-9223372036854775808) then (some false) else (some true))) = some r := h
 clear h
 by_cases c2 : a0_0 = true
 ·subst c2
  have H1 : (some (a0_1 == 0)) = some r := by rw [if_pos rfl] at H; exact H
  clear H
  have H := H1
  clear H1
  obtain rfl := Option.some.inj H
  go_enter Tryz.func39, Tryz.ntmps39
  go_wp2_with (first | ((with_reducible refine gate_dst (N := 1) rfl ?_); refine box_event ?hg (N := 1) ?hd (cs := #[.bool true, .int .i64 a0_1]) (t := 34) ?hr ?_; (case hd => rfl); (case hg => rfl); (case hr => first | (go_simp; done) | (go_simp; rfl)); intro gb337 hg w3 hbox hb; have n0_ := Aside0.mk (below_step (by repeat (first | (with_reducible first | exact HB.out | apply below_alloc | apply pw_below_drewN | apply below_drew1) | exact HB.out)) hb); have n1_ := Aside0.mk (hbox); have n2_ := Aside0.mk ((by rw [hg]; exact (below_size (by repeat (first | (with_reducible first | exact HB.out | apply below_alloc | apply pw_below_drewN | apply below_drew1) | exact HB.out))) : w.heap.size ≤ gb337)); have n3_ := Aside0.mk ((by rw [hg]; exact (below_size (by repeat (first | (with_reducible first | exact HB.out | apply below_alloc | apply pw_below_drewN | apply below_drew1) | exact HB.out))) : w.heap.size ≤ gb337)); clear HB; have HB := n0_; have BK337 := n1_; have GW337 := n2_; have GE337 := n3_; clear n0_ n1_ n2_ n3_; clear hb hbox hg; have hcz4_0 : w3.cell? ⟨gb337, 0, none⟩ = some (.bool true) := (blk_cell BK337.out 0).trans rfl; have hcz4_1 : w3.cell? ⟨gb337, 1, none⟩ = some (.int .i64 a0_1) := (blk_cell BK337.out 1).trans rfl; have hfz4_0 := blk_frozen BK337.out 0; have hfz4_1 := blk_frozen BK337.out 1))
  go_ret
  exact ⟨by first | rfl | (simp [errW_none, errW_some] <;> rfl) | (simp [*, errW_none, errW_some] <;> rfl), by repeat (first | (with_reducible first | exact HB.out | apply below_alloc | apply pw_below_drewN | apply below_drew1 | refine below_set ?_ GE337.out) | exact HB.out)⟩
 ·replace c2 := Bool.eq_false_iff.mpr c2
  subst c2
  have H1 : (if a0_1 = (-9223372036854775808) then (some false) else (some true)) = some r := by rw [if_neg (show ¬ (false = true) by decide)] at H; exact H
  clear H
  have H := H1
  clear H1
  by_cases c5 : a0_1 = (-9223372036854775808)
  ·rw [if_pos c5] at H
   have c5b0 : (a0_1 == (-9223372036854775808)) = true := beq_iff_eq.mpr c5
   have c5b1 : (a0_1 != (-9223372036854775808)) = false := bne_eq_false_iff_eq.mpr c5
   clear c5
   obtain rfl := Option.some.inj H
   go_enter Tryz.func39, Tryz.ntmps39
   go_wp2_with (first | ((with_reducible refine gate_dst (N := 1) rfl ?_); refine box_event ?hg (N := 1) ?hd (cs := #[.bool false, .int .i64 a0_1]) (t := 34) ?hr ?_; (case hd => rfl); (case hg => rfl); (case hr => first | (go_simp; done) | (go_simp; rfl)); intro gb337 hg w6 hbox hb; have n0_ := Aside0.mk (below_step (by repeat (first | (with_reducible first | exact HB.out | apply below_alloc | apply pw_below_drewN | apply below_drew1) | exact HB.out)) hb); have n1_ := Aside0.mk (hbox); have n2_ := Aside0.mk ((by rw [hg]; exact (below_size (by repeat (first | (with_reducible first | exact HB.out | apply below_alloc | apply pw_below_drewN | apply below_drew1) | exact HB.out))) : w.heap.size ≤ gb337)); have n3_ := Aside0.mk ((by rw [hg]; exact (below_size (by repeat (first | (with_reducible first | exact HB.out | apply below_alloc | apply pw_below_drewN | apply below_drew1) | exact HB.out))) : w.heap.size ≤ gb337)); clear HB; have HB := n0_; have BK337 := n1_; have GW337 := n2_; have GE337 := n3_; clear n0_ n1_ n2_ n3_; clear hb hbox hg; have hcz7_0 : w6.cell? ⟨gb337, 0, none⟩ = some (.bool false) := (blk_cell BK337.out 0).trans rfl; have hcz7_1 : w6.cell? ⟨gb337, 1, none⟩ = some (.int .i64 a0_1) := (blk_cell BK337.out 1).trans rfl; have hfz7_0 := blk_frozen BK337.out 0; have hfz7_1 := blk_frozen BK337.out 1))
   go_ret
   exact ⟨by first | rfl | (simp [errW_none, errW_some] <;> rfl) | (simp [*, errW_none, errW_some] <;> rfl), by repeat (first | (with_reducible first | exact HB.out | apply below_alloc | apply pw_below_drewN | apply below_drew1 | refine below_set ?_ GE337.out) | exact HB.out)⟩
  ·rw [if_neg c5] at H
   have c5b0 : (a0_1 == (-9223372036854775808)) = false := beq_eq_false_iff_ne.mpr c5
   have c5b1 : (a0_1 != (-9223372036854775808)) = true := bne_iff_ne.mpr c5
   obtain rfl := Option.some.inj H
   go_enter Tryz.func39, Tryz.ntmps39
   go_wp2_with (first | ((with_reducible refine gate_dst (N := 1) rfl ?_); refine box_event ?hg (N := 1) ?hd (cs := #[.bool false, .int .i64 a0_1]) (t := 34) ?hr ?_; (case hd => rfl); (case hg => rfl); (case hr => first | (go_simp; done) | (go_simp; rfl)); intro gb337 hg w8 hbox hb; have n0_ := Aside0.mk (below_step (by repeat (first | (with_reducible first | exact HB.out | apply below_alloc | apply pw_below_drewN | apply below_drew1) | exact HB.out)) hb); have n1_ := Aside0.mk (hbox); have n2_ := Aside0.mk ((by rw [hg]; exact (below_size (by repeat (first | (with_reducible first | exact HB.out | apply below_alloc | apply pw_below_drewN | apply below_drew1) | exact HB.out))) : w.heap.size ≤ gb337)); have n3_ := Aside0.mk ((by rw [hg]; exact (below_size (by repeat (first | (with_reducible first | exact HB.out | apply below_alloc | apply pw_below_drewN | apply below_drew1) | exact HB.out))) : w.heap.size ≤ gb337)); clear HB; have HB := n0_; have BK337 := n1_; have GW337 := n2_; have GE337 := n3_; clear n0_ n1_ n2_ n3_; clear hb hbox hg; have hcz9_0 : w8.cell? ⟨gb337, 0, none⟩ = some (.bool false) := (blk_cell BK337.out 0).trans rfl; have hcz9_1 : w8.cell? ⟨gb337, 1, none⟩ = some (.int .i64 a0_1) := (blk_cell BK337.out 1).trans rfl; have hfz9_0 := blk_frozen BK337.out 0; have hfz9_1 := blk_frozen BK337.out 1))
   go_ret
   exact ⟨by first | rfl | (simp [errW_none, errW_some] <;> rfl) | (simp [*, errW_none, errW_some] <;> rfl), by repeat (first | (with_reducible first | exact HB.out | apply below_alloc | apply pw_below_drewN | apply below_drew1 | refine below_set ?_ GE337.out) | exact HB.out)⟩

end Go.Proofs.YtnjobjogddjelaaGreatDoor.Print
end

section
namespace Go.Proofs.YtnjobjogddjelaaGreatDoor.Print
open Go.RowKit Go.Proofs.YtnjobjogddjelaaGreatDoorX Go.Proofs.YtnjobjogddjelaaGreatDoorW.PrintWords Go.Proofs.YtnjobjogddjelaaGreatDoorW.PrintLast Go.Proofs.YtnjobjogddjelaaGreatDoorW.PrintMore
attribute [local go_sem] max2_int min2_int max_two min_two max_three min_three max_four min_four

/-! ### spillwayref2_size: function 40 -/
def spillwayref2_size.f (a0 : Int) : Option (Int) := if a0 < 0 then (some (IntKind.u64.wrap (wrap64 (-a0)))) else (some (IntKind.u64.wrap (a0)))
set_option maxHeartbeats 8000000 in
set_option maxRecDepth 100000 in
theorem spillwayref2_size.calls (a0 : Int) (r : Int) (w : World) (h : spillwayref2_size.f a0 = some r) :
  Calls Tryz.prog 40 #[.int .i64 a0] w fun e w' => e = .returned (.int .u64 r) ∧ Drawn0 w w' := by
 have H : (if a0 < 0 then (some (IntKind.u64.wrap (wrap64 (-a0)))) else (some (IntKind.u64.wrap (a0)))) = some r := h
 clear h
 by_cases c2 : a0 < 0
 ·rw [if_pos c2] at H
  have c2b0 : decide (a0 < 0) = true := decide_eq_true c2
  clear c2
  obtain rfl := Option.some.inj H
  go_enter Tryz.func40, Tryz.ntmps40
  go_wp2
  go_ret
  exact ⟨by first | rfl | (simp; done) | (simp [*]; done), by repeat (first | exact Drawn0.refl _ | apply Drawn0.step)⟩
 ·rw [if_neg c2] at H
  have c2b0 : decide (a0 < 0) = false := decide_eq_false c2
  clear c2
  obtain rfl := Option.some.inj H
  go_enter Tryz.func40, Tryz.ntmps40
  go_wp2
  go_ret
  exact ⟨by first | rfl | (simp; done) | (simp [*]; done), by repeat (first | exact Drawn0.refl _ | apply Drawn0.step)⟩

end Go.Proofs.YtnjobjogddjelaaGreatDoor.Print
end
