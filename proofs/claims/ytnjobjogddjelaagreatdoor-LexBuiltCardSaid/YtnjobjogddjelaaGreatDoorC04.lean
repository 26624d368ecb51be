/- A part of the proof of LexBuilt: what the functions that the law reaches come to. -/
import Derived.Test.YtnjobjogddjelaaGreatDoorC02
import Derived.Test.YtnjobjogddjelaaGreatDoorC03
import Derived.Test.YtnjobjogddjelaaGreatDoorC01
set_option linter.unusedVariables false
set_option linter.unusedSimpArgs false
section
namespace Go.Proofs.YtnjobjogddjelaaGreatDoor.PureN
open Go.RowKit Go.Proofs.YtnjobjogddjelaaGreatDoor.Print Go.Proofs.YtnjobjogddjelaaGreatDoor.Pure Go.Proofs.YtnjobjogddjelaaGreatDoorW.PrintWords Go.Proofs.YtnjobjogddjelaaGreatDoorW.PrintLast Go.Proofs.YtnjobjogddjelaaGreatDoorW.PrintMore

/-! What the printed functions of lex come to. -/
theorem u8_dec (p : UInt8 → Bool) (h : (List.range 256).all (fun n => p (UInt8.ofNat n)) = true) : ∀ c, p c = true := by
 intro c
 have := List.all_eq_true.1 h c.toNat (List.mem_range.2 c.toNat_lt)
 rwa [UInt8.ofNat_toNat] at this
theorem letter_eq (c : UInt8) : lex_letter.f (c.toNat : Int) = some (isL c) := of_decide_eq_true (u8_dec (fun c => decide (lex_letter.f (c.toNat : Int) = some (isL c))) (by decide +kernel) c)
theorem digit_eq (c : UInt8) : lex_digit.f (c.toNat : Int) = some (isD c) := of_decide_eq_true (u8_dec (fun c => decide (lex_digit.f (c.toNat : Int) = some (isD c))) (by decide +kernel) c)
theorem idP_eq (c : UInt8) : decide (idP (c.toNat : Int)) = idc c := of_decide_eq_true (u8_dec (fun c => decide (decide (idP (c.toNat : Int)) = idc c)) (by decide +kernel) c)
theorem isD_int (c : UInt8) : isD c = (decide (48 ≤ (c.toNat : Int)) && decide ((c.toNat : Int) ≤ 57)) := of_decide_eq_true (u8_dec (fun c => decide (isD c = (decide (48 ≤ (c.toNat : Int)) && decide ((c.toNat : Int) ≤ 57)))) (by decide +kernel) c)
theorem ext_take (l : List UInt8) (n : Nat) : (⟨l.toArray⟩ : ByteArray).extract 0 n = ⟨(l.take n).toArray⟩ := by
 apply ByteArray.ext
 apply Array.ext'
 rw [ByteArray.data_extract, Array.toList_extract]
 simp
theorem drop_cons (l : List UInt8) (i : Nat) (h : i < l.length) : l.drop i = l[i] :: l.drop (i + 1) := List.drop_eq_getElem_cons h
theorem w1 (i : Nat) (h : i ≤ 100000) : wrap64 ((i : Int) + 1) = ((i + 1 : Nat) : Int) := by unfold wrap64; omega
theorem many25_l0 (l : List UInt8) (hl : l.length ≤ 700) : ∀ (d k i : Nat), i + d = l.length → d < k → lex_many25.l0 k ⟨l.toArray⟩ (i : Int) = some ((i + ((l.drop i).takeWhile isD).length : Nat) : Int)
 | 0, k, i, h, hk => by
  obtain ⟨k, rfl⟩ : ∃ m, k = m + 1 := ⟨k - 1, by omega⟩
  unfold lex_many25.l0
  rw [size_list, if_neg (by omega), List.drop_eq_nil_of_le (by omega)]
  simp
 | d + 1, k, i, h, hk => by
  obtain ⟨k, rfl⟩ : ∃ m, k = m + 1 := ⟨k - 1, by omega⟩
  have hi : i < l.length := by omega
  unfold lex_many25.l0
  rw [size_list, if_pos (by omega), if_pos (by omega), bt_list l i hi, drop_cons l i hi, List.takeWhile_cons, w1 i (by omega)]
  have hd := isD_int l[i]
  cases c : isD l[i]
  ·rw [c] at hd
   simp only [Bool.false_eq_true, if_false, List.length_nil, Nat.add_zero]
   split
   ·split
    ·rename_i h1 h2
     rw [decide_eq_true h1, decide_eq_true h2] at hd
     simp at hd
    ·rfl
   ·rfl
  ·rw [c] at hd
   have hd := Bool.and_eq_true_iff.1 hd.symm
   rw [if_pos (of_decide_eq_true hd.1), if_pos (of_decide_eq_true hd.2), many25_l0 l hl d k (i + 1) (by omega) (by omega)]
   simp only [if_true, List.length_cons]
   congr 2
   omega
theorem many25_eq (l : List UInt8) (k : Nat) (hl : l.length ≤ 700) (hk : 700 < k) : lex_many25.f k ⟨l.toArray⟩ = some ((l.takeWhile isD).length : Int) := by
 have := many25_l0 l hl l.length k 0 (by omega) (by omega)
 simpa [lex_many25.f] using this
theorem many42_l0 (l : List UInt8) (hl : l.length ≤ 700) : ∀ (d k i : Nat), i + d = l.length → d < k → lex_many42.l0 k ⟨l.toArray⟩ (i : Int) = some ((i + ((l.drop i).takeWhile idc).length : Nat) : Int)
 | 0, k, i, h, hk => by
  obtain ⟨k, rfl⟩ : ∃ m, k = m + 1 := ⟨k - 1, by omega⟩
  unfold lex_many42.l0
  rw [size_list, if_neg (by omega), List.drop_eq_nil_of_le (by omega)]
  simp
 | d + 1, k, i, h, hk => by
  obtain ⟨k, rfl⟩ : ∃ m, k = m + 1 := ⟨k - 1, by omega⟩
  have hi : i < l.length := by omega
  unfold lex_many42.l0
  rw [size_list, if_pos (by omega), if_pos (by omega), bt_list l i hi, drop_cons l i hi, List.takeWhile_cons, w1 i (by omega)]
  have hd := idP_eq l[i]
  cases c : idc l[i]
  ·rw [c] at hd
   rw [if_neg (of_decide_eq_false hd)]
   simp
  ·rw [c] at hd
   rw [if_pos (of_decide_eq_true hd), many42_l0 l hl d k (i + 1) (by omega) (by omega)]
   simp only [if_true, List.length_cons]
   congr 2
   omega
theorem many42_eq (l : List UInt8) (k : Nat) (hl : l.length ≤ 700) (hk : 700 < k) : lex_many42.f k ⟨l.toArray⟩ = some ((l.takeWhile idc).length : Int) := by
 have := many42_l0 l hl l.length k 0 (by omega) (by omega)
 simpa [lex_many42.f] using this
abbrev Out := Int × Int × ByteArray × Bool × Int × Int × Int
def zeroO : Out := (0, 0, ⟨#[]⟩, false, 0, 0, 0)
def outR : Option (Tok × Nat) → Out
 | some x => (x.1.kind, 0, ⟨x.1.text.toArray⟩, false, x.1.v, x.1.n, (x.2 : Int))
 | none => zeroO
theorem ident_eq (l : List UInt8) (k : Nat) (hl : l.length ≤ 700) (hk : 700 < k) : lex_ident.f k ⟨l.toArray⟩ = some (outR (readId l)) := by
 unfold lex_ident.f readId
 rw [many42_eq l k hl hk, Option.bind_some]
 have hle := tw_le (p := idc) l
 by_cases h : (l.takeWhile idc).length ≤ 20
 ·rw [if_neg (by omega), if_pos (by omega), size_list, if_pos (by omega), if_pos h, Int.toNat_natCast, ext_take, take_tw]
  rfl
 ·rw [if_pos (by omega), if_neg h]
  rfl
/-! Durations. -/
theorem pu_ok : ∀ (l : List UInt8) (a : Nat), l.all isD = true → valF a l < 1000000000000000000 → Lib.parseUint10 a l = .ok (valF a l)
 | [], a, _, _ => rfl
 | c :: l, a, h, hv => by
  simp only [List.all_cons, Bool.and_eq_true] at h
  have hc : 48 ≤ c.toNat ∧ c.toNat ≤ 57 := by
   have := h.1
   unfold isD at this
   simpa using this
  have e : valF a (c :: l) = valF (a * 10 + (c.toNat - 48)) l := rfl
  rw [e] at hv ⊢
  have h3 := valF_lin l (a * 10 + (c.toNat - 48))
  have hp : 1 ≤ 10 ^ l.length := Nat.one_le_pow _ _ (by omega)
  have h4 : a * 10 + (c.toNat - 48) ≤ (a * 10 + (c.toNat - 48)) * 10 ^ l.length := Nat.le_mul_of_pos_right _ hp
  unfold Lib.parseUint10
  rw [if_pos hc, if_neg (by omega), if_neg (by omega)]
  exact pu_ok l _ h.2 hv
theorem pu_any : ∀ (l : List UInt8) (a : Nat), l.all isD = true → (∃ r, Lib.parseUint10 a l = .ok r) ∨ Lib.parseUint10 a l = .range
 | [], a, _ => Or.inl ⟨_, rfl⟩
 | c :: l, a, h => by
  simp only [List.all_cons, Bool.and_eq_true] at h
  have hc : 48 ≤ c.toNat ∧ c.toNat ≤ 57 := by
   have := h.1
   unfold isD at this
   simpa using this
  unfold Lib.parseUint10
  rw [if_pos hc]
  split
  ·exact Or.inr rfl
  ·split
   ·exact Or.inr rfl
   ·exact pu_any l _ h.2
theorem atoi_cons (c : UInt8) (l : List UInt8) (h : (c :: l).all isD = true) : (∀ u, Lib.parseUint10 0 (c :: l) = .ok u → Lib.atoiAll (c :: l) = if 9223372036854775808 ≤ u then .range else .ok (u : Int)) ∧ (Lib.parseUint10 0 (c :: l) = .range → Lib.atoiAll (c :: l) = .range) := by
 have hc : 48 ≤ c.toNat ∧ c.toNat ≤ 57 := by
  simp only [List.all_cons, Bool.and_eq_true] at h
  have := h.1
  unfold isD at this
  simpa using this
 unfold Lib.atoiAll
 simp only
 rw [if_neg (show ¬ (c.toNat = 43 ∨ c.toNat = 45) by omega)]
 unfold Lib.parseMag
 rw [if_neg (by simp)]
 have h45 : ¬ c.toNat = 45 := by omega
 refine ⟨fun u e => ?_, fun e => ?_⟩
 ·rw [e]
  simp [h45]
 ·rw [e]
theorem atoi_any (c : UInt8) (l : List UInt8) (h : (c :: l).all isD = true) : (∃ v, Lib.atoiAll (c :: l) = .ok v) ∨ Lib.atoiAll (c :: l) = .range := by
 rcases pu_any (c :: l) 0 h with ⟨r, e⟩ | e
 ·rw [(atoi_cons c l h).1 r e]
  split
  ·exact Or.inr rfl
  ·exact Or.inl ⟨_, rfl⟩
 ·rw [(atoi_cons c l h).2 e]
  exact Or.inr rfl
theorem atoi_small (c : UInt8) (l : List UInt8) (h : (c :: l).all isD = true) (hl : (c :: l).length ≤ 3) : Lib.atoiAll (c :: l) = .ok (valN (c :: l) : Int) := by
 have h1 := valN_lt (c :: l) h
 have h2 : 10 ^ (c :: l).length ≤ 10 ^ 3 := Nat.pow_le_pow_right (by omega) hl
 have h3 : valN (c :: l) < 1000 := by omega
 rw [(atoi_cons c l h).1 _ (pu_ok (c :: l) 0 h (by unfold valN at h3; omega))]
 rw [if_neg (by unfold valN at h3; omega)]
 rfl
def durO (d : List UInt8) (n : Nat) : Out := match durS d with | some t => (3, 0, ⟨#[]⟩, false, 0, (t : Int), ((n + 1 : Nat) : Int)) | none => zeroO
theorem duration_eq (l : List UInt8) (hl : l.length ≤ 700) (h1 : l.takeWhile isD ≠ []) : lex_duration.f ⟨l.toArray⟩ ((l.takeWhile isD).length : Int) = some (durO (l.takeWhile isD) (l.takeWhile isD).length) := by
 have hle := tw_le (p := isD) l
 have hall := tw_D l
 obtain ⟨c, d, hd⟩ : ∃ c d, l.takeWhile isD = c :: d := by
  cases e : l.takeWhile isD with
  | nil => exact absurd e h1
  | cons c d => exact ⟨c, d, rfl⟩
 have hl0 : 0 < l.length := by rw [hd, List.length_cons] at hle; omega
 have hc0 : l[0] = c := by
  cases l with
  | nil => simp at hl0
  | cons b r =>
   rw [List.takeWhile_cons] at hd
   split at hd
   ·exact (List.cons.inj hd).1
   ·simp at hd
 have hbt : bt ⟨l.toArray⟩ 0 = (c.toNat : Int) := by
  have := bt_list l 0 hl0
  rw [hc0] at this
  exact this
 unfold lex_duration.f
 rw [size_list, if_pos ⟨by omega, by omega, hl0, by omega⟩, Int.toNat_natCast, ext_take, take_tw, hbt]
 show (match Lib.atoiAll (l.takeWhile isD) with | .ok v => _ | .range => _ | _ => _) = _
 generalize hW : l.takeWhile isD = W at *
 subst hd
 have hw : wrap64 (((c :: d).length : Int) + 1) = (((c :: d).length + 1 : Nat) : Int) := by
  unfold wrap64
  omega
 unfold durO durS
 by_cases h3 : (c :: d).length ≤ 3
 ·rw [atoi_small c d hall h3]
  simp only
  generalize hv : valN (c :: d) = v
  rw [List.head?_cons]
  by_cases h4 : c = 48
  ·rw [if_pos, if_neg]
   ·rfl
   ·rintro ⟨_, h, _⟩
    exact h (by rw [h4])
   ·exact Or.inr (Or.inl (by rw [h4]; rfl))
  ·have h4' : ¬ (c.toNat : Int) = 48 := by
    intro e
    apply h4
    apply UInt8.toNat_inj.1
    show c.toNat = 48
    omega
   by_cases h5 : 1 ≤ v ∧ v ≤ 100
   ·rw [if_neg, if_pos]
    ·rw [hw]
    ·exact ⟨h3, by simpa using h4, h5.1, h5.2⟩
    ·rintro (h | h | h | h)
     ·omega
     ·exact h4' h
     ·omega
     ·omega
   ·rw [if_pos, if_neg]
    ·rfl
    ·rintro ⟨_, _, h⟩
     exact h5 h
    ·by_cases h6 : 1 ≤ v
     ·exact Or.inr (Or.inr (Or.inr (by omega)))
     ·exact Or.inr (Or.inr (Or.inl (by omega)))
 ·rw [if_neg (fun h => h3 h.1)]
  rcases atoi_any c d hall with ⟨v, e⟩ | e
  ·rw [e]
   simp only
   rw [if_pos (show durBad _ _ _ from Or.inl (by omega))]
   rfl
  ·rw [e]
   rfl
theorem ne_int (c : UInt8) (n : Nat) (hn : n < 256) (h : c ≠ UInt8.ofNat n) : ¬ (c.toNat : Int) = (n : Int) := fun e => h ((Print.toNat_is c n hn).1 e)
theorem eq_int (c : UInt8) (n : Nat) (hn : n < 256) (h : c = UInt8.ofNat n) : (c.toNat : Int) = (n : Int) := (Print.toNat_is c n hn).2 h
end Go.Proofs.YtnjobjogddjelaaGreatDoor.PureN
end

section
namespace Go.Proofs.YtnjobjogddjelaaGreatDoor.PureN
open Go.RowKit Go.Proofs.YtnjobjogddjelaaGreatDoor.Print Go.Proofs.YtnjobjogddjelaaGreatDoor.Pure Go.Proofs.YtnjobjogddjelaaGreatDoorW.PrintWords Go.Proofs.YtnjobjogddjelaaGreatDoorW.PrintLast Go.Proofs.YtnjobjogddjelaaGreatDoorW.PrintMore

/-! Numbers. -/
theorem w2 (a b : Nat) (h : a + b ≤ 100000) : wrap64 ((a : Int) + wrap64 (1 + (b : Int))) = ((a + (1 + b) : Nat) : Int) := by
 have e : wrap64 (1 + (b : Int)) = ((1 + b : Nat) : Int) := by unfold wrap64; omega
 rw [e]
 clear e
 unfold wrap64
 omega
def numO (l : List UInt8) (n : Nat) : Out := match rdNum (l.take n) with | some v => (2, 0, ⟨#[]⟩, false, v, 0, (n : Int)) | none => zeroO
theorem numP (l : List UInt8) (n : Nat) : (if (parseS (l.take n)).2.2 = 0 then (if (parseS (l.take n)).1 = true then (some zeroO) else (some ((2, 0, (⟨#[]⟩ : ByteArray), (parseS (l.take n)).1, (parseS (l.take n)).2.1, 0, (n : Int)) : Out))) else (some zeroO)) = some (numO l n) := by
 unfold numO rdNum
 generalize parseS (l.take n) = p
 obtain ⟨a, v, e⟩ := p
 simp only
 by_cases he : e = 0
 ·rw [if_pos he]
  cases a
  ·rw [if_neg (by simp), if_pos ⟨he, rfl⟩]
  ·rw [if_pos rfl, if_neg (by simp)]
 ·rw [if_neg he, if_neg (fun h => he h.1)]
theorem num_at (l : List UInt8) (n k : Nat) (hl : l.length ≤ 620) (hn : n ≤ l.length) (hk : 1200 < k) :
  ((fix_Parse.f k ((⟨l.toArray⟩ : ByteArray).extract 0 (n : Int).toNat)).bind fun bt147 => (if bt147.2.2 = 0 then (if bt147.1 = true then (some zeroO) else (some ((2, 0, (⟨#[]⟩ : ByteArray), bt147.1, bt147.2.1, 0, (n : Int)) : Out))) else (some zeroO))) = some (numO l n) := by
 rw [Int.toNat_natCast, ext_take, fixparse_eq k (l.take n) hk (by rw [List.length_take]; omega), Option.bind_some]
 exact numP l n
theorem number_eq (l : List UInt8) (k : Nat) (hl : l.length ≤ 600) (hk : 1210 < k) (h1 : l.takeWhile isD ≠ []) : lex_number.f k ⟨l.toArray⟩ = some (outR (readNum l)) := by
 obtain ⟨k2, rfl⟩ : ∃ m, k = m + 1 + 1 := ⟨k - 2, by omega⟩
 have hw := tw_le (p := isD) l
 have hs := List.takeWhile_append_dropWhile (p := isD) (l := l)
 have hlen := congrArg List.length hs
 rw [List.length_append] at hlen
 unfold lex_number.f readNum
 rw [many25_eq l (k2 + 1 + 1) (by omega) (by omega), Option.bind_some, size_list]
 cases hr : l.dropWhile isD with
 | nil =>
  rw [hr, List.length_nil] at hlen
  rw [if_neg (by omega), List.head?_nil, if_neg (by simp)]
  have hp : numLen l = (l.takeWhile isD).length := by unfold numLen; rw [hr]; rfl
  rw [hp]
  rw [lex_number.j0, if_neg (by simp), size_list, if_neg (by omega)]
  rw [lex_number.j1, if_neg (by simp), size_list, if_pos (by omega), if_pos (by omega)]
  refine (num_at l _ k2 (by omega) hw (by omega)).trans ?_
  unfold numO
  cases rdNum (l.take (l.takeWhile isD).length) <;> rfl
 | cons c r =>
  rw [hr, List.length_cons] at hlen
  have hlt : (l.takeWhile isD).length < l.length := by omega
  have hat : l[(l.takeWhile isD).length] = c := by
   have : (l.takeWhile isD ++ l.dropWhile isD)[(l.takeWhile isD).length]'(by rw [hs]; exact hlt) = c := by
    rw [List.getElem_append_right (Nat.le_refl _)]
    simp [hr]
   simpa [hs] using this
  have hbt := bt_list l _ hlt
  rw [hat] at hbt
  have hdrop : l.drop ((l.takeWhile isD).length + 1) = r := by
   have := congrArg (List.drop ((l.takeWhile isD).length + 1)) hs
   rw [List.drop_append, List.drop_eq_nil_of_le (by omega), List.nil_append, hr, show (l.takeWhile isD).length + 1 - (l.takeWhile isD).length = 1 by omega] at this
   exact this.symm
  rw [if_pos (by omega), if_pos (by omega), hbt, List.head?_cons]
  rw [lex_number.j0]
  by_cases h116 : c = 116
  ·rw [if_pos (by rw [h116]; rfl), if_pos (by rw [h116]), duration_eq l (by omega) h1, Option.bind_some]
   unfold durO
   cases durS (l.takeWhile isD) <;> rfl
  ·have hb : (((c.toNat : Int)) == 116) = false := beq_eq_false_iff_ne.mpr (fun e => h116 ((Print.toNat_is c 116 (by omega)).1 e))
   rw [hb, if_neg (by simp), size_list, if_pos (by omega), if_pos (by omega), hbt, if_neg (by simpa using h116)]
   rw [lex_number.j1]
   have hp : numLen l = (l.takeWhile isD).length + part (c :: r) := by unfold numLen; rw [hr]
   by_cases h46 : c = 46
   ·have hb2 : (((c.toNat : Int)) == 46) = true := by rw [h46]; rfl
    rw [if_pos hb2, w1 _ (by omega), if_pos (by omega), size_list, if_pos (by omega), Int.toNat_natCast]
    have he : (⟨l.toArray⟩ : ByteArray).extract ((l.takeWhile isD).length + 1) l.length = ⟨r.toArray⟩ := by rw [extract_list, hdrop]
    rw [he, many25_eq r k2 (by omega) (by omega), Option.bind_some]
    have hr2 := tw_le (p := isD) r
    by_cases hz : (r.takeWhile isD).length = 0
    ·have hpart : part (c :: r) = 0 := by rw [part, if_neg (fun h => h.2 hz)]
     rw [if_neg (by omega), if_pos (by omega), if_pos (by omega), hp, hpart, Nat.add_zero]
     refine (num_at l _ k2 (by omega) hw (by omega)).trans ?_
     unfold numO
     cases rdNum (l.take (l.takeWhile isD).length) <;> rfl
    ·have hpart : part (c :: r) = 1 + (r.takeWhile isD).length := by rw [part, if_pos ⟨h46, hz⟩]
     have hw2 : wrap64 (((l.takeWhile isD).length : Int) + wrap64 (1 + ((r.takeWhile isD).length : Int))) = (((l.takeWhile isD).length + (1 + (r.takeWhile isD).length) : Nat) : Int) := w2 _ _ (by omega)
     rw [if_pos (by omega), hw2, if_pos (by omega), if_pos (by omega), hp, hpart]
     refine (num_at l _ k2 (by omega) (by omega) (by omega)).trans ?_
     unfold numO
     cases rdNum (l.take ((l.takeWhile isD).length + (1 + (r.takeWhile isD).length))) <;> rfl
   ·have hb2 : (((c.toNat : Int)) == 46) = false := beq_eq_false_iff_ne.mpr (fun e => h46 ((Print.toNat_is c 46 (by omega)).1 e))
    have hpart : part (c :: r) = 0 := by rw [part, if_neg (fun h => h46 h.1)]
    rw [hb2, if_neg (by simp), size_list, if_pos (by omega), if_pos (by omega), hp, hpart, Nat.add_zero]
    refine (num_at l _ k2 (by omega) hw (by omega)).trans ?_
    unfold numO
    cases rdNum (l.take (l.takeWhile isD).length) <;> rfl
end Go.Proofs.YtnjobjogddjelaaGreatDoor.PureN
end

section
namespace Go.Proofs.YtnjobjogddjelaaGreatDoor.PureN
open Go.RowKit Go.Proofs.YtnjobjogddjelaaGreatDoor.Print Go.Proofs.YtnjobjogddjelaaGreatDoor.Pure Go.Proofs.YtnjobjogddjelaaGreatDoorW.PrintWords Go.Proofs.YtnjobjogddjelaaGreatDoorW.PrintLast Go.Proofs.YtnjobjogddjelaaGreatDoorW.PrintMore

/-! Texts, signs, the whole. -/
theorem ib_mem (c : UInt8) : ∀ l : List UInt8, 0 ≤ Lib.indexByte l c ↔ c ∈ l
 | [] => by simp [Lib.indexByte]
 | b :: l => by
  have ih := ib_mem c l
  have hge := Lib.indexByte_ge l c
  unfold Lib.indexByte
  by_cases h : b = c
  ·rw [if_pos (beq_iff_eq.2 h)]
   simp [h]
  ·rw [if_neg (by simpa using h), List.mem_cons, ← ih]
   have h' : ¬ c = b := fun e => h e.symm
   simp only [h', false_or]
   split
   ·rename_i e
    have : Lib.indexByte l c = -1 := by simpa using e
    rw [this]
   ·rename_i e
    have : ¬ Lib.indexByte l c = -1 := by simpa using e
    omega
theorem ib_eq (l : List UInt8) (c : UInt8) : strings_IndexByte.f ⟨l.toArray⟩ (c.toNat : Int) = some (Lib.indexByte l c) := by
 unfold strings_IndexByte.f
 rw [Int.toNat_natCast]
 congr 2
 simp
theorem text_eq (r : List UInt8) (hl : (34 :: r).length ≤ 700) : lex_text.f ⟨(34 :: r).toArray⟩ = some (outR (readText r)) := by
 have hu : unqR ⟨(34 :: r).toArray⟩ = fin ⟨(34 :: r).toArray⟩ [] r := by
  unfold unqR
  simp
 unfold lex_text.f label_Unquote.f readText
 rw [if_pos (by show (34 :: r).length ≤ _; omega), Option.bind_some, hu]
 unfold fin
 cases e : unq r with
 | none => rfl
 | some y =>
  obtain ⟨v, n⟩ := y
  have hy := unq_take r v n e
  simp only [List.nil_append, if_true]
  rw [size_list]
  by_cases h30 : v.length ≤ 30
  ·rw [if_neg (by omega)]
   have h10 := ib_eq v 10
   rw [show (((10 : UInt8).toNat : Nat) : Int) = 10 from rfl] at h10
   rw [h10, Option.bind_some]
   have hm := ib_mem 10 v
   by_cases hin : (10 : UInt8) ∈ v
   ·rw [if_pos (hm.2 hin), if_neg (fun h => h.2 hin)]
    rfl
   ·rw [if_neg (fun h => hin (hm.1 h)), if_pos ⟨h30, hin⟩, size_list, size_list, List.length_drop, List.length_cons]
    rw [List.length_cons] at hl
    have : wrap64 (((r.length + 1 : Nat) : Int) - ((r.length - n : Nat) : Int)) = ((n + 1 : Nat) : Int) := by
     have := hy.2.2
     unfold wrap64
     omega
    rw [this]
    rfl
  ·rw [if_pos (by omega), if_neg (fun h => h30 h.1)]
   rfl
theorem sign_eq (c : UInt8) (r : List UInt8) (k : Nat) (hl : (c :: r).length ≤ 700) (hk : 1 < k) : lex_sign.f k ⟨(c :: r).toArray⟩ = some (outR (readSign (c :: r))) := by
 obtain ⟨k, rfl⟩ : ∃ m, k = m + 1 := ⟨k - 1, by omega⟩
 have hb0 : bt ⟨(c :: r).toArray⟩ 0 = (c.toNat : Int) := bt_list (c :: r) 0 (by simp)
 have h1 := ib_eq ones c
 have h2 := ib_eq twos c
 have m1 := ib_mem c ones
 have m2 := ib_mem c twos
 have hx : ∀ l : List UInt8, (⟨l.toArray⟩ : ByteArray).extract 0 1 = ⟨(l.take 1).toArray⟩ := fun l => ext_take l 1
 have hx2 : ∀ l : List UInt8, (⟨l.toArray⟩ : ByteArray).extract 0 2 = ⟨(l.take 2).toArray⟩ := fun l => ext_take l 2
 have hj : ∀ b, lex_sign.j0 (k + 1) ⟨(c :: r).toArray⟩ 0 b = some (if b = true ∧ 2 ≤ (c :: r).length then ((5, 0, ⟨((c :: r).take 2).toArray⟩, false, 0, 0, 2) : Out) else if b = true then zeroO else if c ∈ ones then ((5, 0, ⟨((c :: r).take 1).toArray⟩, false, 0, 0, 1) : Out) else zeroO) ∨ (b = true ∧ ¬ 2 ≤ (c :: r).length) := by
  intro b
  rw [lex_sign.j0]
  cases b
  ·left
   rw [if_neg (by simp), size_list, if_pos (by rw [List.length_cons]; omega), hb0]
   have h1' : strings_IndexByte.f (⟨#[40, 41, 123, 125, 91, 93, 44, 43, 45, 42, 47, 61, 62, 60]⟩ : ByteArray) (c.toNat : Int) = some (Lib.indexByte ones c) := h1
   rw [h1', Option.bind_some]
   by_cases hin : c ∈ ones
   ·rw [if_pos (m1.2 hin), if_neg (by omega), if_pos (by omega), if_pos (by rw [List.length_cons]; omega), hx, if_neg (by simp), if_neg (by simp), if_pos hin]
   ·rw [if_neg (fun h => hin (m1.1 h)), if_pos rfl, if_neg (by simp), if_neg (by simp), if_neg hin]
    rfl
  ·by_cases h : 2 ≤ (c :: r).length
   ·left
    rw [if_pos rfl, if_neg (by omega), if_pos (by omega), size_list, if_pos (by omega), if_pos ⟨rfl, h⟩, hx2]
   ·exact Or.inr ⟨rfl, h⟩
 unfold lex_sign.f readSign
 rw [size_list]
 cases r with
 | nil =>
  have hj0 := (hj false).resolve_right (by simp)
  rw [if_neg (by simp), hj0]
  unfold signLen
  simp only [Bool.false_eq_true, false_and, if_false, List.head?_nil, reduceCtorEq]
  by_cases hin : c ∈ ones
  ·rw [if_pos hin, if_pos hin, if_neg (by omega)]
   rfl
  ·rw [if_neg hin, if_neg hin, if_pos rfl]
   rfl
 | cons d r =>
  have hb1 : bt ⟨(c :: d :: r).toArray⟩ 1 = (d.toNat : Int) := bt_list (c :: d :: r) 1 (by simp)
  have hlen : 2 ≤ (c :: d :: r).length := by simp
  rw [if_pos (by simp only [List.length_cons]; omega), if_pos (by simp only [List.length_cons]; omega), hb1]
  have h2' : strings_IndexByte.f (⟨#[94, 42, 33, 61, 62, 60]⟩ : ByteArray) (c.toNat : Int) = some (Lib.indexByte twos c) := h2
  have hj0 := (hj false).resolve_right (by simp)
  have hj1 := (hj true).resolve_right (fun h => h.2 hlen)
  simp only [Bool.false_eq_true, false_and, if_false] at hj0
  simp only [true_and] at hj1
  rw [if_pos hlen] at hj1
  have fin1 : (some (if c ∈ ones then ((5, 0, ⟨((c :: d :: r).take 1).toArray⟩, false, 0, 0, 1) : Out) else zeroO)) = some (outR (if (if c ∈ ones then 1 else 0) = 0 then none else some (⟨5, 0, (c :: d :: r).take (if c ∈ ones then 1 else 0), 0, 0⟩, (if c ∈ ones then 1 else 0)))) := by
   by_cases hin : c ∈ ones
   ·rw [if_pos hin, if_pos hin, if_neg (by omega)]
    rfl
   ·rw [if_neg hin, if_neg hin, if_pos rfl]
    rfl
  unfold signLen
  simp only [List.head?_cons, Option.some.injEq]
  by_cases h61 : d = 61
  ·rw [if_pos (by rw [h61]; rfl), if_pos (by simp only [List.length_cons]; omega), hb0, h2', Option.bind_some]
   by_cases hin2 : c ∈ twos
   ·have hs2 : (if d = 61 ∧ c ∈ twos then 2 else if c ∈ ones then 1 else 0) = 2 := if_pos ⟨h61, hin2⟩
    rw [decide_eq_true (m2.2 hin2), hj1, hs2]
    rfl
   ·have hs2 : (if d = 61 ∧ c ∈ twos then 2 else if c ∈ ones then 1 else 0) = (if c ∈ ones then 1 else 0) := if_neg (fun h => hin2 h.2)
    rw [decide_eq_false (fun h => hin2 (m2.1 h)), hj0, hs2]
    exact fin1
  ·have hs2 : (if d = 61 ∧ c ∈ twos then 2 else if c ∈ ones then 1 else 0) = (if c ∈ ones then 1 else 0) := if_neg (fun h => h61 h.1)
   have hne : ¬ (d.toNat : Int) = 61 := fun e => h61 ((Print.toNat_is d 61 (by omega)).1 e)
   rw [if_neg hne, hj0, hs2]
   exact fin1
theorem read_eq (c : UInt8) (r : List UInt8) (k : Nat) (hl : (c :: r).length ≤ 600) (hk : 1210 < k) : lex_read.f k ⟨(c :: r).toArray⟩ = some (outR (readS (c :: r))) := by
 have hb0 : bt ⟨(c :: r).toArray⟩ 0 = (c.toNat : Int) := bt_list (c :: r) 0 (by simp)
 have eta : ∀ x : Out, (some ((x.1, x.2.1, x.2.2.1, x.2.2.2.1, x.2.2.2.2.1, x.2.2.2.2.2.1, x.2.2.2.2.2.2) : Out)) = some x := fun x => rfl
 unfold lex_read.f
 rw [size_list, if_pos (by rw [List.length_cons]; omega), hb0, letter_eq, Option.bind_some, readS]
 cases h1 : isL c
 ·simp only [Bool.false_eq_true, if_false]
  rw [digit_eq, Option.bind_some]
  cases h2 : isD c
  ·simp only [Bool.false_eq_true, if_false]
   by_cases h3 : c = 34
   ·rw [if_pos (by rw [h3]; rfl), if_pos h3]
    subst h3
    rw [text_eq r (by omega), Option.bind_some]
   ·have hne : ¬ (c.toNat : Int) = 34 := fun e => h3 ((Print.toNat_is c 34 (by omega)).1 e)
    rw [if_neg hne, if_neg h3, sign_eq c r k (by omega) (by omega), Option.bind_some]
  ·simp only [if_true]
   rw [number_eq (c :: r) k hl hk (by rw [List.takeWhile_cons, if_pos h2]; simp), Option.bind_some]
 ·simp only [if_true]
  rw [ident_eq (c :: r) k (by omega) (by omega), Option.bind_some]
/-! The scan. -/
theorem w_nat (a b : Nat) (h : a + b ≤ 100000) : wrap64 ((a : Int) + (b : Int)) = ((a + b : Nat) : Int) := by
 unfold wrap64
 omega
def toS (t : Tok) : S36 := ⟨t.kind, t.place, ⟨t.text.toArray⟩, ⟨false, t.v⟩, t.n⟩
def scanO (acc : List S36) : Except Nat (List Tok) → List S36 × Int × Int
 | .ok ts => (acc ++ ts.map toS, 0, 0)
 | .error j => ([], (j : Int), 70)
theorem blank_eq (c : UInt8) : ((decide ((c.toNat : Int) = 32)) || ((c.toNat : Int) == 9)) = blank c := of_decide_eq_true (u8_dec (fun c => decide (((decide ((c.toNat : Int) = 32)) || ((c.toNat : Int) == 9)) = blank c)) (by decide +kernel) c)
theorem scan_l0 (l : List UInt8) (hl : l.length ≤ 600) : ∀ (d k i : Nat) (acc : List S36), l.length - i ≤ d → i ≤ l.length → 2 * d + 1300 < k → acc.length ≤ i →
  lex_Scan.l0 k ⟨l.toArray⟩ acc (i : Int) = some (scanO acc (scanS i (l.drop i))) := by
 intro d
 induction d with
 | zero =>
  intro k i acc h1 h2 hk ha
  obtain ⟨k, rfl⟩ : ∃ m, k = m + 1 := ⟨k - 1, by omega⟩
  rw [lex_Scan.l0, size_list, if_neg (by omega), if_pos (by omega), List.drop_eq_nil_of_le (by omega), scanS_nil]
  have : i = l.length := by omega
  rw [← this]
  rfl
 | succ d ih =>
  intro k i acc h1 h2 hk ha
  by_cases hi : i < l.length
  ·obtain ⟨k, rfl⟩ : ∃ m, k = m + 1 + 1 := ⟨k - 2, by omega⟩
   have hd := drop_cons l i hi
   have hbt := bt_list l i hi
   rw [lex_Scan.l0, size_list, if_pos (by omega), if_pos (by omega), hbt]
   generalize l[i] = c at hd hbt ⊢
   have hb := blank_eq c
   have hstep : (if (c.toNat : Int) = 32 then lex_Scan.j1 (k + 1) ⟨l.toArray⟩ acc (i : Int) true else lex_Scan.j1 (k + 1) ⟨l.toArray⟩ acc (i : Int) ((c.toNat : Int) == 9)) = lex_Scan.j1 (k + 1) ⟨l.toArray⟩ acc (i : Int) (blank c) := by
    rw [← hb]
    by_cases h32 : (c.toNat : Int) = 32
    ·rw [if_pos h32, decide_eq_true h32]
     rfl
    ·rw [if_neg h32, decide_eq_false h32]
     rfl
   rw [hstep, hd, lex_Scan.j1]
   cases hbl : blank c
   ·rw [if_neg (by simp), if_pos (by omega), size_list, if_pos (by omega), Int.toNat_natCast, extract_list, hd]
    have hlen : (c :: l.drop (i + 1)).length = l.length - i := by rw [← hd, List.length_drop]
    rw [read_eq c _ k (by rw [hlen]; omega) (by omega), Option.bind_some]
    cases hr : readS (c :: l.drop (i + 1)) with
    | none =>
     rw [scanS_bad i c _ hbl hr]
     rfl
    | some x =>
     have hp := readS_pos _ x hr
     rw [hlen] at hp
     rw [scanS_good i c _ x hr]
     show (if (x.2 : Int) = 0 then _ else _) = _
     rw [if_neg (by omega), if_pos (by omega)]
     show lex_Scan.l0 k ⟨l.toArray⟩ (acc ++ [toS { x.1 with place := (i : Int) }]) (wrap64 ((i : Int) + (x.2 : Int))) = _
     have hw : wrap64 ((i : Int) + (x.2 : Int)) = ((i + x.2 : Nat) : Int) := w_nat _ _ (by omega)
     clear hstep hb hbl hr hbt
     rw [hw, ih k (i + x.2) _ (by omega) (by omega) (by omega) (by rw [List.length_append, List.length_singleton]; omega), List.drop_drop]
     rw [show i + 1 + (x.2 - 1) = i + x.2 by omega]
     cases scanS (i + x.2) (l.drop (i + x.2)) with
     | error j => rfl
     | ok ts =>
      unfold scanO
      simp
   ·rw [if_pos rfl, w1 i (by omega), ih k (i + 1) acc (by omega) (by omega) (by omega) (by omega), scanS_blank i c _ hbl]
  ·obtain ⟨k, rfl⟩ : ∃ m, k = m + 1 := ⟨k - 1, by omega⟩
   rw [lex_Scan.l0, size_list, if_neg (by omega), if_pos (by omega), List.drop_eq_nil_of_le (by omega), scanS_nil]
   have : i = l.length := by omega
   rw [← this]
   rfl
/-- The whole: signs, or where it stops; too long. -/
def scanW (l : List UInt8) : List S36 × Int × Int := if 600 < l.length then ([], 0, 11) else scanO [] (scanS 0 l)
theorem lexscan_eq (l : List UInt8) (k : Nat) (hk : 3000 < k) : lex_Scan.f k ⟨l.toArray⟩ = some (scanW l) := by
 unfold lex_Scan.f scanW
 rw [size_list]
 by_cases h : 600 < l.length
 ·rw [if_pos (by omega), if_pos h]
 ·rw [if_neg (by omega), if_neg h]
  exact scan_l0 l (by omega) l.length k 0 [] (by omega) (by omega) (by omega) (by simp)
end Go.Proofs.YtnjobjogddjelaaGreatDoor.PureN
end

section
namespace Go.Proofs.YtnjobjogddjelaaGreatDoor.Print
open Go.RowKit Go.Proofs.YtnjobjogddjelaaGreatDoorX Go.Proofs.YtnjobjogddjelaaGreatDoorW.PrintWords Go.Proofs.YtnjobjogddjelaaGreatDoorW.PrintLast Go.Proofs.YtnjobjogddjelaaGreatDoorW.PrintMore
attribute [local go_sem] max2_int min2_int max_two min_two max_three min_three max_four min_four

/-! ### lex_one: function 20 -/
def lex_one.f (a0_0 : Int) (a0_1 : Int) (a0_2 : ByteArray) (a0_3 : Bool) (a0_4 : Int) (a0_5 : Int) : Option (ByteArray) := if a0_0 = 2 then ((fix_Print.f a0_3 a0_4).bind fun t216 => (some t216)) else (if a0_0 = 3 then ((strconv_Itoa.f (mx a0_5 0)).bind fun t217 => (if t217.size + 1 ≤ 9223372036854775807 then (some (t217 ++ (⟨#[116]⟩ : ByteArray))) else (none))) else (if a0_0 = 4 then ((label_Quote.f a0_2).bind fun t218 => (some t218)) else (if a0_0 = 1 then (some a0_2) else (if a0_0 = 5 then (some a0_2) else (some (⟨#[]⟩ : ByteArray))))))
set_option maxHeartbeats 8000000 in
set_option maxRecDepth 100000 in
theorem lex_one.calls (a0_0 : Int) (a0_1 : Int) (a0_2 : ByteArray) (a0_3 : Bool) (a0_4 : Int) (a0_5 : Int) (r : ByteArray) (w : World) (hg_ : LaidW w) (h : lex_one.f a0_0 a0_1 a0_2 a0_3 a0_4 a0_5 = some r) :
  Calls Tryz.prog 20 #[.agg #[.int .i64 a0_0, .int .i64 a0_1, .string a0_2, .bool a0_3, .int .i64 a0_4, .int .i64 a0_5]] w fun e w' => e = .returned (.string r) ∧ Below w.heap.size w w' := by
 have HLW := Aside0.mk hg_
 clear hg_
 have hu36 := Tryz.underlying36
 have hu34 := Tryz.underlying34
 have HB := Aside0.mk (Below.refl w.heap.size w)
 have H : (if a0_0 = 2 then ((fix_Print.f a0_3 a0_4).bind fun t216 => (some t216)) else (if a0_0 = 3 then ((strconv_Itoa.f (mx a0_5 0)).bind fun t217 => (if t217.size + 1 ≤ 9223372036854775807 then (some (t217 ++ (⟨#[116]⟩ : ByteArray))) else (none))) else (if a0_0 = 4 then ((label_Quote.f a0_2).bind fun t218 => (some t218)) else (if a0_0 = 1 then (some a0_2) else (if a0_0 = 5 then (some a0_2) else (some (⟨#[]⟩ : ByteArray))))))) = some r := h
 clear h
 by_cases c2 : a0_0 = 2
 ·rw [if_pos c2] at H
  have c2b0 : (a0_0 == 2) = true := beq_iff_eq.mpr c2
  have c2b1 : (a0_0 != 2) = false := bne_eq_false_iff_eq.mpr c2
  clear c2
  replace H := Option.bind_eq_some_iff.mp H
  obtain ⟨t216, A30, H⟩ := H
  replace H : (some t216) = some r := H
  have A3 := Aside0.mk A30
  clear A30
  obtain rfl := Option.some.inj H
  go_enter Tryz.func20, Tryz.ntmps20
  go_wp2_with (first | ((with_reducible refine gate_dst (N := 1) rfl ?_); refine box_event ?hg (N := 1) ?hd (cs := #[.int .i64 a0_0, .int .i64 a0_1, .string a0_2, .bool a0_3, .int .i64 a0_4, .int .i64 a0_5]) (t := 36) ?hr ?_; (case hd => rfl); (case hg => rfl); (case hr => first | (go_simp; done) | (go_simp; rfl)); intro gb215 hg w4 hbox hb; have n0_ := Aside0.mk (below_step (by repeat (first | (with_reducible first | exact HB.out | apply below_alloc | apply pw_below_drewN | apply below_drew1) | exact HB.out)) hb); have n1_ := Aside0.mk (hbox); have n2_ := Aside0.mk ((by rw [hg]; exact (below_size (by repeat (first | (with_reducible first | exact HB.out | apply below_alloc | apply pw_below_drewN | apply below_drew1) | exact HB.out))) : w.heap.size ≤ gb215)); have n3_ := Aside0.mk ((by rw [hg]; exact (below_size (by repeat (first | (with_reducible first | exact HB.out | apply below_alloc | apply pw_below_drewN | apply below_drew1) | exact HB.out))) : w.heap.size ≤ gb215)); clear HB; have HB := n0_; have BK215 := n1_; have GW215 := n2_; have GE215 := n3_; clear n0_ n1_ n2_ n3_; clear hb hbox hg; have hcz5_0 : w4.cell? ⟨gb215, 0, none⟩ = some (.int .i64 a0_0) := (blk_cell BK215.out 0).trans rfl; have hcz5_1 : w4.cell? ⟨gb215, 1, none⟩ = some (.int .i64 a0_1) := (blk_cell BK215.out 1).trans rfl; have hcz5_2 : w4.cell? ⟨gb215, 2, none⟩ = some (.string a0_2) := (blk_cell BK215.out 2).trans rfl; have hcz5_3 : w4.cell? ⟨gb215, 3, none⟩ = some (.bool a0_3) := (blk_cell BK215.out 3).trans rfl; have hcz5_4 : w4.cell? ⟨gb215, 4, none⟩ = some (.int .i64 a0_4) := (blk_cell BK215.out 4).trans rfl; have hcz5_5 : w4.cell? ⟨gb215, 5, none⟩ = some (.int .i64 a0_5) := (blk_cell BK215.out 5).trans rfl; have hfz5_0 := blk_frozen BK215.out 0; have hfz5_1 := blk_frozen BK215.out 1; have hfz5_2 := blk_frozen BK215.out 2; have hfz5_3 := blk_frozen BK215.out 3; have hfz5_4 := blk_frozen BK215.out 4; have hfz5_5 := blk_frozen BK215.out 5) | ((with_reducible refine gate_callee (f := 33) rfl ?_); refine goesL_ (some 9) rfl rfl Tryz.func33 (by kernel_rfl) rfl #[.agg #[.bool a0_3, .int .i64 a0_4]] rfl (by (try simp only [List.map_toArray, List.map_cons, List.map_nil]); first | done | rfl | (simp only [List.length_drop, List.length_take]; rfl)) ?_; (with_reducible refine (fix_Print.calls a0_3 a0_4 t216 _ ?side1 A3.out).mono ?_); (case side1 => exact LaidW.below HLW.out (by repeat (first | (with_reducible first | exact HB.out | apply below_alloc | apply pw_below_drewN | apply below_drew1) | exact HB.out | (refine below_set ?_ (Aside0.out ?hge); (case hge => assumption))))); rintro e w6 ⟨rfl, hb⟩; refine ⟨_, rfl, ?_⟩; have n0_ := Aside0.mk (blk_below (g := gb215) (o := .cells #[.int .i64 a0_0, .int .i64 a0_1, .string a0_2, .bool a0_3, .int .i64 a0_4, .int .i64 a0_5] 36 (0, 0)) (by (with_reducible repeat (first | refine blk_drewN ?_ _ | refine blk_drew ?_ | refine blk_alloc ?_ _)); exact BK215.out) hb); have n1_ := Aside0.mk (below_step (by repeat (first | (with_reducible first | exact HB.out | apply below_alloc | apply pw_below_drewN | apply below_drew1 | refine below_set ?_ GE215.out) | exact HB.out)) hb); clear BK215; clear HB; have BK215 := n0_; have HB := n1_; clear n0_ n1_; (try clear hb); (try clear hb2); (try clear hk); (try clear hi)))
  go_ret
  exact ⟨by first | rfl | (simp [errW_none, errW_some] <;> rfl) | (simp [*, errW_none, errW_some] <;> rfl), by repeat (first | (with_reducible first | exact HB.out | apply below_alloc | apply pw_below_drewN | apply below_drew1 | refine below_set ?_ GE215.out) | exact HB.out)⟩
 ·rw [if_neg c2] at H
  have c2b0 : (a0_0 == 2) = false := beq_eq_false_iff_ne.mpr c2
  have c2b1 : (a0_0 != 2) = true := bne_iff_ne.mpr c2
  by_cases c7 : a0_0 = 3
  ·rw [if_pos c7] at H
   have c7b0 : (a0_0 == 3) = true := beq_iff_eq.mpr c7
   have c7b1 : (a0_0 != 3) = false := bne_eq_false_iff_eq.mpr c7
   clear c7
   obtain ⟨ji8, hji8⟩ : ∃ j_ : Int, (mx a0_5 0) = j_ := ⟨_, rfl⟩
   replace H : ((strconv_Itoa.f (ji8)).bind fun t217 => (if t217.size + 1 ≤ 9223372036854775807 then (some (t217 ++ (⟨#[116]⟩ : ByteArray))) else (none))) = some r := by first | (rw [hji8] at H; exact H) | (simp only [hji8] at H ⊢; exact H)
   (try (have hji8l : 0 ≤ ji8 := by (rw [← hji8]; unfold mx; (repeat' split) <;> omega)))
   (try (have hji8m : 0 ≤ ji8 := by omega))
   have hji8_ : (if a0_5 < 0 then 0 else a0_5) = ji8 := hji8
   replace H := Option.bind_eq_some_iff.mp H
   obtain ⟨t217, A90, H⟩ := H
   replace H : (if t217.size + 1 ≤ 9223372036854775807 then (some (t217 ++ (⟨#[116]⟩ : ByteArray))) else (none)) = some r := H
   have A9 := Aside0.mk A90
   clear A90
   by_cases c10 : t217.size + 1 ≤ 9223372036854775807
   ·rw [if_pos c10] at H
    have c10b0 := eq_true c10
    have c10b1 : decide (t217.size + 1 ≤ 9223372036854775807) = true := decide_eq_true c10
    try have c10b2 : (9223372036854775807 < t217.size + 1) = False := eq_false (Nat.not_lt.2 c10)
    obtain rfl := Option.some.inj H
    go_enter Tryz.func20, Tryz.ntmps20
    go_wp2_with (first | ((with_reducible refine gate_dst (N := 1) rfl ?_); refine box_event ?hg (N := 1) ?hd (cs := #[.int .i64 a0_0, .int .i64 a0_1, .string a0_2, .bool a0_3, .int .i64 a0_4, .int .i64 a0_5]) (t := 36) ?hr ?_; (case hd => rfl); (case hg => rfl); (case hr => first | (go_simp; done) | (go_simp; rfl)); intro gb215 hg w11 hbox hb; have n0_ := Aside0.mk (below_step (by repeat (first | (with_reducible first | exact HB.out | apply below_alloc | apply pw_below_drewN | apply below_drew1) | exact HB.out)) hb); have n1_ := Aside0.mk (hbox); have n2_ := Aside0.mk ((by rw [hg]; exact (below_size (by repeat (first | (with_reducible first | exact HB.out | apply below_alloc | apply pw_below_drewN | apply below_drew1) | exact HB.out))) : w.heap.size ≤ gb215)); have n3_ := Aside0.mk ((by rw [hg]; exact (below_size (by repeat (first | (with_reducible first | exact HB.out | apply below_alloc | apply pw_below_drewN | apply below_drew1) | exact HB.out))) : w.heap.size ≤ gb215)); clear HB; have HB := n0_; have BK215 := n1_; have GW215 := n2_; have GE215 := n3_; clear n0_ n1_ n2_ n3_; clear hb hbox hg; have hcz12_0 : w11.cell? ⟨gb215, 0, none⟩ = some (.int .i64 a0_0) := (blk_cell BK215.out 0).trans rfl; have hcz12_1 : w11.cell? ⟨gb215, 1, none⟩ = some (.int .i64 a0_1) := (blk_cell BK215.out 1).trans rfl; have hcz12_2 : w11.cell? ⟨gb215, 2, none⟩ = some (.string a0_2) := (blk_cell BK215.out 2).trans rfl; have hcz12_3 : w11.cell? ⟨gb215, 3, none⟩ = some (.bool a0_3) := (blk_cell BK215.out 3).trans rfl; have hcz12_4 : w11.cell? ⟨gb215, 4, none⟩ = some (.int .i64 a0_4) := (blk_cell BK215.out 4).trans rfl; have hcz12_5 : w11.cell? ⟨gb215, 5, none⟩ = some (.int .i64 a0_5) := (blk_cell BK215.out 5).trans rfl; have hfz12_0 := blk_frozen BK215.out 0; have hfz12_1 := blk_frozen BK215.out 1; have hfz12_2 := blk_frozen BK215.out 2; have hfz12_3 := blk_frozen BK215.out 3; have hfz12_4 := blk_frozen BK215.out 4; have hfz12_5 := blk_frozen BK215.out 5) | ((with_reducible refine gate_callee (f := 34) rfl ?_); refine goesL_ (some 15) rfl rfl Tryz.func34 (by kernel_rfl) rfl #[.int .i64 ji8] rfl (by (try simp only [List.map_toArray, List.map_cons, List.map_nil]); first | done | (simp only [hji8]; rfl) | rfl | (simp only [List.length_drop, List.length_take]; rfl)) ?_; (with_reducible refine (strconv_Itoa.calls ji8 t217 _ ?side1 A9.out).mono ?_); (case side1 => exact LaidW.below HLW.out (by repeat (first | (with_reducible first | exact HB.out | apply below_alloc | apply pw_below_drewN | apply below_drew1) | exact HB.out | (refine below_set ?_ (Aside0.out ?hge); (case hge => assumption))))); rintro e w13 ⟨rfl, hb⟩; refine ⟨_, rfl, ?_⟩; have n0_ := Aside0.mk (blk_below (g := gb215) (o := .cells #[.int .i64 a0_0, .int .i64 a0_1, .string a0_2, .bool a0_3, .int .i64 a0_4, .int .i64 a0_5] 36 (0, 0)) (by (with_reducible repeat (first | refine blk_drewN ?_ _ | refine blk_drew ?_ | refine blk_alloc ?_ _)); exact BK215.out) hb); have n1_ := Aside0.mk (below_step (by repeat (first | (with_reducible first | exact HB.out | apply below_alloc | apply pw_below_drewN | apply below_drew1 | refine below_set ?_ GE215.out) | exact HB.out)) hb); clear BK215; clear HB; have BK215 := n0_; have HB := n1_; clear n0_ n1_; (try clear hb); (try clear hb2); (try clear hk); (try clear hi)))
    go_ret
    exact ⟨by first | rfl | (simp [errW_none, errW_some] <;> rfl) | (simp only [← hji8]; first | rfl | (simp [errW_none, errW_some] <;> rfl)) | (simp [*, errW_none, errW_some] <;> rfl), by repeat (first | (with_reducible first | exact HB.out | apply below_alloc | apply pw_below_drewN | apply below_drew1 | refine below_set ?_ GE215.out) | exact HB.out)⟩
   ·rw [if_neg c10] at H
    exact absurd H (by simp)
  ·rw [if_neg c7] at H
   have c7b0 : (a0_0 == 3) = false := beq_eq_false_iff_ne.mpr c7
   have c7b1 : (a0_0 != 3) = true := bne_iff_ne.mpr c7
   by_cases c14 : a0_0 = 4
   ·rw [if_pos c14] at H
    have c14b0 : (a0_0 == 4) = true := beq_iff_eq.mpr c14
    have c14b1 : (a0_0 != 4) = false := bne_eq_false_iff_eq.mpr c14
    clear c14
    replace H := Option.bind_eq_some_iff.mp H
    obtain ⟨t218, A150, H⟩ := H
    replace H : (some t218) = some r := H
    have A15 := Aside0.mk A150
    clear A150
    obtain rfl := Option.some.inj H
    go_enter Tryz.func20, Tryz.ntmps20
    go_wp2_with (first | ((with_reducible refine gate_dst (N := 1) rfl ?_); refine box_event ?hg (N := 1) ?hd (cs := #[.int .i64 a0_0, .int .i64 a0_1, .string a0_2, .bool a0_3, .int .i64 a0_4, .int .i64 a0_5]) (t := 36) ?hr ?_; (case hd => rfl); (case hg => rfl); (case hr => first | (go_simp; done) | (go_simp; rfl)); intro gb215 hg w16 hbox hb; have n0_ := Aside0.mk (below_step (by repeat (first | (with_reducible first | exact HB.out | apply below_alloc | apply pw_below_drewN | apply below_drew1) | exact HB.out)) hb); have n1_ := Aside0.mk (hbox); have n2_ := Aside0.mk ((by rw [hg]; exact (below_size (by repeat (first | (with_reducible first | exact HB.out | apply below_alloc | apply pw_below_drewN | apply below_drew1) | exact HB.out))) : w.heap.size ≤ gb215)); have n3_ := Aside0.mk ((by rw [hg]; exact (below_size (by repeat (first | (with_reducible first | exact HB.out | apply below_alloc | apply pw_below_drewN | apply below_drew1) | exact HB.out))) : w.heap.size ≤ gb215)); clear HB; have HB := n0_; have BK215 := n1_; have GW215 := n2_; have GE215 := n3_; clear n0_ n1_ n2_ n3_; clear hb hbox hg; have hcz17_0 : w16.cell? ⟨gb215, 0, none⟩ = some (.int .i64 a0_0) := (blk_cell BK215.out 0).trans rfl; have hcz17_1 : w16.cell? ⟨gb215, 1, none⟩ = some (.int .i64 a0_1) := (blk_cell BK215.out 1).trans rfl; have hcz17_2 : w16.cell? ⟨gb215, 2, none⟩ = some (.string a0_2) := (blk_cell BK215.out 2).trans rfl; have hcz17_3 : w16.cell? ⟨gb215, 3, none⟩ = some (.bool a0_3) := (blk_cell BK215.out 3).trans rfl; have hcz17_4 : w16.cell? ⟨gb215, 4, none⟩ = some (.int .i64 a0_4) := (blk_cell BK215.out 4).trans rfl; have hcz17_5 : w16.cell? ⟨gb215, 5, none⟩ = some (.int .i64 a0_5) := (blk_cell BK215.out 5).trans rfl; have hfz17_0 := blk_frozen BK215.out 0; have hfz17_1 := blk_frozen BK215.out 1; have hfz17_2 := blk_frozen BK215.out 2; have hfz17_3 := blk_frozen BK215.out 3; have hfz17_4 := blk_frozen BK215.out 4; have hfz17_5 := blk_frozen BK215.out 5) | ((with_reducible refine gate_callee (f := 35) rfl ?_); refine goesL_ (some 21) rfl rfl Tryz.func35 (by kernel_rfl) rfl #[.string a0_2] rfl (by (try simp only [List.map_toArray, List.map_cons, List.map_nil]); first | done | rfl | (simp only [List.length_drop, List.length_take]; rfl)) ?_; (with_reducible refine (label_Quote.calls a0_2 t218 _ A15.out).mono ?_); rintro e w18 ⟨rfl, hb⟩; refine ⟨_, rfl, ?_⟩; have n0_ := Aside0.mk (blk_below (g := gb215) (o := .cells #[.int .i64 a0_0, .int .i64 a0_1, .string a0_2, .bool a0_3, .int .i64 a0_4, .int .i64 a0_5] 36 (0, 0)) (by (with_reducible repeat (first | refine blk_drewN ?_ _ | refine blk_drew ?_ | refine blk_alloc ?_ _)); exact BK215.out) hb); have n1_ := Aside0.mk (below_step (by repeat (first | (with_reducible first | exact HB.out | apply below_alloc | apply pw_below_drewN | apply below_drew1 | refine below_set ?_ GE215.out) | exact HB.out)) hb); clear BK215; clear HB; have BK215 := n0_; have HB := n1_; clear n0_ n1_; (try clear hb); (try clear hb2); (try clear hk); (try clear hi)))
    go_ret
    exact ⟨by first | rfl | (simp [errW_none, errW_some] <;> rfl) | (simp [*, errW_none, errW_some] <;> rfl), by repeat (first | (with_reducible first | exact HB.out | apply below_alloc | apply pw_below_drewN | apply below_drew1 | refine below_set ?_ GE215.out) | exact HB.out)⟩
   ·rw [if_neg c14] at H
    have c14b0 : (a0_0 == 4) = false := beq_eq_false_iff_ne.mpr c14
    have c14b1 : (a0_0 != 4) = true := bne_iff_ne.mpr c14
    by_cases c19 : a0_0 = 1
    ·rw [if_pos c19] at H
     have c19b0 : (a0_0 == 1) = true := beq_iff_eq.mpr c19
     have c19b1 : (a0_0 != 1) = false := bne_eq_false_iff_eq.mpr c19
     clear c19
     obtain rfl := Option.some.inj H
     go_enter Tryz.func20, Tryz.ntmps20
     go_wp2_with (first | ((with_reducible refine gate_dst (N := 1) rfl ?_); refine box_event ?hg (N := 1) ?hd (cs := #[.int .i64 a0_0, .int .i64 a0_1, .string a0_2, .bool a0_3, .int .i64 a0_4, .int .i64 a0_5]) (t := 36) ?hr ?_; (case hd => rfl); (case hg => rfl); (case hr => first | (go_simp; done) | (go_simp; rfl)); intro gb215 hg w20 hbox hb; have n0_ := Aside0.mk (below_step (by repeat (first | (with_reducible first | exact HB.out | apply below_alloc | apply pw_below_drewN | apply below_drew1) | exact HB.out)) hb); have n1_ := Aside0.mk (hbox); have n2_ := Aside0.mk ((by rw [hg]; exact (below_size (by repeat (first | (with_reducible first | exact HB.out | apply below_alloc | apply pw_below_drewN | apply below_drew1) | exact HB.out))) : w.heap.size ≤ gb215)); have n3_ := Aside0.mk ((by rw [hg]; exact (below_size (by repeat (first | (with_reducible first | exact HB.out | apply below_alloc | apply pw_below_drewN | apply below_drew1) | exact HB.out))) : w.heap.size ≤ gb215)); clear HB; have HB := n0_; have BK215 := n1_; have GW215 := n2_; have GE215 := n3_; clear n0_ n1_ n2_ n3_; clear hb hbox hg; have hcz21_0 : w20.cell? ⟨gb215, 0, none⟩ = some (.int .i64 a0_0) := (blk_cell BK215.out 0).trans rfl; have hcz21_1 : w20.cell? ⟨gb215, 1, none⟩ = some (.int .i64 a0_1) := (blk_cell BK215.out 1).trans rfl; have hcz21_2 : w20.cell? ⟨gb215, 2, none⟩ = some (.string a0_2) := (blk_cell BK215.out 2).trans rfl; have hcz21_3 : w20.cell? ⟨gb215, 3, none⟩ = some (.bool a0_3) := (blk_cell BK215.out 3).trans rfl; have hcz21_4 : w20.cell? ⟨gb215, 4, none⟩ = some (.int .i64 a0_4) := (blk_cell BK215.out 4).trans rfl; have hcz21_5 : w20.cell? ⟨gb215, 5, none⟩ = some (.int .i64 a0_5) := (blk_cell BK215.out 5).trans rfl; have hfz21_0 := blk_frozen BK215.out 0; have hfz21_1 := blk_frozen BK215.out 1; have hfz21_2 := blk_frozen BK215.out 2; have hfz21_3 := blk_frozen BK215.out 3; have hfz21_4 := blk_frozen BK215.out 4; have hfz21_5 := blk_frozen BK215.out 5))
     go_ret
     exact ⟨by first | rfl | (simp [errW_none, errW_some] <;> rfl) | (simp [*, errW_none, errW_some] <;> rfl), by repeat (first | (with_reducible first | exact HB.out | apply below_alloc | apply pw_below_drewN | apply below_drew1 | refine below_set ?_ GE215.out) | exact HB.out)⟩
    ·rw [if_neg c19] at H
     have c19b0 : (a0_0 == 1) = false := beq_eq_false_iff_ne.mpr c19
     have c19b1 : (a0_0 != 1) = true := bne_iff_ne.mpr c19
     by_cases c22 : a0_0 = 5
     ·rw [if_pos c22] at H
      have c22b0 : (a0_0 == 5) = true := beq_iff_eq.mpr c22
      have c22b1 : (a0_0 != 5) = false := bne_eq_false_iff_eq.mpr c22
      clear c22
      obtain rfl := Option.some.inj H
      go_enter Tryz.func20, Tryz.ntmps20
      go_wp2_with (first | ((with_reducible refine gate_dst (N := 1) rfl ?_); refine box_event ?hg (N := 1) ?hd (cs := #[.int .i64 a0_0, .int .i64 a0_1, .string a0_2, .bool a0_3, .int .i64 a0_4, .int .i64 a0_5]) (t := 36) ?hr ?_; (case hd => rfl); (case hg => rfl); (case hr => first | (go_simp; done) | (go_simp; rfl)); intro gb215 hg w23 hbox hb; have n0_ := Aside0.mk (below_step (by repeat (first | (with_reducible first | exact HB.out | apply below_alloc | apply pw_below_drewN | apply below_drew1) | exact HB.out)) hb); have n1_ := Aside0.mk (hbox); have n2_ := Aside0.mk ((by rw [hg]; exact (below_size (by repeat (first | (with_reducible first | exact HB.out | apply below_alloc | apply pw_below_drewN | apply below_drew1) | exact HB.out))) : w.heap.size ≤ gb215)); have n3_ := Aside0.mk ((by rw [hg]; exact (below_size (by repeat (first | (with_reducible first | exact HB.out | apply below_alloc | apply pw_below_drewN | apply below_drew1) | exact HB.out))) : w.heap.size ≤ gb215)); clear HB; have HB := n0_; have BK215 := n1_; have GW215 := n2_; have GE215 := n3_; clear n0_ n1_ n2_ n3_; clear hb hbox hg; have hcz24_0 : w23.cell? ⟨gb215, 0, none⟩ = some (.int .i64 a0_0) := (blk_cell BK215.out 0).trans rfl; have hcz24_1 : w23.cell? ⟨gb215, 1, none⟩ = some (.int .i64 a0_1) := (blk_cell BK215.out 1).trans rfl; have hcz24_2 : w23.cell? ⟨gb215, 2, none⟩ = some (.string a0_2) := (blk_cell BK215.out 2).trans rfl; have hcz24_3 : w23.cell? ⟨gb215, 3, none⟩ = some (.bool a0_3) := (blk_cell BK215.out 3).trans rfl; have hcz24_4 : w23.cell? ⟨gb215, 4, none⟩ = some (.int .i64 a0_4) := (blk_cell BK215.out 4).trans rfl; have hcz24_5 : w23.cell? ⟨gb215, 5, none⟩ = some (.int .i64 a0_5) := (blk_cell BK215.out 5).trans rfl; have hfz24_0 := blk_frozen BK215.out 0; have hfz24_1 := blk_frozen BK215.out 1; have hfz24_2 := blk_frozen BK215.out 2; have hfz24_3 := blk_frozen BK215.out 3; have hfz24_4 := blk_frozen BK215.out 4; have hfz24_5 := blk_frozen BK215.out 5))
      go_ret
      exact ⟨by first | rfl | (simp [errW_none, errW_some] <;> rfl) | (simp [*, errW_none, errW_some] <;> rfl), by repeat (first | (with_reducible first | exact HB.out | apply below_alloc | apply pw_below_drewN | apply below_drew1 | refine below_set ?_ GE215.out) | exact HB.out)⟩
     ·rw [if_neg c22] at H
      have c22b0 : (a0_0 == 5) = false := beq_eq_false_iff_ne.mpr c22
      have c22b1 : (a0_0 != 5) = true := bne_iff_ne.mpr c22
      obtain rfl := Option.some.inj H
      go_enter Tryz.func20, Tryz.ntmps20
      go_wp2_with (first | ((with_reducible refine gate_dst (N := 1) rfl ?_); refine box_event ?hg (N := 1) ?hd (cs := #[.int .i64 a0_0, .int .i64 a0_1, .string a0_2, .bool a0_3, .int .i64 a0_4, .int .i64 a0_5]) (t := 36) ?hr ?_; (case hd => rfl); (case hg => rfl); (case hr => first | (go_simp; done) | (go_simp; rfl)); intro gb215 hg w25 hbox hb; have n0_ := Aside0.mk (below_step (by repeat (first | (with_reducible first | exact HB.out | apply below_alloc | apply pw_below_drewN | apply below_drew1) | exact HB.out)) hb); have n1_ := Aside0.mk (hbox); have n2_ := Aside0.mk ((by rw [hg]; exact (below_size (by repeat (first | (with_reducible first | exact HB.out | apply below_alloc | apply pw_below_drewN | apply below_drew1) | exact HB.out))) : w.heap.size ≤ gb215)); have n3_ := Aside0.mk ((by rw [hg]; exact (below_size (by repeat (first | (with_reducible first | exact HB.out | apply below_alloc | apply pw_below_drewN | apply below_drew1) | exact HB.out))) : w.heap.size ≤ gb215)); clear HB; have HB := n0_; have BK215 := n1_; have GW215 := n2_; have GE215 := n3_; clear n0_ n1_ n2_ n3_; clear hb hbox hg; have hcz26_0 : w25.cell? ⟨gb215, 0, none⟩ = some (.int .i64 a0_0) := (blk_cell BK215.out 0).trans rfl; have hcz26_1 : w25.cell? ⟨gb215, 1, none⟩ = some (.int .i64 a0_1) := (blk_cell BK215.out 1).trans rfl; have hcz26_2 : w25.cell? ⟨gb215, 2, none⟩ = some (.string a0_2) := (blk_cell BK215.out 2).trans rfl; have hcz26_3 : w25.cell? ⟨gb215, 3, none⟩ = some (.bool a0_3) := (blk_cell BK215.out 3).trans rfl; have hcz26_4 : w25.cell? ⟨gb215, 4, none⟩ = some (.int .i64 a0_4) := (blk_cell BK215.out 4).trans rfl; have hcz26_5 : w25.cell? ⟨gb215, 5, none⟩ = some (.int .i64 a0_5) := (blk_cell BK215.out 5).trans rfl; have hfz26_0 := blk_frozen BK215.out 0; have hfz26_1 := blk_frozen BK215.out 1; have hfz26_2 := blk_frozen BK215.out 2; have hfz26_3 := blk_frozen BK215.out 3; have hfz26_4 := blk_frozen BK215.out 4; have hfz26_5 := blk_frozen BK215.out 5))
      go_ret
      exact ⟨by first | rfl | (simp [errW_none, errW_some] <;> rfl) | (simp [*, errW_none, errW_some] <;> rfl), by repeat (first | (with_reducible first | exact HB.out | apply below_alloc | apply pw_below_drewN | apply below_drew1 | refine below_set ?_ GE215.out) | exact HB.out)⟩

end Go.Proofs.YtnjobjogddjelaaGreatDoor.Print
end

section
namespace Go.Proofs.YtnjobjogddjelaaGreatDoor.Print
open Go.RowKit Go.Proofs.YtnjobjogddjelaaGreatDoorX Go.Proofs.YtnjobjogddjelaaGreatDoorW.PrintWords Go.Proofs.YtnjobjogddjelaaGreatDoorW.PrintLast Go.Proofs.YtnjobjogddjelaaGreatDoorW.PrintMore
attribute [local go_sem] max2_int min2_int max_two min_two max_three min_three max_four min_four

/-! ### lex_Print: function 12 -/
def lex_Print.l0 : Nat → List ByteArray → List (S36) → Int → Int → Option (ByteArray)
 | 0, _, _, _, _ => none
 | k + 1, x3, x7, x8, x9 => if x9 < x8 then (if 0 ≤ x9 then (if x9 < (x7.length : Int) then ((lex_one.f ((rd_T36 x7 x9).f0) ((rd_T36 x7 x9).f1) ((rd_T36 x7 x9).f2) ((rd_T36 x7 x9).f3.f0) ((rd_T36 x7 x9).f3.f1) ((rd_T36 x7 x9).f4)).bind fun t221 => (if t221.toList = ([] : List UInt8) then (lex_Print.l0 k x3 x7 x8 (wrap64 (x9 + 1))) else (if x3.length < 8796093022208 then (lex_Print.l0 k (x3 ++ [t221]) x7 x8 (wrap64 (x9 + 1))) else (none)))) else (none)) else (none)) else ((strings_Join.f x3 (⟨#[32]⟩ : ByteArray)).bind fun t225 => (some t225))
def lex_Print.f (k : Nat) (l0 : List (S36)) : Option (ByteArray) := lex_Print.l0 k ([] : List ByteArray) l0 (l0.length : Int) 0
theorem lex_Print.mono_l : ∀ k, (∀ y0 y1 y2 y3, LeO (lex_Print.l0 k y0 y1 y2 y3) (lex_Print.l0 (k + 1) y0 y1 y2 y3))
 | 0 => fun _ _ _ _ r h => by simp [lex_Print.l0] at h
 | k + 1 => by
  have ih0 := lex_Print.mono_l k
  ·intro y0 y1 y2 y3
   unfold lex_Print.l0
   repeat' first
   | (with_reducible exact ih0 _ _ _ _)
   | (with_reducible exact LeO.refl _)
   | (with_reducible exact LeO.none _)
   | (with_reducible refine LeO.ite ?_ ?_)
   | (with_reducible refine LeO.bind ?_ (fun _ => ?_))
   | exact ih0 _ _ _ _
   | exact LeO.none _
   | refine LeO.ite ?_ ?_
   | refine LeO.bind ?_ (fun _ => ?_)
theorem lex_Print.mono : ∀ a0 k, LeO (lex_Print.f k a0) (lex_Print.f (k + 1) a0) := by
 intro a0 k
 have ih0 := lex_Print.mono_l k
 unfold lex_Print.f
 repeat' first
   | (with_reducible exact ih0 _ _ _ _)
   | (with_reducible exact LeO.refl _)
   | (with_reducible exact LeO.none _)
   | (with_reducible refine LeO.ite ?_ ?_)
   | (with_reducible refine LeO.bind ?_ (fun _ => ?_))
   | exact ih0 _ _ _ _
   | exact LeO.none _
   | refine LeO.ite ?_ ?_
   | refine LeO.bind ?_ (fun _ => ?_)
set_option maxHeartbeats 8000000 in
set_option maxRecDepth 100000 in
theorem lex_Print.calls (k : Nat) (A0 : Option Addr) (c0 : Nat) (l0 : List (S36)) (r : ByteArray) (w : World) (hr0 : Kd.C k36 w A0 l0.length l0) (hc0 : l0.length ≤ c0) (hg_ : LaidW w) (h : lex_Print.f k l0 = some r) :
  Calls Tryz.prog 12 #[.slice A0 l0.length c0] w fun e w' => e = .returned (.string r) ∧ Below w.heap.size w w' := by
 have HLW := Aside0.mk hg_
 clear hg_
 have hu36 := Tryz.underlying36
 have HR0 := Aside0.mk hr0
 have HC0 := Aside0.mk hc0
 clear hr0 hc0
 have HB := Aside0.mk (Below.refl w.heap.size w)
 have H : (lex_Print.l0 k ([] : List ByteArray) l0 (l0.length : Int) 0) = some r := h
 clear h
 have H' := Aside0.mk H
 clear H
 go_enter Tryz.func12, Tryz.ntmps12
 go_wp2
 go_loopg [3, 9] k (fun kq v3 v9 w' => ∃ (x3_1 : List ByteArray) (x9_1 : Int), v9 = .int .i64 x9_1 ∧ Aside0 (lex_Print.l0 kq x3_1 l0 (l0.length : Int) x9_1 = some r) ∧ Aside0 (kq ≤ k) ∧ Aside0 (Kd.R Kd.string 9 w' w.heap.size (fun _ => True) v3 x3_1) ∧ Aside0 (Below w.heap.size w w'))
 case atStart => exact ⟨(([] : List ByteArray)), (0), (by first | rfl | (simp; done) | (simp [*]; done)), H', ⟨Nat.le_refl _⟩, ⟨by first | exact Kd.R_nil _ _ _ _ _ | exact Kd.N_nil _ _ _ _ _ | exact Kd.V_nil _ _ _ _ _ | exact Kd.Q_nil _ _ _ _ _ | exact Kd.S_nil _ _ _ _ _⟩, ⟨by repeat (first | (with_reducible first | exact HB.out | apply below_alloc | apply pw_below_drewN | apply below_drew1) | exact HB.out)⟩⟩
 case round =>
  clear H'
  try clear c1
  obtain ⟨x3_1, x9_1, rfl, HA, HK1, HO_3, HB⟩ := hrel
  cases gk with
  | zero => exact absurd HA.out (by simp [lex_Print.l0])
  | succ k1 =>
   have H := HA.out
   clear HA
   simp only [lex_Print.l0] at H
   by_cases c2 : x9_1 < (l0.length : Int)
   ·rw [if_pos c2] at H
    have c2b0 : decide (x9_1 < (l0.length : Int)) = true := decide_eq_true c2
    clear c2
    by_cases c3 : 0 ≤ x9_1
    ·rw [if_pos c3] at H
     have c3b0 : decide (0 ≤ x9_1) = true := decide_eq_true c3
     clear c3
     by_cases c4 : x9_1 < (l0.length : Int)
     ·rw [if_pos c4] at H
      have c4b0 : decide (x9_1 < (l0.length : Int)) = true := decide_eq_true c4
      clear c4
      replace H := Option.bind_eq_some_iff.mp H
      obtain ⟨t221, A50, H⟩ := H
      replace H : (if t221.toList = ([] : List UInt8) then (lex_Print.l0 k1 x3_1 l0 (l0.length : Int) (wrap64 (x9_1 + 1))) else (if x3_1.length < 8796093022208 then (lex_Print.l0 k1 (x3_1 ++ [t221]) l0 (l0.length : Int) (wrap64 (x9_1 + 1))) else (none))) = some r := H
      have A5 := Aside0.mk A50
      clear A50
      by_cases c6 : t221.toList = ([] : List UInt8)
      ·rw [if_pos c6] at H
       have c6b0 : (t221.toList == ([] : List UInt8)) = true := beq_iff_eq.mpr c6
       have c6b1 : (t221.toList != ([] : List UInt8)) = false := bne_eq_false_iff_eq.mpr c6
       clear c6
       have H' := Aside0.mk H
       clear H
       have p219 : 0 ≤ (x9_1 : Int) := of_decide_eq_true (by first | (with_reducible assumption) | assumption)
       have q219 : x9_1 < (l0.length : Int) := of_decide_eq_true (by first | (with_reducible assumption) | assumption)
       obtain ⟨ad219, e219, hx219_0, hx219_1, hx219_2, hx219_3, hx219_4, hx219_5⟩ := at_T36 HR0.out x9_1 p219 q219
       cases e219
       replace hx219_0 := (HB.out.cell (World.block_lt_of_cell? w _ hx219_0)).trans hx219_0
       replace hx219_1 := (HB.out.cell (World.block_lt_of_cell? w _ hx219_1)).trans hx219_1
       replace hx219_2 := (HB.out.cell (World.block_lt_of_cell? w _ hx219_2)).trans hx219_2
       replace hx219_3 := (HB.out.cell (World.block_lt_of_cell? w _ hx219_3)).trans hx219_3
       replace hx219_4 := (HB.out.cell (World.block_lt_of_cell? w _ hx219_4)).trans hx219_4
       replace hx219_5 := (HB.out.cell (World.block_lt_of_cell? w _ hx219_5)).trans hx219_5
       replace p219 := eq_true p219
       replace q219 := eq_true q219
       go_wp2_with (first | ((with_reducible refine gate_dst (N := 5) rfl ?_); refine box_event ?hg (N := 5) ?hd (cs := #[.int .i64 0, .int .i64 0, .string (⟨#[]⟩ : ByteArray), .bool false, .int .i64 0, .int .i64 0]) (t := 36) ?hr ?_; (case hd => rfl); (case hg => rfl); (case hr => first | (go_simp; done) | (go_simp; rfl)); intro gb220 hg w7 hbox hb; have n0_ := Aside0.mk (Kd.R_below (by (with_reducible repeat (first | apply Kd.R_alloc | apply Kd.R_drewN | apply Kd.R_drew)); exact HO_3.out) hb); have n1_ := Aside0.mk (below_step (by repeat (first | (with_reducible first | exact HB.out | apply below_alloc | apply pw_below_drewN | apply below_drew1) | exact HB.out)) hb); have n2_ := Aside0.mk (hbox); have n3_ := Aside0.mk ((by rw [hg]; exact (below_size (by repeat (first | (with_reducible first | exact HB.out | apply below_alloc | apply pw_below_drewN | apply below_drew1) | exact HB.out))) : w.heap.size ≤ gb220)); have n4_ := Aside0.mk ((by rw [hg]; exact (below_size (by repeat (first | (with_reducible first | exact HB.out | apply below_alloc | apply pw_below_drewN | apply below_drew1) | exact HB.out))) : w.heap.size ≤ gb220)); clear HO_3; clear HB; have HO_3 := n0_; have HB := n1_; have BK220 := n2_; have GW220 := n3_; have GE220 := n4_; clear n0_ n1_ n2_ n3_ n4_; clear hb hbox hg; have hcz8_0 : w7.cell? ⟨gb220, 0, none⟩ = some (.int .i64 0) := (blk_cell BK220.out 0).trans rfl; have hcz8_1 : w7.cell? ⟨gb220, 1, none⟩ = some (.int .i64 0) := (blk_cell BK220.out 1).trans rfl; have hcz8_2 : w7.cell? ⟨gb220, 2, none⟩ = some (.string (⟨#[]⟩ : ByteArray)) := (blk_cell BK220.out 2).trans rfl; have hcz8_3 : w7.cell? ⟨gb220, 3, none⟩ = some (.bool false) := (blk_cell BK220.out 3).trans rfl; have hcz8_4 : w7.cell? ⟨gb220, 4, none⟩ = some (.int .i64 0) := (blk_cell BK220.out 4).trans rfl; have hcz8_5 : w7.cell? ⟨gb220, 5, none⟩ = some (.int .i64 0) := (blk_cell BK220.out 5).trans rfl; have hfz8_0 := blk_frozen BK220.out 0; have hfz8_1 := blk_frozen BK220.out 1; have hfz8_2 := blk_frozen BK220.out 2; have hfz8_3 := blk_frozen BK220.out 3; have hfz8_4 := blk_frozen BK220.out 4; have hfz8_5 := blk_frozen BK220.out 5) | ((with_reducible refine gate_callee (f := 20) rfl ?_); refine goesL_ (some 14) rfl rfl Tryz.func20 (by kernel_rfl) rfl #[.agg #[.int .i64 ((rd_T36 l0 x9_1).f0), .int .i64 ((rd_T36 l0 x9_1).f1), .string ((rd_T36 l0 x9_1).f2), .bool ((rd_T36 l0 x9_1).f3.f0), .int .i64 ((rd_T36 l0 x9_1).f3.f1), .int .i64 ((rd_T36 l0 x9_1).f4)]] rfl (by (try simp only [List.map_toArray, List.map_cons, List.map_nil]); first | done | rfl | (simp only [List.length_drop, List.length_take]; rfl)) ?_; (with_reducible refine (lex_one.calls ((rd_T36 l0 x9_1).f0) ((rd_T36 l0 x9_1).f1) ((rd_T36 l0 x9_1).f2) ((rd_T36 l0 x9_1).f3.f0) ((rd_T36 l0 x9_1).f3.f1) ((rd_T36 l0 x9_1).f4) t221 _ ?side1 A5.out).mono ?_); (case side1 => exact LaidW.below HLW.out (by repeat (first | (with_reducible first | exact HB.out | apply below_alloc | apply pw_below_drewN | apply below_drew1) | exact HB.out | (refine below_set ?_ (Aside0.out ?hge); (case hge => assumption))))); rintro e w9 ⟨rfl, hb⟩; refine ⟨_, rfl, ?_⟩; have n0_ := Aside0.mk (Kd.R_below (by (with_reducible repeat (first | apply Kd.R_alloc | apply Kd.R_drewN | apply Kd.R_drew)); exact (Kd.R_mono (Kd.R_far (p := ⟨gb220, 5, none⟩) (Kd.R_far (p := ⟨gb220, 4, none⟩) (Kd.R_far (p := ⟨gb220, 3, none⟩) (Kd.R_far (p := ⟨gb220, 2, none⟩) (Kd.R_far (p := ⟨gb220, 1, none⟩) (Kd.R_far (p := ⟨gb220, 0, none⟩) (Kd.R_types HO_3.out BK220.out (by decide)) (fun _ hk => hk.2) (.int .i64 ((rd_T36 l0 x9_1).f0))) (fun _ hk => hk.2) (.int .i64 ((rd_T36 l0 x9_1).f1))) (fun _ hk => hk.2) (.string ((rd_T36 l0 x9_1).f2))) (fun _ hk => hk.2) (.bool ((rd_T36 l0 x9_1).f3.f0))) (fun _ hk => hk.2) (.int .i64 ((rd_T36 l0 x9_1).f3.f1))) (fun _ hk => hk.2) (.int .i64 ((rd_T36 l0 x9_1).f4))) (fun _ h_ => h_.1))) hb); have n1_ := Aside0.mk (blk_below (g := gb220) (o := .cells #[.int .i64 ((rd_T36 l0 x9_1).f0), .int .i64 ((rd_T36 l0 x9_1).f1), .string ((rd_T36 l0 x9_1).f2), .bool ((rd_T36 l0 x9_1).f3.f0), .int .i64 ((rd_T36 l0 x9_1).f3.f1), .int .i64 ((rd_T36 l0 x9_1).f4)] 36 (0, 0)) (by (with_reducible repeat (first | refine blk_drewN ?_ _ | refine blk_drew ?_ | refine blk_alloc ?_ _)); refine blk_put (cs := #[.int .i64 ((rd_T36 l0 x9_1).f0), .int .i64 ((rd_T36 l0 x9_1).f1), .string ((rd_T36 l0 x9_1).f2), .bool ((rd_T36 l0 x9_1).f3.f0), .int .i64 ((rd_T36 l0 x9_1).f3.f1), .int .i64 0]) ?_ 5 _ rfl; (with_reducible repeat (first | refine blk_drewN ?_ _ | refine blk_drew ?_ | refine blk_alloc ?_ _)); refine blk_put (cs := #[.int .i64 ((rd_T36 l0 x9_1).f0), .int .i64 ((rd_T36 l0 x9_1).f1), .string ((rd_T36 l0 x9_1).f2), .bool ((rd_T36 l0 x9_1).f3.f0), .int .i64 0, .int .i64 0]) ?_ 4 _ rfl; (with_reducible repeat (first | refine blk_drewN ?_ _ | refine blk_drew ?_ | refine blk_alloc ?_ _)); refine blk_put (cs := #[.int .i64 ((rd_T36 l0 x9_1).f0), .int .i64 ((rd_T36 l0 x9_1).f1), .string ((rd_T36 l0 x9_1).f2), .bool false, .int .i64 0, .int .i64 0]) ?_ 3 _ rfl; (with_reducible repeat (first | refine blk_drewN ?_ _ | refine blk_drew ?_ | refine blk_alloc ?_ _)); refine blk_put (cs := #[.int .i64 ((rd_T36 l0 x9_1).f0), .int .i64 ((rd_T36 l0 x9_1).f1), .string (⟨#[]⟩ : ByteArray), .bool false, .int .i64 0, .int .i64 0]) ?_ 2 _ rfl; (with_reducible repeat (first | refine blk_drewN ?_ _ | refine blk_drew ?_ | refine blk_alloc ?_ _)); refine blk_put (cs := #[.int .i64 ((rd_T36 l0 x9_1).f0), .int .i64 0, .string (⟨#[]⟩ : ByteArray), .bool false, .int .i64 0, .int .i64 0]) ?_ 1 _ rfl; (with_reducible repeat (first | refine blk_drewN ?_ _ | refine blk_drew ?_ | refine blk_alloc ?_ _)); refine blk_put (cs := #[.int .i64 0, .int .i64 0, .string (⟨#[]⟩ : ByteArray), .bool false, .int .i64 0, .int .i64 0]) ?_ 0 _ rfl; (with_reducible repeat (first | refine blk_drewN ?_ _ | refine blk_drew ?_ | refine blk_alloc ?_ _)); exact BK220.out) hb); have n2_ := Aside0.mk (below_step (by repeat (first | (with_reducible first | exact HB.out | apply below_alloc | apply pw_below_drewN | apply below_drew1 | refine below_set ?_ GE220.out) | exact HB.out)) hb); clear HO_3; clear BK220; clear HB; have HO_3 := n0_; have BK220 := n1_; have HB := n2_; clear n0_ n1_ n2_; (try clear hb); (try clear hb2); (try clear hk); (try clear hi)))
       go_roundg k1
       case measure => have := HK1.out; omega
       case rel => exact ⟨(x3_1), (wrap64 (x9_1 + 1)), (by first | rfl | (simp; done) | (simp [*]; done)), H', ⟨by have := HK1.out; omega⟩, ⟨by (with_reducible repeat (first | apply Kd.R_alloc | apply Kd.R_drewN | apply Kd.R_drew)); exact HO_3.out⟩, ⟨by repeat (first | (with_reducible first | exact HB.out | apply below_alloc | apply pw_below_drewN | apply below_drew1 | refine below_set ?_ GE220.out) | exact HB.out)⟩⟩
      ·rw [if_neg c6] at H
       have c6b0 : (t221.toList == ([] : List UInt8)) = false := beq_eq_false_iff_ne.mpr c6
       have c6b1 : (t221.toList != ([] : List UInt8)) = true := bne_iff_ne.mpr c6
       by_cases c10 : x3_1.length < 8796093022208
       ·rw [if_pos c10] at H
        have LMc10 := Aside0.mk c10
        clear c10
        obtain ⟨y222, hy222⟩ : ∃ y_ : List ByteArray, y_ = (x3_1 ++ [t221]) := ⟨_, rfl⟩
        replace H : (lex_Print.l0 k1 y222 l0 (l0.length : Int) (wrap64 (x9_1 + 1))) = some r := by first | (rw [hy222]; with_reducible exact H) | (have H2_ := (Option.bind_some _ _).symm.trans H; rw [hy222]; with_reducible exact H2_) | (have H2_ := (Option.bind_some _ _).symm.trans H; with_reducible exact H2_) | with_reducible exact H | (rw [hy222]; exact H) | exact H
        have Ny222 := Aside0.mk hy222
        clear hy222
        have H' := Aside0.mk H
        clear H
        have p219 : 0 ≤ (x9_1 : Int) := of_decide_eq_true (by first | (with_reducible assumption) | assumption)
        have q219 : x9_1 < (l0.length : Int) := of_decide_eq_true (by first | (with_reducible assumption) | assumption)
        obtain ⟨ad219, e219, hx219_0, hx219_1, hx219_2, hx219_3, hx219_4, hx219_5⟩ := at_T36 HR0.out x9_1 p219 q219
        cases e219
        replace hx219_0 := (HB.out.cell (World.block_lt_of_cell? w _ hx219_0)).trans hx219_0
        replace hx219_1 := (HB.out.cell (World.block_lt_of_cell? w _ hx219_1)).trans hx219_1
        replace hx219_2 := (HB.out.cell (World.block_lt_of_cell? w _ hx219_2)).trans hx219_2
        replace hx219_3 := (HB.out.cell (World.block_lt_of_cell? w _ hx219_3)).trans hx219_3
        replace hx219_4 := (HB.out.cell (World.block_lt_of_cell? w _ hx219_4)).trans hx219_4
        replace hx219_5 := (HB.out.cell (World.block_lt_of_cell? w _ hx219_5)).trans hx219_5
        replace p219 := eq_true p219
        replace q219 := eq_true q219
        go_wp2_with (first | ((with_reducible refine gate_dst (N := 5) rfl ?_); refine box_event ?hg (N := 5) ?hd (cs := #[.int .i64 0, .int .i64 0, .string (⟨#[]⟩ : ByteArray), .bool false, .int .i64 0, .int .i64 0]) (t := 36) ?hr ?_; (case hd => rfl); (case hg => rfl); (case hr => first | (go_simp; done) | (go_simp; rfl)); intro gb220 hg w11 hbox hb; have n0_ := Aside0.mk (Kd.R_below (by (with_reducible repeat (first | apply Kd.R_alloc | apply Kd.R_drewN | apply Kd.R_drew)); exact HO_3.out) hb); have n1_ := Aside0.mk (below_step (by repeat (first | (with_reducible first | exact HB.out | apply below_alloc | apply pw_below_drewN | apply below_drew1) | exact HB.out)) hb); have n2_ := Aside0.mk (hbox); have n3_ := Aside0.mk ((by rw [hg]; exact (below_size (by repeat (first | (with_reducible first | exact HB.out | apply below_alloc | apply pw_below_drewN | apply below_drew1) | exact HB.out))) : w.heap.size ≤ gb220)); have n4_ := Aside0.mk ((by rw [hg]; exact (below_size (by repeat (first | (with_reducible first | exact HB.out | apply below_alloc | apply pw_below_drewN | apply below_drew1) | exact HB.out))) : w.heap.size ≤ gb220)); clear HO_3; clear HB; have HO_3 := n0_; have HB := n1_; have BK220 := n2_; have GW220 := n3_; have GE220 := n4_; clear n0_ n1_ n2_ n3_ n4_; clear hb hbox hg; have hcz12_0 : w11.cell? ⟨gb220, 0, none⟩ = some (.int .i64 0) := (blk_cell BK220.out 0).trans rfl; have hcz12_1 : w11.cell? ⟨gb220, 1, none⟩ = some (.int .i64 0) := (blk_cell BK220.out 1).trans rfl; have hcz12_2 : w11.cell? ⟨gb220, 2, none⟩ = some (.string (⟨#[]⟩ : ByteArray)) := (blk_cell BK220.out 2).trans rfl; have hcz12_3 : w11.cell? ⟨gb220, 3, none⟩ = some (.bool false) := (blk_cell BK220.out 3).trans rfl; have hcz12_4 : w11.cell? ⟨gb220, 4, none⟩ = some (.int .i64 0) := (blk_cell BK220.out 4).trans rfl; have hcz12_5 : w11.cell? ⟨gb220, 5, none⟩ = some (.int .i64 0) := (blk_cell BK220.out 5).trans rfl; have hfz12_0 := blk_frozen BK220.out 0; have hfz12_1 := blk_frozen BK220.out 1; have hfz12_2 := blk_frozen BK220.out 2; have hfz12_3 := blk_frozen BK220.out 3; have hfz12_4 := blk_frozen BK220.out 4; have hfz12_5 := blk_frozen BK220.out 5) | ((with_reducible refine gate_callee (f := 20) rfl ?_); refine goesL_ (some 14) rfl rfl Tryz.func20 (by kernel_rfl) rfl #[.agg #[.int .i64 ((rd_T36 l0 x9_1).f0), .int .i64 ((rd_T36 l0 x9_1).f1), .string ((rd_T36 l0 x9_1).f2), .bool ((rd_T36 l0 x9_1).f3.f0), .int .i64 ((rd_T36 l0 x9_1).f3.f1), .int .i64 ((rd_T36 l0 x9_1).f4)]] rfl (by (try simp only [List.map_toArray, List.map_cons, List.map_nil]); first | done | rfl | (simp only [List.length_drop, List.length_take]; rfl)) ?_; (with_reducible refine (lex_one.calls ((rd_T36 l0 x9_1).f0) ((rd_T36 l0 x9_1).f1) ((rd_T36 l0 x9_1).f2) ((rd_T36 l0 x9_1).f3.f0) ((rd_T36 l0 x9_1).f3.f1) ((rd_T36 l0 x9_1).f4) t221 _ ?side1 A5.out).mono ?_); (case side1 => exact LaidW.below HLW.out (by repeat (first | (with_reducible first | exact HB.out | apply below_alloc | apply pw_below_drewN | apply below_drew1) | exact HB.out | (refine below_set ?_ (Aside0.out ?hge); (case hge => assumption))))); rintro e w13 ⟨rfl, hb⟩; refine ⟨_, rfl, ?_⟩; have n0_ := Aside0.mk (Kd.R_below (by (with_reducible repeat (first | apply Kd.R_alloc | apply Kd.R_drewN | apply Kd.R_drew)); exact (Kd.R_mono (Kd.R_far (p := ⟨gb220, 5, none⟩) (Kd.R_far (p := ⟨gb220, 4, none⟩) (Kd.R_far (p := ⟨gb220, 3, none⟩) (Kd.R_far (p := ⟨gb220, 2, none⟩) (Kd.R_far (p := ⟨gb220, 1, none⟩) (Kd.R_far (p := ⟨gb220, 0, none⟩) (Kd.R_types HO_3.out BK220.out (by decide)) (fun _ hk => hk.2) (.int .i64 ((rd_T36 l0 x9_1).f0))) (fun _ hk => hk.2) (.int .i64 ((rd_T36 l0 x9_1).f1))) (fun _ hk => hk.2) (.string ((rd_T36 l0 x9_1).f2))) (fun _ hk => hk.2) (.bool ((rd_T36 l0 x9_1).f3.f0))) (fun _ hk => hk.2) (.int .i64 ((rd_T36 l0 x9_1).f3.f1))) (fun _ hk => hk.2) (.int .i64 ((rd_T36 l0 x9_1).f4))) (fun _ h_ => h_.1))) hb); have n1_ := Aside0.mk (blk_below (g := gb220) (o := .cells #[.int .i64 ((rd_T36 l0 x9_1).f0), .int .i64 ((rd_T36 l0 x9_1).f1), .string ((rd_T36 l0 x9_1).f2), .bool ((rd_T36 l0 x9_1).f3.f0), .int .i64 ((rd_T36 l0 x9_1).f3.f1), .int .i64 ((rd_T36 l0 x9_1).f4)] 36 (0, 0)) (by (with_reducible repeat (first | refine blk_drewN ?_ _ | refine blk_drew ?_ | refine blk_alloc ?_ _)); refine blk_put (cs := #[.int .i64 ((rd_T36 l0 x9_1).f0), .int .i64 ((rd_T36 l0 x9_1).f1), .string ((rd_T36 l0 x9_1).f2), .bool ((rd_T36 l0 x9_1).f3.f0), .int .i64 ((rd_T36 l0 x9_1).f3.f1), .int .i64 0]) ?_ 5 _ rfl; (with_reducible repeat (first | refine blk_drewN ?_ _ | refine blk_drew ?_ | refine blk_alloc ?_ _)); refine blk_put (cs := #[.int .i64 ((rd_T36 l0 x9_1).f0), .int .i64 ((rd_T36 l0 x9_1).f1), .string ((rd_T36 l0 x9_1).f2), .bool ((rd_T36 l0 x9_1).f3.f0), .int .i64 0, .int .i64 0]) ?_ 4 _ rfl; (with_reducible repeat (first | refine blk_drewN ?_ _ | refine blk_drew ?_ | refine blk_alloc ?_ _)); refine blk_put (cs := #[.int .i64 ((rd_T36 l0 x9_1).f0), .int .i64 ((rd_T36 l0 x9_1).f1), .string ((rd_T36 l0 x9_1).f2), .bool false, .int .i64 0, .int .i64 0]) ?_ 3 _ rfl; (with_reducible repeat (first | refine blk_drewN ?_ _ | refine blk_drew ?_ | refine blk_alloc ?_ _)); refine blk_put (cs := #[.int .i64 ((rd_T36 l0 x9_1).f0), .int .i64 ((rd_T36 l0 x9_1).f1), .string (⟨#[]⟩ : ByteArray), .bool false, .int .i64 0, .int .i64 0]) ?_ 2 _ rfl; (with_reducible repeat (first | refine blk_drewN ?_ _ | refine blk_drew ?_ | refine blk_alloc ?_ _)); refine blk_put (cs := #[.int .i64 ((rd_T36 l0 x9_1).f0), .int .i64 0, .string (⟨#[]⟩ : ByteArray), .bool false, .int .i64 0, .int .i64 0]) ?_ 1 _ rfl; (with_reducible repeat (first | refine blk_drewN ?_ _ | refine blk_drew ?_ | refine blk_alloc ?_ _)); refine blk_put (cs := #[.int .i64 0, .int .i64 0, .string (⟨#[]⟩ : ByteArray), .bool false, .int .i64 0, .int .i64 0]) ?_ 0 _ rfl; (with_reducible repeat (first | refine blk_drewN ?_ _ | refine blk_drew ?_ | refine blk_alloc ?_ _)); exact BK220.out) hb); have n2_ := Aside0.mk (below_step (by repeat (first | (with_reducible first | exact HB.out | apply below_alloc | apply pw_below_drewN | apply below_drew1 | refine below_set ?_ GE220.out) | exact HB.out)) hb); clear HO_3; clear BK220; clear HB; have HO_3 := n0_; have BK220 := n1_; have HB := n2_; clear n0_ n1_ n2_; (try clear hb); (try clear hb2); (try clear hk); (try clear hi)) | ((with_reducible refine gate_builtin (b := .append) (xs := #[.tmp 17, .tmp 19]) rfl ?_); at_builtin; refine Kd.R_append Kd.string (w0 := w) w.heap.size rfl (.tmp 17) (.tmp 19) 50 9 (.string ⟨#[]⟩) 16 rfl Tryz.underlying50 info9 rfl (by decide) (by omega) u3 x3_1 t221 [.string t221] (fun _ => True) (fun _ => False) rfl rfl ?aP (fun _ hk => hk.elim) ?aF ?aO ?aB ?aS ?aL ?_; (case aP => exact rfl); (case aB => exact (by repeat (first | (with_reducible first | exact HB.out | apply below_alloc | apply pw_below_drewN | apply below_drew1 | refine below_set ?_ GE220.out) | exact HB.out))); (case aF => exact (fun _ _ => trivial)); (case aO => exact (by (with_reducible repeat (first | apply Kd.R_alloc | apply Kd.R_drewN | apply Kd.R_drew)); exact HO_3.out)); (case aS => exact (below_size (by repeat (first | (with_reducible first | exact HB.out | apply below_alloc | apply pw_below_drewN | apply below_drew1 | refine below_set ?_ GE220.out) | exact HB.out)))); (case aL => have := LMc10.out; omega); intro v223 w14 ho hb hg hat; rw [← Ny222.out] at ho; have n0_ := Aside0.mk (blk_grown (g := gb220) (o := .cells #[.int .i64 ((rd_T36 l0 x9_1).f0), .int .i64 ((rd_T36 l0 x9_1).f1), .string ((rd_T36 l0 x9_1).f2), .bool ((rd_T36 l0 x9_1).f3.f0), .int .i64 ((rd_T36 l0 x9_1).f3.f1), .int .i64 ((rd_T36 l0 x9_1).f4)] 36 (0, 0)) (by (with_reducible repeat (first | refine blk_drewN ?_ _ | refine blk_drew ?_ | refine blk_alloc ?_ _)); exact BK220.out) hg (Kd.R_ne HO_3.out BK220.out (by decide))); have n1_ := Aside0.mk (hb); have n2_ := Aside0.mk (ho); clear BK220; clear HB; clear HO_3; have BK220 := n0_; have HB := n1_; have HO224 := n2_; clear n0_ n1_ n2_; clear ho hb hg hat))
        go_roundg k1
        case measure => have := HK1.out; omega
        case rel => exact ⟨(y222), (wrap64 (x9_1 + 1)), (by first | rfl | (simp; done) | (simp [*]; done)), H', ⟨by have := HK1.out; omega⟩, ⟨by (with_reducible repeat (first | apply Kd.R_alloc | apply Kd.R_drewN | apply Kd.R_drew)); exact HO224.out⟩, ⟨by repeat (first | (with_reducible first | exact HB.out | apply below_alloc | apply pw_below_drewN | apply below_drew1 | refine below_set ?_ GE220.out) | exact HB.out)⟩⟩
       ·rw [if_neg c10] at H
        exact absurd H (by simp)
     ·rw [if_neg c4] at H
      exact absurd H (by simp)
    ·rw [if_neg c3] at H
     exact absurd H (by simp)
   ·rw [if_neg c2] at H
    have c2b0 : decide (x9_1 < (l0.length : Int)) = false := decide_eq_false c2
    clear c2
    replace H := Option.bind_eq_some_iff.mp H
    obtain ⟨t225, A150, H⟩ := H
    replace H : (some t225) = some r := H
    have A15 := Aside0.mk A150
    clear A150
    obtain rfl := Option.some.inj H
    obtain ⟨Ao16, co16, eo16⟩ := Kd.R_slice HO_3.out
    subst eo16
    go_wp2_with (first | ((with_reducible refine gate_callee (f := 21) rfl ?_); refine goesL_ (some 23) rfl rfl Tryz.func21 (by kernel_rfl) rfl #[.slice Ao16 x3_1.length co16, .string (⟨#[32]⟩ : ByteArray)] rfl (by (try simp only [List.map_toArray, List.map_cons, List.map_nil]); first | done | rfl | (simp only [List.length_drop, List.length_take]; rfl)) ?_; (with_reducible refine (strings_Join.calls _ _ x3_1 (⟨#[32]⟩ : ByteArray) t225 _ ?side1 ?side2 A15.out).mono ?_); (case side1 => repeat (first | exact (Kd.R_reads' HO_3.out).2.2 | (with_reducible refine Kd.C_alloc ?_ _) | (with_reducible refine Kd.C_drewN ?_ _) | (with_reducible refine Kd.C_drew ?_))); (case side2 => exact (Kd.R_reads' HO_3.out).2.1); rintro e w17 ⟨rfl, hb⟩; refine ⟨_, rfl, ?_⟩; have n0_ := Aside0.mk (Kd.R_below (by (with_reducible repeat (first | apply Kd.R_alloc | apply Kd.R_drewN | apply Kd.R_drew)); exact HO_3.out) hb); have n1_ := Aside0.mk (below_step (by repeat (first | (with_reducible first | exact HB.out | apply below_alloc | apply pw_below_drewN | apply below_drew1) | exact HB.out)) hb); clear HO_3; clear HB; have HO_3 := n0_; have HB := n1_; clear n0_ n1_; (try clear hb); (try clear hb2); (try clear hk); (try clear hi)))
    go_ret
    exact ⟨by first | rfl | (simp [errW_none, errW_some] <;> rfl) | (simp [*, errW_none, errW_some] <;> rfl), by repeat (first | (with_reducible first | exact HB.out | apply below_alloc | apply pw_below_drewN | apply below_drew1) | exact HB.out)⟩

end Go.Proofs.YtnjobjogddjelaaGreatDoor.Print
end

section
namespace Go.Proofs.YtnjobjogddjelaaGreatDoor.Print
open Go.RowKit Go.Proofs.YtnjobjogddjelaaGreatDoorX Go.Proofs.YtnjobjogddjelaaGreatDoorW.PrintWords Go.Proofs.YtnjobjogddjelaaGreatDoorW.PrintLast Go.Proofs.YtnjobjogddjelaaGreatDoorW.PrintMore
attribute [local go_sem] max2_int min2_int max_two min_two max_three min_three max_four min_four

/-! ### spillwaylaw7_known: function 8 -/
def spillwaylaw7_known.f (k : Nat)  : Option (Bool) := (lex_Scan.f k (⟨#[114, 97, 116, 101, 40, 120, 91, 53, 116, 93, 41, 32, 62, 61, 32, 49, 46, 53]⟩ : ByteArray)).bind fun bt226 => ((lex_Scan.f k (⟨#[97, 32, 36]⟩ : ByteArray)).bind fun bt231 => (if bt226.2.2 = 0 then (if bt226.2.1 = 0 then (if (bt226.1.length : Int) = 10 then (if 4 < (bt226.1.length : Int) then (if ((rd_T36 bt226.1 4).f0) = 3 then (if ((rd_T36 bt226.1 4).f4) = 5 then (if 7 < (bt226.1.length : Int) then (if ((rd_T36 bt226.1 7).f2).toList = ([62, 61] : List UInt8) then (if 8 < (bt226.1.length : Int) then (if ((rd_T36 bt226.1 8).f3.f1) = 1500000 then (if 9 < (bt226.1.length : Int) then (if ((rd_T36 bt226.1 9).f0) = 0 then (if bt231.2.2 = 70 then (if bt231.2.1 = 2 then ((lex_Print.f k bt226.1).bind fun t241 => (some (t241.toList == ([114, 97, 116, 101, 32, 40, 32, 120, 32, 91, 32, 53, 116, 32, 93, 32, 41, 32, 62, 61, 32, 49, 46, 53] : List UInt8)))) else (none)) else (none)) else (none)) else (none)) else (none)) else (none)) else (none)) else (none)) else (none)) else (none)) else (none)) else (none)) else (none)) else (none)))
theorem spillwaylaw7_known.mono : ∀ k, LeO (spillwaylaw7_known.f k ) (spillwaylaw7_known.f (k + 1) ) := by
 intro  k
 unfold spillwaylaw7_known.f
 repeat' first
   | (with_reducible exact lex_Print.mono _ _)
   | (with_reducible exact lex_Scan.mono _ _)
   | (with_reducible exact LeO.refl _)
   | (with_reducible exact LeO.none _)
   | (with_reducible refine LeO.ite ?_ ?_)
   | (with_reducible refine LeO.bind ?_ (fun _ => ?_))
   | exact lex_Print.mono _ _
   | exact lex_Scan.mono _ _
   | exact LeO.none _
   | refine LeO.ite ?_ ?_
   | refine LeO.bind ?_ (fun _ => ?_)
set_option maxHeartbeats 8000000 in
set_option maxRecDepth 100000 in
theorem spillwaylaw7_known.calls (k : Nat)  (r : Bool) (w : World) (hg_ : LaidW w) (h : spillwaylaw7_known.f k  = some r) :
  Calls Tryz.prog 8 #[] w fun e w' => e = .returned (.bool r) ∧ Below w.heap.size w w' := by
 have HLW := Aside0.mk hg_
 clear hg_
 have HB := Aside0.mk (Below.refl w.heap.size w)
 have H : ((lex_Scan.f k (⟨#[114, 97, 116, 101, 40, 120, 91, 53, 116, 93, 41, 32, 62, 61, 32, 49, 46, 53]⟩ : ByteArray)).bind fun bt226 => ((lex_Scan.f k (⟨#[97, 32, 36]⟩ : ByteArray)).bind fun bt231 => (if bt226.2.2 = 0 then (if bt226.2.1 = 0 then (if (bt226.1.length : Int) = 10 then (if 4 < (bt226.1.length : Int) then (if ((rd_T36 bt226.1 4).f0) = 3 then (if ((rd_T36 bt226.1 4).f4) = 5 then (if 7 < (bt226.1.length : Int) then (if ((rd_T36 bt226.1 7).f2).toList = ([62, 61] : List UInt8) then (if 8 < (bt226.1.length : Int) then (if ((rd_T36 bt226.1 8).f3.f1) = 1500000 then (if 9 < (bt226.1.length : Int) then (if ((rd_T36 bt226.1 9).f0) = 0 then (if bt231.2.2 = 70 then (if bt231.2.1 = 2 then ((lex_Print.f k bt226.1).bind fun t241 => (some (t241.toList == ([114, 97, 116, 101, 32, 40, 32, 120, 32, 91, 32, 53, 116, 32, 93, 32, 41, 32, 62, 61, 32, 49, 46, 53] : List UInt8)))) else (none)) else (none)) else (none)) else (none)) else (none)) else (none)) else (none)) else (none)) else (none)) else (none)) else (none)) else (none)) else (none)) else (none)))) = some r := h
 clear h
 replace H := Option.bind_eq_some_iff.mp H
 obtain ⟨⟨t226, t227, t228⟩, A10, H⟩ := H
 replace H : ((lex_Scan.f k (⟨#[97, 32, 36]⟩ : ByteArray)).bind fun bt231 => (if t228 = 0 then (if t227 = 0 then (if (t226.length : Int) = 10 then (if 4 < (t226.length : Int) then (if ((rd_T36 t226 4).f0) = 3 then (if ((rd_T36 t226 4).f4) = 5 then (if 7 < (t226.length : Int) then (if ((rd_T36 t226 7).f2).toList = ([62, 61] : List UInt8) then (if 8 < (t226.length : Int) then (if ((rd_T36 t226 8).f3.f1) = 1500000 then (if 9 < (t226.length : Int) then (if ((rd_T36 t226 9).f0) = 0 then (if bt231.2.2 = 70 then (if bt231.2.1 = 2 then ((lex_Print.f k t226).bind fun t241 => (some (t241.toList == ([114, 97, 116, 101, 32, 40, 32, 120, 32, 91, 32, 53, 116, 32, 93, 32, 41, 32, 62, 61, 32, 49, 46, 53] : List UInt8)))) else (none)) else (none)) else (none)) else (none)) else (none)) else (none)) else (none)) else (none)) else (none)) else (none)) else (none)) else (none)) else (none)) else (none))) = some r := H
 have A1 := Aside0.mk A10
 clear A10
 replace H := Option.bind_eq_some_iff.mp H
 obtain ⟨⟨t231, t232, t233⟩, A20, H⟩ := H
 replace H : (if t228 = 0 then (if t227 = 0 then (if (t226.length : Int) = 10 then (if 4 < (t226.length : Int) then (if ((rd_T36 t226 4).f0) = 3 then (if ((rd_T36 t226 4).f4) = 5 then (if 7 < (t226.length : Int) then (if ((rd_T36 t226 7).f2).toList = ([62, 61] : List UInt8) then (if 8 < (t226.length : Int) then (if ((rd_T36 t226 8).f3.f1) = 1500000 then (if 9 < (t226.length : Int) then (if ((rd_T36 t226 9).f0) = 0 then (if t233 = 70 then (if t232 = 2 then ((lex_Print.f k t226).bind fun t241 => (some (t241.toList == ([114, 97, 116, 101, 32, 40, 32, 120, 32, 91, 32, 53, 116, 32, 93, 32, 41, 32, 62, 61, 32, 49, 46, 53] : List UInt8)))) else (none)) else (none)) else (none)) else (none)) else (none)) else (none)) else (none)) else (none)) else (none)) else (none)) else (none)) else (none)) else (none)) else (none)) = some r := H
 have A2 := Aside0.mk A20
 clear A20
 by_cases c3 : t228 = 0
 ·rw [if_pos c3] at H
  have c3b0 : (t228 == 0) = true := beq_iff_eq.mpr c3
  have c3b1 : (t228 != 0) = false := bne_eq_false_iff_eq.mpr c3
  clear c3
  by_cases c4 : t227 = 0
  ·rw [if_pos c4] at H
   have c4b0 : (t227 == 0) = true := beq_iff_eq.mpr c4
   have c4b1 : (t227 != 0) = false := bne_eq_false_iff_eq.mpr c4
   clear c4
   by_cases c5 : (t226.length : Int) = 10
   ·rw [if_pos c5] at H
    have c5b0 : ((t226.length : Int) == 10) = true := beq_iff_eq.mpr c5
    have c5b1 : ((t226.length : Int) != 10) = false := bne_eq_false_iff_eq.mpr c5
    clear c5
    by_cases c6 : 4 < (t226.length : Int)
    ·rw [if_pos c6] at H
     have c6b0 : decide (4 < (t226.length : Int)) = true := decide_eq_true c6
     have c6b1 : decide (4 < t226.length) = true := decide_eq_true (by omega)
     clear c6
     by_cases c7 : ((rd_T36 t226 4).f0) = 3
     ·rw [if_pos c7] at H
      have c7b0 : (((rd_T36 t226 4).f0) == 3) = true := beq_iff_eq.mpr c7
      have c7b1 : (((rd_T36 t226 4).f0) != 3) = false := bne_eq_false_iff_eq.mpr c7
      clear c7
      by_cases c8 : ((rd_T36 t226 4).f4) = 5
      ·rw [if_pos c8] at H
       have c8b0 : (((rd_T36 t226 4).f4) == 5) = true := beq_iff_eq.mpr c8
       have c8b1 : (((rd_T36 t226 4).f4) != 5) = false := bne_eq_false_iff_eq.mpr c8
       clear c8
       by_cases c9 : 7 < (t226.length : Int)
       ·rw [if_pos c9] at H
        have c9b0 : decide (7 < (t226.length : Int)) = true := decide_eq_true c9
        have c9b1 : decide (7 < t226.length) = true := decide_eq_true (by omega)
        clear c9
        by_cases c10 : ((rd_T36 t226 7).f2).toList = ([62, 61] : List UInt8)
        ·rw [if_pos c10] at H
         have c10b0 : (((rd_T36 t226 7).f2).toList == ([62, 61] : List UInt8)) = true := beq_iff_eq.mpr c10
         have c10b1 : (((rd_T36 t226 7).f2).toList != ([62, 61] : List UInt8)) = false := bne_eq_false_iff_eq.mpr c10
         clear c10
         by_cases c11 : 8 < (t226.length : Int)
         ·rw [if_pos c11] at H
          have c11b0 : decide (8 < (t226.length : Int)) = true := decide_eq_true c11
          have c11b1 : decide (8 < t226.length) = true := decide_eq_true (by omega)
          clear c11
          by_cases c12 : ((rd_T36 t226 8).f3.f1) = 1500000
          ·rw [if_pos c12] at H
           have c12b0 : (((rd_T36 t226 8).f3.f1) == 1500000) = true := beq_iff_eq.mpr c12
           have c12b1 : (((rd_T36 t226 8).f3.f1) != 1500000) = false := bne_eq_false_iff_eq.mpr c12
           clear c12
           by_cases c13 : 9 < (t226.length : Int)
           ·rw [if_pos c13] at H
            have c13b0 : decide (9 < (t226.length : Int)) = true := decide_eq_true c13
            have c13b1 : decide (9 < t226.length) = true := decide_eq_true (by omega)
            clear c13
            by_cases c14 : ((rd_T36 t226 9).f0) = 0
            ·rw [if_pos c14] at H
             have c14b0 : (((rd_T36 t226 9).f0) == 0) = true := beq_iff_eq.mpr c14
             have c14b1 : (((rd_T36 t226 9).f0) != 0) = false := bne_eq_false_iff_eq.mpr c14
             clear c14
             by_cases c15 : t233 = 70
             ·rw [if_pos c15] at H
              have c15b0 : (t233 == 70) = true := beq_iff_eq.mpr c15
              have c15b1 : (t233 != 70) = false := bne_eq_false_iff_eq.mpr c15
              clear c15
              by_cases c16 : t232 = 2
              ·rw [if_pos c16] at H
               have c16b0 : (t232 == 2) = true := beq_iff_eq.mpr c16
               have c16b1 : (t232 != 2) = false := bne_eq_false_iff_eq.mpr c16
               clear c16
               replace H := Option.bind_eq_some_iff.mp H
               obtain ⟨t241, A170, H⟩ := H
               replace H : (some (t241.toList == ([114, 97, 116, 101, 32, 40, 32, 120, 32, 91, 32, 53, 116, 32, 93, 32, 41, 32, 62, 61, 32, 49, 46, 53] : List UInt8))) = some r := H
               have A17 := Aside0.mk A170
               clear A170
               obtain rfl := Option.some.inj H
               go_enter Tryz.func8, Tryz.ntmps8
               go_wp2_with (first | ((with_reducible refine gate_callee (f := 9) rfl ?_); refine goesL_ (some 8) rfl rfl Tryz.func9 (by kernel_rfl) rfl #[.string (⟨#[114, 97, 116, 101, 40, 120, 91, 53, 116, 93, 41, 32, 62, 61, 32, 49, 46, 53]⟩ : ByteArray)] rfl (by (try simp only [List.map_toArray, List.map_cons, List.map_nil]); first | done | rfl | (simp only [List.length_drop, List.length_take]; rfl)) ?_; (with_reducible refine (lex_Scan.calls k (⟨#[114, 97, 116, 101, 40, 120, 91, 53, 116, 93, 41, 32, 62, 61, 32, 49, 46, 53]⟩ : ByteArray) t226 t227 t228 _ ?side1 A1.out).mono ?_); (case side1 => exact LaidW.below HLW.out (by repeat (first | (with_reducible first | exact HB.out | apply below_alloc | apply pw_below_drewN | apply below_drew1) | exact HB.out | (refine below_set ?_ (Aside0.out ?hge); (case hge => assumption))))); rintro e w18 ⟨v229, rfl, ho0, hb⟩; refine ⟨_, rfl, ?_⟩; have n0_ := Aside0.mk (Kd.R_lower ho0 (below_size (by repeat (first | (with_reducible first | exact HB.out | apply below_alloc | apply pw_below_drewN | apply below_drew1) | exact HB.out)))); have n1_ := Aside0.mk (below_step (by repeat (first | (with_reducible first | exact HB.out | apply below_alloc | apply pw_below_drewN | apply below_drew1) | exact HB.out)) hb); clear HB; have HO230 := n0_; have HB := n1_; clear n0_ n1_; (try clear hb); (try clear hb2); (try clear hk); (try clear hi); (try clear ho0)) | ((with_reducible refine gate_callee (f := 9) rfl ?_); refine goesL_ (some 13) rfl rfl Tryz.func9 (by kernel_rfl) rfl #[.string (⟨#[97, 32, 36]⟩ : ByteArray)] rfl (by (try simp only [List.map_toArray, List.map_cons, List.map_nil]); first | done | rfl | (simp only [List.length_drop, List.length_take]; rfl)) ?_; (with_reducible refine (lex_Scan.calls k (⟨#[97, 32, 36]⟩ : ByteArray) t231 t232 t233 _ ?side1 A2.out).mono ?_); (case side1 => exact LaidW.below HLW.out (by repeat (first | (with_reducible first | exact HB.out | apply below_alloc | apply pw_below_drewN | apply below_drew1) | exact HB.out | (refine below_set ?_ (Aside0.out ?hge); (case hge => assumption))))); rintro e w19 ⟨v234, rfl, ho0, hb⟩; refine ⟨_, rfl, ?_⟩; have n0_ := Aside0.mk (Kd.R_elder' (by (with_reducible repeat (first | apply Kd.R_alloc | apply Kd.R_drewN | apply Kd.R_drew)); exact HO230.out) (Kd.R_base ho0) hb); have n1_ := Aside0.mk (Kd.R_lower (Kd.R_new' ho0 (Kd.R_lt (by (with_reducible repeat (first | apply Kd.R_alloc | apply Kd.R_drewN | apply Kd.R_drew)); exact HO230.out))) (below_size (by repeat (first | (with_reducible first | exact HB.out | apply below_alloc | apply pw_below_drewN | apply below_drew1) | exact HB.out)))); have n2_ := Aside0.mk (below_step (by repeat (first | (with_reducible first | exact HB.out | apply below_alloc | apply pw_below_drewN | apply below_drew1) | exact HB.out)) hb); clear HO230; clear HB; have HO230 := n0_; have HO235 := n1_; have HB := n2_; clear n0_ n1_ n2_; (try clear hb); (try clear hb2); (try clear hk); (try clear hi); (try clear ho0); obtain ⟨Ao20, co20, eo20⟩ := Kd.R_slice HO230.out; subst eo20; have p236 : 0 ≤ (4 : Int) := (by omega); have q236 : 4 < (t226.length : Int) := of_decide_eq_true (by first | (with_reducible assumption) | assumption); obtain ⟨ad236, e236, hx236_0, hx236_1, hx236_2, hx236_3, hx236_4, hx236_5⟩ := at_T36 (Kd.R_reads' HO230.out).2.2 4 p236 q236; cases e236; (try simp only [show (4 : Int).toNat = 4 from rfl, Nat.reduceMul, Nat.reduceEqDiff, Go.Addr.add, ↓reduceIte] at hx236_0); (try simp only [show (4 : Int).toNat = 4 from rfl, Nat.reduceMul, Nat.reduceEqDiff, Go.Addr.add, ↓reduceIte] at hx236_1); (try simp only [show (4 : Int).toNat = 4 from rfl, Nat.reduceMul, Nat.reduceEqDiff, Go.Addr.add, ↓reduceIte] at hx236_2); (try simp only [show (4 : Int).toNat = 4 from rfl, Nat.reduceMul, Nat.reduceEqDiff, Go.Addr.add, ↓reduceIte] at hx236_3); (try simp only [show (4 : Int).toNat = 4 from rfl, Nat.reduceMul, Nat.reduceEqDiff, Go.Addr.add, ↓reduceIte] at hx236_4); (try simp only [show (4 : Int).toNat = 4 from rfl, Nat.reduceMul, Nat.reduceEqDiff, Go.Addr.add, ↓reduceIte] at hx236_5); have qi236 : (4 < t226.length) = True := eq_true (by omega); (try rw [show ((4 : Int)).toNat = 4 from rfl] at hx236_0); (try rw [show 4 * 6 = 24 from rfl] at hx236_0); (try rw [show ((4 : Int)).toNat = 4 from rfl] at hx236_1); (try rw [show 4 * 6 = 24 from rfl] at hx236_1); (try rw [show ((4 : Int)).toNat = 4 from rfl] at hx236_2); (try rw [show 4 * 6 = 24 from rfl] at hx236_2); (try rw [show ((4 : Int)).toNat = 4 from rfl] at hx236_3); (try rw [show 4 * 6 = 24 from rfl] at hx236_3); (try rw [show ((4 : Int)).toNat = 4 from rfl] at hx236_4); (try rw [show 4 * 6 = 24 from rfl] at hx236_4); (try rw [show ((4 : Int)).toNat = 4 from rfl] at hx236_5); (try rw [show 4 * 6 = 24 from rfl] at hx236_5); replace p236 := eq_true p236; replace q236 := eq_true q236; have p237 : 0 ≤ (4 : Int) := (by omega); have q237 : 4 < (t226.length : Int) := of_decide_eq_true (by first | (with_reducible assumption) | assumption); obtain ⟨ad237, e237, hx237_0, hx237_1, hx237_2, hx237_3, hx237_4, hx237_5⟩ := at_T36 (Kd.R_reads' HO230.out).2.2 4 p237 q237; obtain rfl : ad236 = ad237 := (by injection e237); (try simp only [show (4 : Int).toNat = 4 from rfl, Nat.reduceMul, Nat.reduceEqDiff, Go.Addr.add, ↓reduceIte] at hx237_0); (try simp only [show (4 : Int).toNat = 4 from rfl, Nat.reduceMul, Nat.reduceEqDiff, Go.Addr.add, ↓reduceIte] at hx237_1); (try simp only [show (4 : Int).toNat = 4 from rfl, Nat.reduceMul, Nat.reduceEqDiff, Go.Addr.add, ↓reduceIte] at hx237_2); (try simp only [show (4 : Int).toNat = 4 from rfl, Nat.reduceMul, Nat.reduceEqDiff, Go.Addr.add, ↓reduceIte] at hx237_3); (try simp only [show (4 : Int).toNat = 4 from rfl, Nat.reduceMul, Nat.reduceEqDiff, Go.Addr.add, ↓reduceIte] at hx237_4); (try simp only [show (4 : Int).toNat = 4 from rfl, Nat.reduceMul, Nat.reduceEqDiff, Go.Addr.add, ↓reduceIte] at hx237_5); have qi237 : (4 < t226.length) = True := eq_true (by omega); (try rw [show ((4 : Int)).toNat = 4 from rfl] at hx237_0); (try rw [show 4 * 6 = 24 from rfl] at hx237_0); (try rw [show ((4 : Int)).toNat = 4 from rfl] at hx237_1); (try rw [show 4 * 6 = 24 from rfl] at hx237_1); (try rw [show ((4 : Int)).toNat = 4 from rfl] at hx237_2); (try rw [show 4 * 6 = 24 from rfl] at hx237_2); (try rw [show ((4 : Int)).toNat = 4 from rfl] at hx237_3); (try rw [show 4 * 6 = 24 from rfl] at hx237_3); (try rw [show ((4 : Int)).toNat = 4 from rfl] at hx237_4); (try rw [show 4 * 6 = 24 from rfl] at hx237_4); (try rw [show ((4 : Int)).toNat = 4 from rfl] at hx237_5); (try rw [show 4 * 6 = 24 from rfl] at hx237_5); replace p237 := eq_true p237; replace q237 := eq_true q237; have p238 : 0 ≤ (7 : Int) := (by omega); have q238 : 7 < (t226.length : Int) := of_decide_eq_true (by first | (with_reducible assumption) | assumption); obtain ⟨ad238, e238, hx238_0, hx238_1, hx238_2, hx238_3, hx238_4, hx238_5⟩ := at_T36 (Kd.R_reads' HO230.out).2.2 7 p238 q238; obtain rfl : ad236 = ad238 := (by injection e238); (try simp only [show (7 : Int).toNat = 7 from rfl, Nat.reduceMul, Nat.reduceEqDiff, Go.Addr.add, ↓reduceIte] at hx238_0); (try simp only [show (7 : Int).toNat = 7 from rfl, Nat.reduceMul, Nat.reduceEqDiff, Go.Addr.add, ↓reduceIte] at hx238_1); (try simp only [show (7 : Int).toNat = 7 from rfl, Nat.reduceMul, Nat.reduceEqDiff, Go.Addr.add, ↓reduceIte] at hx238_2); (try simp only [show (7 : Int).toNat = 7 from rfl, Nat.reduceMul, Nat.reduceEqDiff, Go.Addr.add, ↓reduceIte] at hx238_3); (try simp only [show (7 : Int).toNat = 7 from rfl, Nat.reduceMul, Nat.reduceEqDiff, Go.Addr.add, ↓reduceIte] at hx238_4); (try simp only [show (7 : Int).toNat = 7 from rfl, Nat.reduceMul, Nat.reduceEqDiff, Go.Addr.add, ↓reduceIte] at hx238_5); have qi238 : (7 < t226.length) = True := eq_true (by omega); (try rw [show ((7 : Int)).toNat = 7 from rfl] at hx238_0); (try rw [show 7 * 6 = 42 from rfl] at hx238_0); (try rw [show ((7 : Int)).toNat = 7 from rfl] at hx238_1); (try rw [show 7 * 6 = 42 from rfl] at hx238_1); (try rw [show ((7 : Int)).toNat = 7 from rfl] at hx238_2); (try rw [show 7 * 6 = 42 from rfl] at hx238_2); (try rw [show ((7 : Int)).toNat = 7 from rfl] at hx238_3); (try rw [show 7 * 6 = 42 from rfl] at hx238_3); (try rw [show ((7 : Int)).toNat = 7 from rfl] at hx238_4); (try rw [show 7 * 6 = 42 from rfl] at hx238_4); (try rw [show ((7 : Int)).toNat = 7 from rfl] at hx238_5); (try rw [show 7 * 6 = 42 from rfl] at hx238_5); replace p238 := eq_true p238; replace q238 := eq_true q238; have p239 : 0 ≤ (8 : Int) := (by omega); have q239 : 8 < (t226.length : Int) := of_decide_eq_true (by first | (with_reducible assumption) | assumption); obtain ⟨ad239, e239, hx239_0, hx239_1, hx239_2, hx239_3, hx239_4, hx239_5⟩ := at_T36 (Kd.R_reads' HO230.out).2.2 8 p239 q239; obtain rfl : ad236 = ad239 := (by injection e239); (try simp only [show (8 : Int).toNat = 8 from rfl, Nat.reduceMul, Nat.reduceEqDiff, Go.Addr.add, ↓reduceIte] at hx239_0); (try simp only [show (8 : Int).toNat = 8 from rfl, Nat.reduceMul, Nat.reduceEqDiff, Go.Addr.add, ↓reduceIte] at hx239_1); (try simp only [show (8 : Int).toNat = 8 from rfl, Nat.reduceMul, Nat.reduceEqDiff, Go.Addr.add, ↓reduceIte] at hx239_2); (try simp only [show (8 : Int).toNat = 8 from rfl, Nat.reduceMul, Nat.reduceEqDiff, Go.Addr.add, ↓reduceIte] at hx239_3); (try simp only [show (8 : Int).toNat = 8 from rfl, Nat.reduceMul, Nat.reduceEqDiff, Go.Addr.add, ↓reduceIte] at hx239_4); (try simp only [show (8 : Int).toNat = 8 from rfl, Nat.reduceMul, Nat.reduceEqDiff, Go.Addr.add, ↓reduceIte] at hx239_5); have qi239 : (8 < t226.length) = True := eq_true (by omega); (try rw [show ((8 : Int)).toNat = 8 from rfl] at hx239_0); (try rw [show 8 * 6 = 48 from rfl] at hx239_0); (try rw [show ((8 : Int)).toNat = 8 from rfl] at hx239_1); (try rw [show 8 * 6 = 48 from rfl] at hx239_1); (try rw [show ((8 : Int)).toNat = 8 from rfl] at hx239_2); (try rw [show 8 * 6 = 48 from rfl] at hx239_2); (try rw [show ((8 : Int)).toNat = 8 from rfl] at hx239_3); (try rw [show 8 * 6 = 48 from rfl] at hx239_3); (try rw [show ((8 : Int)).toNat = 8 from rfl] at hx239_4); (try rw [show 8 * 6 = 48 from rfl] at hx239_4); (try rw [show ((8 : Int)).toNat = 8 from rfl] at hx239_5); (try rw [show 8 * 6 = 48 from rfl] at hx239_5); replace p239 := eq_true p239; replace q239 := eq_true q239; have p240 : 0 ≤ (9 : Int) := (by omega); have q240 : 9 < (t226.length : Int) := of_decide_eq_true (by first | (with_reducible assumption) | assumption); obtain ⟨ad240, e240, hx240_0, hx240_1, hx240_2, hx240_3, hx240_4, hx240_5⟩ := at_T36 (Kd.R_reads' HO230.out).2.2 9 p240 q240; obtain rfl : ad236 = ad240 := (by injection e240); (try simp only [show (9 : Int).toNat = 9 from rfl, Nat.reduceMul, Nat.reduceEqDiff, Go.Addr.add, ↓reduceIte] at hx240_0); (try simp only [show (9 : Int).toNat = 9 from rfl, Nat.reduceMul, Nat.reduceEqDiff, Go.Addr.add, ↓reduceIte] at hx240_1); (try simp only [show (9 : Int).toNat = 9 from rfl, Nat.reduceMul, Nat.reduceEqDiff, Go.Addr.add, ↓reduceIte] at hx240_2); (try simp only [show (9 : Int).toNat = 9 from rfl, Nat.reduceMul, Nat.reduceEqDiff, Go.Addr.add, ↓reduceIte] at hx240_3); (try simp only [show (9 : Int).toNat = 9 from rfl, Nat.reduceMul, Nat.reduceEqDiff, Go.Addr.add, ↓reduceIte] at hx240_4); (try simp only [show (9 : Int).toNat = 9 from rfl, Nat.reduceMul, Nat.reduceEqDiff, Go.Addr.add, ↓reduceIte] at hx240_5); have qi240 : (9 < t226.length) = True := eq_true (by omega); (try rw [show ((9 : Int)).toNat = 9 from rfl] at hx240_0); (try rw [show 9 * 6 = 54 from rfl] at hx240_0); (try rw [show ((9 : Int)).toNat = 9 from rfl] at hx240_1); (try rw [show 9 * 6 = 54 from rfl] at hx240_1); (try rw [show ((9 : Int)).toNat = 9 from rfl] at hx240_2); (try rw [show 9 * 6 = 54 from rfl] at hx240_2); (try rw [show ((9 : Int)).toNat = 9 from rfl] at hx240_3); (try rw [show 9 * 6 = 54 from rfl] at hx240_3); (try rw [show ((9 : Int)).toNat = 9 from rfl] at hx240_4); (try rw [show 9 * 6 = 54 from rfl] at hx240_4); (try rw [show ((9 : Int)).toNat = 9 from rfl] at hx240_5); (try rw [show 9 * 6 = 54 from rfl] at hx240_5); replace p240 := eq_true p240; replace q240 := eq_true q240) | (go_at_call 12; (with_reducible refine (lex_Print.calls k _ _ t226 t241 _ ?side1 ?side2 ?side3 A17.out).mono ?_); (case side1 => repeat (first | exact (Kd.R_reads' HO230.out).2.2 | (with_reducible refine Kd.C_alloc ?_ _) | (with_reducible refine Kd.C_drewN ?_ _) | (with_reducible refine Kd.C_drew ?_))); (case side2 => exact (Kd.R_reads' HO230.out).2.1); (case side3 => exact LaidW.below HLW.out (by repeat (first | (with_reducible first | exact HB.out | apply below_alloc | apply pw_below_drewN | apply below_drew1) | exact HB.out | (refine below_set ?_ (Aside0.out ?hge); (case hge => assumption))))); rintro e w21 ⟨rfl, hb⟩; have n0_ := Aside0.mk (Kd.R_below (by (with_reducible repeat (first | apply Kd.R_alloc | apply Kd.R_drewN | apply Kd.R_drew)); exact HO230.out) hb); have n1_ := Aside0.mk (Kd.R_below (by (with_reducible repeat (first | apply Kd.R_alloc | apply Kd.R_drewN | apply Kd.R_drew)); exact HO235.out) hb); have n2_ := Aside0.mk (below_step (by repeat (first | (with_reducible first | exact HB.out | apply below_alloc | apply pw_below_drewN | apply below_drew1) | exact HB.out)) hb); clear HO230; clear HO235; clear HB; have HO230 := n0_; have HO235 := n1_; have HB := n2_; clear n0_ n1_ n2_; (try clear hb); (try clear hb2); (try clear hk); (try clear hi)))
               go_ret
               exact ⟨by first | rfl | (simp [errW_none, errW_some] <;> rfl) | (simp [*, errW_none, errW_some] <;> rfl), by repeat (first | (with_reducible first | exact HB.out | apply below_alloc | apply pw_below_drewN | apply below_drew1) | exact HB.out)⟩
              ·rw [if_neg c16] at H
               exact absurd H (by simp)
             ·rw [if_neg c15] at H
              exact absurd H (by simp)
            ·rw [if_neg c14] at H
             exact absurd H (by simp)
           ·rw [if_neg c13] at H
            exact absurd H (by simp)
          ·rw [if_neg c12] at H
           exact absurd H (by simp)
         ·rw [if_neg c11] at H
          exact absurd H (by simp)
        ·rw [if_neg c10] at H
         exact absurd H (by simp)
       ·rw [if_neg c9] at H
        exact absurd H (by simp)
      ·rw [if_neg c8] at H
       exact absurd H (by simp)
     ·rw [if_neg c7] at H
      exact absurd H (by simp)
    ·rw [if_neg c6] at H
     exact absurd H (by simp)
   ·rw [if_neg c5] at H
    exact absurd H (by simp)
  ·rw [if_neg c4] at H
   exact absurd H (by simp)
 ·rw [if_neg c3] at H
  exact absurd H (by simp)

end Go.Proofs.YtnjobjogddjelaaGreatDoor.Print
end

section
namespace Go.Proofs.YtnjobjogddjelaaGreatDoor.PureN
open Go.RowKit Go.Proofs.YtnjobjogddjelaaGreatDoor.Print Go.Proofs.YtnjobjogddjelaaGreatDoor.Pure Go.Proofs.YtnjobjogddjelaaGreatDoorW.PrintWords Go.Proofs.YtnjobjogddjelaaGreatDoorW.PrintLast Go.Proofs.YtnjobjogddjelaaGreatDoorW.PrintMore
theorem up_k {α : Type} {f : Nat → Option α} (h : ∀ k, LeO (f k) (f (k + 1))) {k : Nat} {r : α} (e : f k = some r) : ∀ j, f (k + j) = some r
 | 0 => e
 | j + 1 => h (k + j) r (up_k h e j)
theorem known_60 : spillwaylaw7_known.f 60 = some true := by kernel_rfl
end Go.Proofs.YtnjobjogddjelaaGreatDoor.PureN
end

section
namespace Go.Proofs.YtnjobjogddjelaaGreatDoor.Print
open Go.RowKit Go.Proofs.YtnjobjogddjelaaGreatDoorX Go.Proofs.YtnjobjogddjelaaGreatDoorW.PrintWords Go.Proofs.YtnjobjogddjelaaGreatDoorW.PrintLast Go.Proofs.YtnjobjogddjelaaGreatDoorW.PrintMore
attribute [local go_sem] max2_int min2_int max_two min_two max_three min_three max_four min_four

/-! ### spillwayref2_Digits: function 15 -/
def spillwayref2_Digits.l0 : Nat → Int → ByteArray → Option (ByteArray)
 | 0, _, _ => none
 | k + 1, x0, x3 => (some (([(IntKind.u64.wrap (48 + (Int.tmod x0 10))) % 256] : List Int) : List Int)).bind fun y334 => (if (strOfNums y334).size + x3.size ≤ 9223372036854775807 then (if (IntKind.u64.wrap (Int.tdiv x0 10)) = 0 then (some ((strOfNums y334) ++ x3)) else (spillwayref2_Digits.l0 k (IntKind.u64.wrap (Int.tdiv x0 10)) ((strOfNums y334) ++ x3))) else (none))
def spillwayref2_Digits.f (k : Nat) (a0 : Int) : Option (ByteArray) := spillwayref2_Digits.l0 k a0 (⟨#[]⟩ : ByteArray)
theorem spillwayref2_Digits.mono_l : ∀ k, (∀ y0 y1, LeO (spillwayref2_Digits.l0 k y0 y1) (spillwayref2_Digits.l0 (k + 1) y0 y1))
 | 0 => fun _ _ r h => by simp [spillwayref2_Digits.l0] at h
 | k + 1 => by
  have ih0 := spillwayref2_Digits.mono_l k
  ·intro y0 y1
   unfold spillwayref2_Digits.l0
   repeat' first
   | (with_reducible exact ih0 _ _)
   | (with_reducible exact LeO.refl _)
   | (with_reducible exact LeO.none _)
   | (with_reducible refine LeO.ite ?_ ?_)
   | (with_reducible refine LeO.bind ?_ (fun _ => ?_))
   | exact ih0 _ _
   | exact LeO.none _
   | refine LeO.ite ?_ ?_
   | refine LeO.bind ?_ (fun _ => ?_)
theorem spillwayref2_Digits.mono : ∀ a0 k, LeO (spillwayref2_Digits.f k a0) (spillwayref2_Digits.f (k + 1) a0) := by
 intro a0 k
 have ih0 := spillwayref2_Digits.mono_l k
 unfold spillwayref2_Digits.f
 repeat' first
   | (with_reducible exact ih0 _ _)
   | (with_reducible exact LeO.refl _)
   | (with_reducible exact LeO.none _)
   | (with_reducible refine LeO.ite ?_ ?_)
   | (with_reducible refine LeO.bind ?_ (fun _ => ?_))
   | exact ih0 _ _
   | exact LeO.none _
   | refine LeO.ite ?_ ?_
   | refine LeO.bind ?_ (fun _ => ?_)
set_option maxHeartbeats 8000000 in
set_option maxRecDepth 100000 in
theorem spillwayref2_Digits.calls (k : Nat) (a0 : Int) (r : ByteArray) (w : World) (h : spillwayref2_Digits.f k a0 = some r) :
  Calls Tryz.prog 15 #[.int .u64 a0] w fun e w' => e = .returned (.string r) ∧ Below w.heap.size w w' := by
 have HB := Aside0.mk (Below.refl w.heap.size w)
 have H : (spillwayref2_Digits.l0 k a0 (⟨#[]⟩ : ByteArray)) = some r := h
 clear h
 have H' := Aside0.mk H
 clear H
 go_enter Tryz.func15, Tryz.ntmps15
 go_wp2
 go_loopg [0, 3] k (fun kq v0 v3 w' => ∃ (x0_1 : Int) (x3_1 : ByteArray), v0 = .int .u64 x0_1 ∧ v3 = .string x3_1 ∧ Aside0 (spillwayref2_Digits.l0 kq x0_1 x3_1 = some r) ∧ Aside0 (kq ≤ k) ∧ Aside0 (Below w.heap.size w w'))
 case atStart => exact ⟨(a0), ((⟨#[]⟩ : ByteArray)), (by first | rfl | (simp; done) | (simp [*]; done)), (by first | rfl | (simp; done) | (simp [*]; done)), H', ⟨Nat.le_refl _⟩, ⟨by repeat (first | (with_reducible first | exact HB.out | apply below_alloc | apply pw_below_drewN | apply below_drew1) | exact HB.out)⟩⟩
 case round =>
  clear H'
  try clear c1
  obtain ⟨x0_1, x3_1, rfl, rfl, HA, HK1, HB⟩ := hrel
  cases gk with
  | zero => exact absurd HA.out (by simp [spillwayref2_Digits.l0])
  | succ k1 =>
   have H := HA.out
   clear HA
   simp only [spillwayref2_Digits.l0] at H
   obtain ⟨y334, hy334⟩ : ∃ y_ : List Int, y_ = (([(IntKind.u64.wrap (48 + (Int.tmod x0_1 10))) % 256] : List Int)) := ⟨_, rfl⟩
   replace H : (if (strOfNums y334).size + x3_1.size ≤ 9223372036854775807 then (if (IntKind.u64.wrap (Int.tdiv x0_1 10)) = 0 then (some ((strOfNums y334) ++ x3_1)) else (spillwayref2_Digits.l0 k1 (IntKind.u64.wrap (Int.tdiv x0_1 10)) ((strOfNums y334) ++ x3_1))) else (none)) = some r := by first | (rw [hy334]; with_reducible exact H) | (have H2_ := (Option.bind_some _ _).symm.trans H; rw [hy334]; with_reducible exact H2_) | (have H2_ := (Option.bind_some _ _).symm.trans H; with_reducible exact H2_) | with_reducible exact H | (rw [hy334]; exact H) | exact H
   have Ny334 := Aside0.mk hy334
   clear hy334
   by_cases c2 : (strOfNums y334).size + x3_1.size ≤ 9223372036854775807
   ·rw [if_pos c2] at H
    have c2b0 := eq_true c2
    have c2b1 : decide ((strOfNums y334).size + x3_1.size ≤ 9223372036854775807) = true := decide_eq_true c2
    try have c2b2 : (9223372036854775807 < (strOfNums y334).size + x3_1.size) = False := eq_false (Nat.not_lt.2 c2)
    by_cases c3 : (IntKind.u64.wrap (Int.tdiv x0_1 10)) = 0
    ·rw [if_pos c3] at H
     have c3b0 : ((IntKind.u64.wrap (Int.tdiv x0_1 10)) == 0) = true := beq_iff_eq.mpr c3
     have c3b1 : ((IntKind.u64.wrap (Int.tdiv x0_1 10)) != 0) = false := bne_eq_false_iff_eq.mpr c3
     clear c3
     obtain rfl := Option.some.inj H
     go_wp2_with (first | ((with_reducible refine gate_dst (N := 8) rfl ?_); refine Kd.R_lit (Kd.int .u8) _ 5 ?hg (N := 8) ?hd (xs := ([(IntKind.u64.wrap (48 + (Int.tmod x0_1 10))) % 256] : List Int)) (inner := [.int .u8 ((IntKind.u64.wrap (48 + (Int.tmod x0_1 10))) % 256)]) (ok := fun _ => True) (okp := fun _ => True) ?hr ?hp (fun _ hk => hk) trivial (Below.refl _ _) (Nat.le_refl _) (by simp) ?_; (case hd => rfl); (case hg => rfl); (case hr => first | (go_simp; done) | (go_simp; rfl)); (case hp => exact (Reps.one (show Kd.M (Kd.int .u8) _ _ _ ((IntKind.u64.wrap (48 + (Int.tmod x0_1 10))) % 256) [.int .u8 ((IntKind.u64.wrap (48 + (Int.tmod x0_1 10))) % 256)] from rfl) (Reps.none _ _))); intro v335 w4 ho5 hb hg_ hnew_; clear hg_ hnew_; (first | rw [← Ny334.out] at ho5 | (simp only [Int.reduceToNat] at ho5; rw [← Ny334.out] at ho5)); have n0_ := Aside0.mk (Kd.R_lower ho5 (below_size (by repeat (first | (with_reducible first | exact HB.out | apply below_alloc | apply pw_below_drewN | apply below_drew1) | exact HB.out)))); have n1_ := Aside0.mk (below_step (by repeat (first | (with_reducible first | exact HB.out | apply below_alloc | apply pw_below_drewN | apply below_drew1) | exact HB.out)) hb); clear HB; have HO336 := n0_; have HB := n1_; clear n0_ n1_; clear hb ho5; have hcv6 := own_string (P := Tryz.prog) Tryz.underlying44 Tryz.underlying5 Tryz.underlying9 (Kd.own_of_R HO336.out)))
     go_ret
     exact ⟨by first | rfl | (simp [errW_none, errW_some] <;> rfl) | (simp [*, errW_none, errW_some] <;> rfl), by repeat (first | (with_reducible first | exact HB.out | apply below_alloc | apply pw_below_drewN | apply below_drew1) | exact HB.out)⟩
    ·rw [if_neg c3] at H
     have c3b0 : ((IntKind.u64.wrap (Int.tdiv x0_1 10)) == 0) = false := beq_eq_false_iff_ne.mpr c3
     have c3b1 : ((IntKind.u64.wrap (Int.tdiv x0_1 10)) != 0) = true := bne_iff_ne.mpr c3
     have H' := Aside0.mk H
     clear H
     go_wp2_with (first | ((with_reducible refine gate_dst (N := 8) rfl ?_); refine Kd.R_lit (Kd.int .u8) _ 5 ?hg (N := 8) ?hd (xs := ([(IntKind.u64.wrap (48 + (Int.tmod x0_1 10))) % 256] : List Int)) (inner := [.int .u8 ((IntKind.u64.wrap (48 + (Int.tmod x0_1 10))) % 256)]) (ok := fun _ => True) (okp := fun _ => True) ?hr ?hp (fun _ hk => hk) trivial (Below.refl _ _) (Nat.le_refl _) (by simp) ?_; (case hd => rfl); (case hg => rfl); (case hr => first | (go_simp; done) | (go_simp; rfl)); (case hp => exact (Reps.one (show Kd.M (Kd.int .u8) _ _ _ ((IntKind.u64.wrap (48 + (Int.tmod x0_1 10))) % 256) [.int .u8 ((IntKind.u64.wrap (48 + (Int.tmod x0_1 10))) % 256)] from rfl) (Reps.none _ _))); intro v335 w7 ho8 hb hg_ hnew_; clear hg_ hnew_; (first | rw [← Ny334.out] at ho8 | (simp only [Int.reduceToNat] at ho8; rw [← Ny334.out] at ho8)); have n0_ := Aside0.mk (Kd.R_lower ho8 (below_size (by repeat (first | (with_reducible first | exact HB.out | apply below_alloc | apply pw_below_drewN | apply below_drew1) | exact HB.out)))); have n1_ := Aside0.mk (below_step (by repeat (first | (with_reducible first | exact HB.out | apply below_alloc | apply pw_below_drewN | apply below_drew1) | exact HB.out)) hb); clear HB; have HO336 := n0_; have HB := n1_; clear n0_ n1_; clear hb ho8; have hcv9 := own_string (P := Tryz.prog) Tryz.underlying44 Tryz.underlying5 Tryz.underlying9 (Kd.own_of_R HO336.out)))
     go_roundg k1
     case measure => have := HK1.out; omega
     case rel => exact ⟨(IntKind.u64.wrap (Int.tdiv x0_1 10)), ((strOfNums y334) ++ x3_1), (by first | rfl | (simp; done) | (simp [*]; done)), (by first | rfl | (simp; done) | (simp [*]; done)), H', ⟨by have := HK1.out; omega⟩, ⟨by repeat (first | (with_reducible first | exact HB.out | apply below_alloc | apply pw_below_drewN | apply below_drew1) | exact HB.out)⟩⟩
   ·rw [if_neg c2] at H
    exact absurd H (by simp)

end Go.Proofs.YtnjobjogddjelaaGreatDoor.Print
end

section
namespace Go.Proofs.YtnjobjogddjelaaGreatDoor.Print
open Go.RowKit Go.Proofs.YtnjobjogddjelaaGreatDoorX Go.Proofs.YtnjobjogddjelaaGreatDoorW.PrintWords Go.Proofs.YtnjobjogddjelaaGreatDoorW.PrintLast Go.Proofs.YtnjobjogddjelaaGreatDoorW.PrintMore
attribute [local go_sem] max2_int min2_int max_two min_two max_three min_three max_four min_four

/-! ### spillwayref3_Quote: function 16 -/
def spillwayref3_Quote.l0 : Nat → ByteArray → ByteArray → Int → Option (ByteArray)
 | 0, _, _, _ => none
 | k + 1, x0, x3, x4 => if x4 < (x0.size : Int) then (if 0 ≤ x4 then (if (bt x0 x4) = 34 then (if x3.size + 1 ≤ 9223372036854775807 then (if x4 ≤ (wrap64 (x4 + 1)) then (if (wrap64 (x4 + 1)) ≤ (x0.size : Int) then (if (x3 ++ (⟨#[92]⟩ : ByteArray)).size + (x0.extract (x4 : Int).toNat ((wrap64 (x4 + 1)) : Int).toNat).size ≤ 9223372036854775807 then (spillwayref3_Quote.l0 k x0 ((x3 ++ (⟨#[92]⟩ : ByteArray)) ++ (x0.extract (x4 : Int).toNat ((wrap64 (x4 + 1)) : Int).toNat)) (wrap64 (x4 + 1))) else (none)) else (none)) else (none)) else (none)) else (if (bt x0 x4) = 92 then (if x3.size + 1 ≤ 9223372036854775807 then (if x4 ≤ (wrap64 (x4 + 1)) then (if (wrap64 (x4 + 1)) ≤ (x0.size : Int) then (if (x3 ++ (⟨#[92]⟩ : ByteArray)).size + (x0.extract (x4 : Int).toNat ((wrap64 (x4 + 1)) : Int).toNat).size ≤ 9223372036854775807 then (spillwayref3_Quote.l0 k x0 ((x3 ++ (⟨#[92]⟩ : ByteArray)) ++ (x0.extract (x4 : Int).toNat ((wrap64 (x4 + 1)) : Int).toNat)) (wrap64 (x4 + 1))) else (none)) else (none)) else (none)) else (none)) else (if x4 ≤ (wrap64 (x4 + 1)) then (if (wrap64 (x4 + 1)) ≤ (x0.size : Int) then (if x3.size + (x0.extract (x4 : Int).toNat ((wrap64 (x4 + 1)) : Int).toNat).size ≤ 9223372036854775807 then (spillwayref3_Quote.l0 k x0 (x3 ++ (x0.extract (x4 : Int).toNat ((wrap64 (x4 + 1)) : Int).toNat)) (wrap64 (x4 + 1))) else (none)) else (none)) else (none)))) else (none)) else (if x3.size + 1 ≤ 9223372036854775807 then (some (x3 ++ (⟨#[34]⟩ : ByteArray))) else (none))
def spillwayref3_Quote.f (k : Nat) (a0 : ByteArray) : Option (ByteArray) := spillwayref3_Quote.l0 k a0 (⟨#[34]⟩ : ByteArray) 0
theorem spillwayref3_Quote.mono_l : ∀ k, (∀ y0 y1 y2, LeO (spillwayref3_Quote.l0 k y0 y1 y2) (spillwayref3_Quote.l0 (k + 1) y0 y1 y2))
 | 0 => fun _ _ _ r h => by simp [spillwayref3_Quote.l0] at h
 | k + 1 => by
  have ih0 := spillwayref3_Quote.mono_l k
  ·intro y0 y1 y2
   unfold spillwayref3_Quote.l0
   repeat' first
   | (with_reducible exact ih0 _ _ _)
   | (with_reducible exact LeO.refl _)
   | (with_reducible exact LeO.none _)
   | (with_reducible refine LeO.ite ?_ ?_)
   | (with_reducible refine LeO.bind ?_ (fun _ => ?_))
   | exact ih0 _ _ _
   | exact LeO.none _
   | refine LeO.ite ?_ ?_
   | refine LeO.bind ?_ (fun _ => ?_)
theorem spillwayref3_Quote.mono : ∀ a0 k, LeO (spillwayref3_Quote.f k a0) (spillwayref3_Quote.f (k + 1) a0) := by
 intro a0 k
 have ih0 := spillwayref3_Quote.mono_l k
 unfold spillwayref3_Quote.f
 repeat' first
   | (with_reducible exact ih0 _ _ _)
   | (with_reducible exact LeO.refl _)
   | (with_reducible exact LeO.none _)
   | (with_reducible refine LeO.ite ?_ ?_)
   | (with_reducible refine LeO.bind ?_ (fun _ => ?_))
   | exact ih0 _ _ _
   | exact LeO.none _
   | refine LeO.ite ?_ ?_
   | refine LeO.bind ?_ (fun _ => ?_)
set_option maxHeartbeats 8000000 in
set_option maxRecDepth 100000 in
theorem spillwayref3_Quote.calls (k : Nat) (a0 : ByteArray) (r : ByteArray) (w : World) (h : spillwayref3_Quote.f k a0 = some r) :
  Calls Tryz.prog 16 #[.string a0] w fun e w' => e = .returned (.string r) ∧ Drawn0 w w' := by
 have H : (spillwayref3_Quote.l0 k a0 (⟨#[34]⟩ : ByteArray) 0) = some r := h
 clear h
 have H' := Aside0.mk H
 clear H
 go_enter Tryz.func16, Tryz.ntmps16
 go_wp2
 go_loopg [3, 4] k (fun kq v3 v4 w' => ∃ (x3_1 : ByteArray) (x4_1 : Int), v3 = .string x3_1 ∧ v4 = .int .i64 x4_1 ∧ Aside0 (spillwayref3_Quote.l0 kq a0 x3_1 x4_1 = some r) ∧ Aside0 (kq ≤ k) ∧ Drawn0 w w')
 case atStart => exact ⟨((⟨#[34]⟩ : ByteArray)), (0), (by first | rfl | (simp; done) | (simp [*]; done)), (by first | rfl | (simp; done) | (simp [*]; done)), H', ⟨Nat.le_refl _⟩, by repeat (first | exact Drawn0.refl _ | apply Drawn0.step)⟩
 case round =>
  clear H'
  try clear c1
  obtain ⟨x3_1, x4_1, rfl, rfl, HA, HK1, ⟨m1, rfl⟩⟩ := hrel
  cases gk with
  | zero => exact absurd HA.out (by simp [spillwayref3_Quote.l0])
  | succ k1 =>
   have H := HA.out
   clear HA
   simp only [spillwayref3_Quote.l0] at H
   by_cases c2 : x4_1 < (a0.size : Int)
   ·rw [if_pos c2] at H
    have c2b0 : decide (x4_1 < (a0.size : Int)) = true := decide_eq_true c2
    clear c2
    by_cases c3 : 0 ≤ x4_1
    ·rw [if_pos c3] at H
     have c3b0 : decide (0 ≤ x4_1) = true := decide_eq_true c3
     clear c3
     by_cases c5 : (bt a0 x4_1) = 34
     ·rw [if_pos c5] at H
      have c5b0 : ((bt a0 x4_1) == 34) = true := beq_iff_eq.mpr c5
      have c5b1 : ((bt a0 x4_1) != 34) = false := bne_eq_false_iff_eq.mpr c5
      clear c5
      by_cases c6 : x3_1.size + 1 ≤ 9223372036854775807
      ·rw [if_pos c6] at H
       have c6b0 := eq_true c6
       have c6b1 : decide (x3_1.size + 1 ≤ 9223372036854775807) = true := decide_eq_true c6
       try have c6b2 : (9223372036854775807 < x3_1.size + 1) = False := eq_false (Nat.not_lt.2 c6)
       have c7b0 := eq_true (of_decide_eq_true (by first | (with_reducible assumption) | assumption) : 0 ≤ x4_1)
       by_cases c8 : x4_1 ≤ (wrap64 (x4_1 + 1))
       ·rw [if_pos c8] at H
        have c8b0 := eq_true c8
        have c8b1 : decide (x4_1 ≤ (wrap64 (x4_1 + 1))) = true := decide_eq_true c8
        by_cases c9 : (wrap64 (x4_1 + 1)) ≤ (a0.size : Int)
        ·rw [if_pos c9] at H
         have c9b0 := eq_true c9
         have c9b1 : decide ((wrap64 (x4_1 + 1)) ≤ (a0.size : Int)) = true := decide_eq_true c9
         by_cases c10 : (x3_1 ++ (⟨#[92]⟩ : ByteArray)).size + (a0.extract (x4_1 : Int).toNat ((wrap64 (x4_1 + 1)) : Int).toNat).size ≤ 9223372036854775807
         ·rw [if_pos c10] at H
          have c10b0 := eq_true c10
          have c10b1 : decide ((x3_1 ++ (⟨#[92]⟩ : ByteArray)).size + (a0.extract (x4_1 : Int).toNat ((wrap64 (x4_1 + 1)) : Int).toNat).size ≤ 9223372036854775807) = true := decide_eq_true c10
          try have c10b2 : (9223372036854775807 < (x3_1 ++ (⟨#[92]⟩ : ByteArray)).size + (a0.extract (x4_1 : Int).toNat ((wrap64 (x4_1 + 1)) : Int).toNat).size) = False := eq_false (Nat.not_lt.2 c10)
          try (have c10b3 := c10; simp only [ByteArray.size_append, sz_one] at c10b3; have c10b4 := eq_false (Nat.not_lt.2 c10b3); clear c10b3)
          have H' := Aside0.mk H
          clear H
          have p4 : 0 ≤ (x4_1 : Int) := of_decide_eq_true (by first | (with_reducible assumption) | assumption)
          have q4 : x4_1 < (a0.size : Int) := of_decide_eq_true (by first | (with_reducible assumption) | assumption)
          have hx4 := bt_at a0 x4_1
          replace p4 := eq_true p4
          replace q4 := eq_true q4
          go_wp2
          go_roundg k1
          case measure => have := HK1.out; omega
          case rel => exact ⟨((x3_1 ++ (⟨#[92]⟩ : ByteArray)) ++ (a0.extract (x4_1 : Int).toNat ((wrap64 (x4_1 + 1)) : Int).toNat)), (wrap64 (x4_1 + 1)), (by first | rfl | (simp; done) | (simp [*]; done)), (by first | rfl | (simp; done) | (simp [*]; done)), H', ⟨by have := HK1.out; omega⟩, by repeat (first | exact Drawn0.refl _ | apply Drawn0.step)⟩
         ·rw [if_neg c10] at H
          exact absurd H (by simp)
        ·rw [if_neg c9] at H
         exact absurd H (by simp)
       ·rw [if_neg c8] at H
        exact absurd H (by simp)
      ·rw [if_neg c6] at H
       exact absurd H (by simp)
     ·rw [if_neg c5] at H
      have c5b0 : ((bt a0 x4_1) == 34) = false := beq_eq_false_iff_ne.mpr c5
      have c5b1 : ((bt a0 x4_1) != 34) = true := bne_iff_ne.mpr c5
      by_cases c12 : (bt a0 x4_1) = 92
      ·rw [if_pos c12] at H
       have c12b0 : ((bt a0 x4_1) == 92) = true := beq_iff_eq.mpr c12
       have c12b1 : ((bt a0 x4_1) != 92) = false := bne_eq_false_iff_eq.mpr c12
       clear c12
       by_cases c13 : x3_1.size + 1 ≤ 9223372036854775807
       ·rw [if_pos c13] at H
        have c13b0 := eq_true c13
        have c13b1 : decide (x3_1.size + 1 ≤ 9223372036854775807) = true := decide_eq_true c13
        try have c13b2 : (9223372036854775807 < x3_1.size + 1) = False := eq_false (Nat.not_lt.2 c13)
        have c14b0 := eq_true (of_decide_eq_true (by first | (with_reducible assumption) | assumption) : 0 ≤ x4_1)
        by_cases c15 : x4_1 ≤ (wrap64 (x4_1 + 1))
        ·rw [if_pos c15] at H
         have c15b0 := eq_true c15
         have c15b1 : decide (x4_1 ≤ (wrap64 (x4_1 + 1))) = true := decide_eq_true c15
         by_cases c16 : (wrap64 (x4_1 + 1)) ≤ (a0.size : Int)
         ·rw [if_pos c16] at H
          have c16b0 := eq_true c16
          have c16b1 : decide ((wrap64 (x4_1 + 1)) ≤ (a0.size : Int)) = true := decide_eq_true c16
          by_cases c17 : (x3_1 ++ (⟨#[92]⟩ : ByteArray)).size + (a0.extract (x4_1 : Int).toNat ((wrap64 (x4_1 + 1)) : Int).toNat).size ≤ 9223372036854775807
          ·rw [if_pos c17] at H
           have c17b0 := eq_true c17
           have c17b1 : decide ((x3_1 ++ (⟨#[92]⟩ : ByteArray)).size + (a0.extract (x4_1 : Int).toNat ((wrap64 (x4_1 + 1)) : Int).toNat).size ≤ 9223372036854775807) = true := decide_eq_true c17
           try have c17b2 : (9223372036854775807 < (x3_1 ++ (⟨#[92]⟩ : ByteArray)).size + (a0.extract (x4_1 : Int).toNat ((wrap64 (x4_1 + 1)) : Int).toNat).size) = False := eq_false (Nat.not_lt.2 c17)
           try (have c17b3 := c17; simp only [ByteArray.size_append, sz_one] at c17b3; have c17b4 := eq_false (Nat.not_lt.2 c17b3); clear c17b3)
           have H' := Aside0.mk H
           clear H
           have p4 : 0 ≤ (x4_1 : Int) := of_decide_eq_true (by first | (with_reducible assumption) | assumption)
           have q4 : x4_1 < (a0.size : Int) := of_decide_eq_true (by first | (with_reducible assumption) | assumption)
           have hx4 := bt_at a0 x4_1
           replace p4 := eq_true p4
           replace q4 := eq_true q4
           have p11 : 0 ≤ (x4_1 : Int) := of_decide_eq_true (by first | (with_reducible assumption) | assumption)
           have q11 : x4_1 < (a0.size : Int) := of_decide_eq_true (by first | (with_reducible assumption) | assumption)
           have hx11 := bt_at a0 x4_1
           replace p11 := eq_true p11
           replace q11 := eq_true q11
           go_wp2
           go_roundg k1
           case measure => have := HK1.out; omega
           case rel => exact ⟨((x3_1 ++ (⟨#[92]⟩ : ByteArray)) ++ (a0.extract (x4_1 : Int).toNat ((wrap64 (x4_1 + 1)) : Int).toNat)), (wrap64 (x4_1 + 1)), (by first | rfl | (simp; done) | (simp [*]; done)), (by first | rfl | (simp; done) | (simp [*]; done)), H', ⟨by have := HK1.out; omega⟩, by repeat (first | exact Drawn0.refl _ | apply Drawn0.step)⟩
          ·rw [if_neg c17] at H
           exact absurd H (by simp)
         ·rw [if_neg c16] at H
          exact absurd H (by simp)
        ·rw [if_neg c15] at H
         exact absurd H (by simp)
       ·rw [if_neg c13] at H
        exact absurd H (by simp)
      ·rw [if_neg c12] at H
       have c12b0 : ((bt a0 x4_1) == 92) = false := beq_eq_false_iff_ne.mpr c12
       have c12b1 : ((bt a0 x4_1) != 92) = true := bne_iff_ne.mpr c12
       have c18b0 := eq_true (of_decide_eq_true (by first | (with_reducible assumption) | assumption) : 0 ≤ x4_1)
       by_cases c19 : x4_1 ≤ (wrap64 (x4_1 + 1))
       ·rw [if_pos c19] at H
        have c19b0 := eq_true c19
        have c19b1 : decide (x4_1 ≤ (wrap64 (x4_1 + 1))) = true := decide_eq_true c19
        by_cases c20 : (wrap64 (x4_1 + 1)) ≤ (a0.size : Int)
        ·rw [if_pos c20] at H
         have c20b0 := eq_true c20
         have c20b1 : decide ((wrap64 (x4_1 + 1)) ≤ (a0.size : Int)) = true := decide_eq_true c20
         by_cases c21 : x3_1.size + (a0.extract (x4_1 : Int).toNat ((wrap64 (x4_1 + 1)) : Int).toNat).size ≤ 9223372036854775807
         ·rw [if_pos c21] at H
          have c21b0 := eq_true c21
          have c21b1 : decide (x3_1.size + (a0.extract (x4_1 : Int).toNat ((wrap64 (x4_1 + 1)) : Int).toNat).size ≤ 9223372036854775807) = true := decide_eq_true c21
          try have c21b2 : (9223372036854775807 < x3_1.size + (a0.extract (x4_1 : Int).toNat ((wrap64 (x4_1 + 1)) : Int).toNat).size) = False := eq_false (Nat.not_lt.2 c21)
          have H' := Aside0.mk H
          clear H
          have p4 : 0 ≤ (x4_1 : Int) := of_decide_eq_true (by first | (with_reducible assumption) | assumption)
          have q4 : x4_1 < (a0.size : Int) := of_decide_eq_true (by first | (with_reducible assumption) | assumption)
          have hx4 := bt_at a0 x4_1
          replace p4 := eq_true p4
          replace q4 := eq_true q4
          have p11 : 0 ≤ (x4_1 : Int) := of_decide_eq_true (by first | (with_reducible assumption) | assumption)
          have q11 : x4_1 < (a0.size : Int) := of_decide_eq_true (by first | (with_reducible assumption) | assumption)
          have hx11 := bt_at a0 x4_1
          replace p11 := eq_true p11
          replace q11 := eq_true q11
          go_wp2
          go_roundg k1
          case measure => have := HK1.out; omega
          case rel => exact ⟨(x3_1 ++ (a0.extract (x4_1 : Int).toNat ((wrap64 (x4_1 + 1)) : Int).toNat)), (wrap64 (x4_1 + 1)), (by first | rfl | (simp; done) | (simp [*]; done)), (by first | rfl | (simp; done) | (simp [*]; done)), H', ⟨by have := HK1.out; omega⟩, by repeat (first | exact Drawn0.refl _ | apply Drawn0.step)⟩
         ·rw [if_neg c21] at H
          exact absurd H (by simp)
        ·rw [if_neg c20] at H
         exact absurd H (by simp)
       ·rw [if_neg c19] at H
        exact absurd H (by simp)
    ·rw [if_neg c3] at H
     exact absurd H (by simp)
   ·rw [if_neg c2] at H
    have c2b0 : decide (x4_1 < (a0.size : Int)) = false := decide_eq_false c2
    clear c2
    by_cases c22 : x3_1.size + 1 ≤ 9223372036854775807
    ·rw [if_pos c22] at H
     have c22b0 := eq_true c22
     have c22b1 : decide (x3_1.size + 1 ≤ 9223372036854775807) = true := decide_eq_true c22
     try have c22b2 : (9223372036854775807 < x3_1.size + 1) = False := eq_false (Nat.not_lt.2 c22)
     obtain rfl := Option.some.inj H
     go_wp2
     go_ret
     exact ⟨by first | rfl | (simp; done) | (simp [*]; done), by repeat (first | exact Drawn0.refl _ | apply Drawn0.step)⟩
    ·rw [if_neg c22] at H
     exact absurd H (by simp)

end Go.Proofs.YtnjobjogddjelaaGreatDoor.Print
end

section
namespace Go.Proofs.YtnjobjogddjelaaGreatDoor.Print
open Go.RowKit Go.Proofs.YtnjobjogddjelaaGreatDoorX Go.Proofs.YtnjobjogddjelaaGreatDoorW.PrintWords Go.Proofs.YtnjobjogddjelaaGreatDoorW.PrintLast Go.Proofs.YtnjobjogddjelaaGreatDoorW.PrintMore
attribute [local go_sem] max2_int min2_int max_two min_two max_three min_three max_four min_four

/-! ### spillwayref3_Value: function 14 -/
def spillwayref3_Value.l0 : Nat → ByteArray → Int → Option (Bool)
 | 0, _, _ => none
 | k + 1, x0, x3 => if x3 < (x0.size : Int) then (if 0 ≤ x3 then (if (bt x0 x3) = 10 then (some false) else (spillwayref3_Value.l0 k x0 (wrap64 (x3 + 1)))) else (none)) else (some (decide ((x0.size : Int) ≤ 30)))
def spillwayref3_Value.f (k : Nat) (a0 : ByteArray) : Option (Bool) := spillwayref3_Value.l0 k a0 0
theorem spillwayref3_Value.mono_l : ∀ k, (∀ y0 y1, LeO (spillwayref3_Value.l0 k y0 y1) (spillwayref3_Value.l0 (k + 1) y0 y1))
 | 0 => fun _ _ r h => by simp [spillwayref3_Value.l0] at h
 | k + 1 => by
  have ih0 := spillwayref3_Value.mono_l k
  ·intro y0 y1
   unfold spillwayref3_Value.l0
   repeat' first
   | (with_reducible exact ih0 _ _)
   | (with_reducible exact LeO.refl _)
   | (with_reducible exact LeO.none _)
   | (with_reducible refine LeO.ite ?_ ?_)
   | (with_reducible refine LeO.bind ?_ (fun _ => ?_))
   | exact ih0 _ _
   | exact LeO.none _
   | refine LeO.ite ?_ ?_
   | refine LeO.bind ?_ (fun _ => ?_)
theorem spillwayref3_Value.mono : ∀ a0 k, LeO (spillwayref3_Value.f k a0) (spillwayref3_Value.f (k + 1) a0) := by
 intro a0 k
 have ih0 := spillwayref3_Value.mono_l k
 unfold spillwayref3_Value.f
 repeat' first
   | (with_reducible exact ih0 _ _)
   | (with_reducible exact LeO.refl _)
   | (with_reducible exact LeO.none _)
   | (with_reducible refine LeO.ite ?_ ?_)
   | (with_reducible refine LeO.bind ?_ (fun _ => ?_))
   | exact ih0 _ _
   | exact LeO.none _
   | refine LeO.ite ?_ ?_
   | refine LeO.bind ?_ (fun _ => ?_)
set_option maxHeartbeats 8000000 in
set_option maxRecDepth 100000 in
theorem spillwayref3_Value.calls (k : Nat) (a0 : ByteArray) (r : Bool) (w : World) (h : spillwayref3_Value.f k a0 = some r) :
  Calls Tryz.prog 14 #[.string a0] w fun e w' => e = .returned (.bool r) ∧ Drawn0 w w' := by
 have H : (spillwayref3_Value.l0 k a0 0) = some r := h
 clear h
 have H' := Aside0.mk H
 clear H
 go_enter Tryz.func14, Tryz.ntmps14
 go_wp2
 go_loopg [3] k (fun kq v3 w' => ∃ (x3_1 : Int), v3 = .int .i64 x3_1 ∧ Aside0 (spillwayref3_Value.l0 kq a0 x3_1 = some r) ∧ Aside0 (kq ≤ k) ∧ Drawn0 w w')
 case atStart => exact ⟨(0), (by first | rfl | (simp; done) | (simp [*]; done)), H', ⟨Nat.le_refl _⟩, by repeat (first | exact Drawn0.refl _ | apply Drawn0.step)⟩
 case round =>
  clear H'
  try clear c1
  obtain ⟨x3_1, rfl, HA, HK1, ⟨m1, rfl⟩⟩ := hrel
  cases gk with
  | zero => exact absurd HA.out (by simp [spillwayref3_Value.l0])
  | succ k1 =>
   have H := HA.out
   clear HA
   simp only [spillwayref3_Value.l0] at H
   by_cases c2 : x3_1 < (a0.size : Int)
   ·rw [if_pos c2] at H
    have c2b0 : decide (x3_1 < (a0.size : Int)) = true := decide_eq_true c2
    clear c2
    by_cases c3 : 0 ≤ x3_1
    ·rw [if_pos c3] at H
     have c3b0 : decide (0 ≤ x3_1) = true := decide_eq_true c3
     clear c3
     by_cases c5 : (bt a0 x3_1) = 10
     ·rw [if_pos c5] at H
      have c5b0 : ((bt a0 x3_1) == 10) = true := beq_iff_eq.mpr c5
      have c5b1 : ((bt a0 x3_1) != 10) = false := bne_eq_false_iff_eq.mpr c5
      clear c5
      obtain rfl := Option.some.inj H
      have p4 : 0 ≤ (x3_1 : Int) := of_decide_eq_true (by first | (with_reducible assumption) | assumption)
      have q4 : x3_1 < (a0.size : Int) := of_decide_eq_true (by first | (with_reducible assumption) | assumption)
      have hx4 := bt_at a0 x3_1
      replace p4 := eq_true p4
      replace q4 := eq_true q4
      go_wp2
      go_ret
      exact ⟨by first | rfl | (simp; done) | (simp [*]; done), by repeat (first | exact Drawn0.refl _ | apply Drawn0.step)⟩
     ·rw [if_neg c5] at H
      have c5b0 : ((bt a0 x3_1) == 10) = false := beq_eq_false_iff_ne.mpr c5
      have c5b1 : ((bt a0 x3_1) != 10) = true := bne_iff_ne.mpr c5
      have H' := Aside0.mk H
      clear H
      have p4 : 0 ≤ (x3_1 : Int) := of_decide_eq_true (by first | (with_reducible assumption) | assumption)
      have q4 : x3_1 < (a0.size : Int) := of_decide_eq_true (by first | (with_reducible assumption) | assumption)
      have hx4 := bt_at a0 x3_1
      replace p4 := eq_true p4
      replace q4 := eq_true q4
      go_wp2
      go_roundg k1
      case measure => have := HK1.out; omega
      case rel => exact ⟨(wrap64 (x3_1 + 1)), (by first | rfl | (simp; done) | (simp [*]; done)), H', ⟨by have := HK1.out; omega⟩, by repeat (first | exact Drawn0.refl _ | apply Drawn0.step)⟩
    ·rw [if_neg c3] at H
     exact absurd H (by simp)
   ·rw [if_neg c2] at H
    have c2b0 : decide (x3_1 < (a0.size : Int)) = false := decide_eq_false c2
    clear c2
    obtain rfl := Option.some.inj H
    go_wp2
    go_ret
    exact ⟨by first | rfl | (simp; done) | (simp [*]; done), by repeat (first | exact Drawn0.refl _ | apply Drawn0.step)⟩

end Go.Proofs.YtnjobjogddjelaaGreatDoor.Print
end

section
namespace Go.Proofs.YtnjobjogddjelaaGreatDoor.Print
open Go.Sort Go.Shelf
open Go.RowKit Go.Proofs.YtnjobjogddjelaaGreatDoorX Go.Proofs.YtnjobjogddjelaaGreatDoorW.PrintWords Go.Proofs.YtnjobjogddjelaaGreatDoorW.PrintLast Go.Proofs.YtnjobjogddjelaaGreatDoorW.PrintMore
attribute [local go_sem] max2_int min2_int max_two min_two max_three min_three max_four min_four

/-! LexBuilt, by hand. -/
set_option maxHeartbeats 4000000 in
set_option maxRecDepth 100000 in
theorem built_long (n d z : Int) (t : ByteArray) (w : World) (hg_ : LaidW w) (h : 60 < t.size) :
  Calls Tryz.prog 6 #[.int .u32 n, .int .u16 d, .string t, .int .u8 z] w fun e w' => e = .returned (.bool true) ∧ Below w.heap.size w w' := by
 have d1 : decide ((60 : Int) < (t.size : Int)) = true := decide_eq_true (by omega)
 have d2 : decide (60 < t.size) = true := decide_eq_true h
 go_enter Tryz.func6, Tryz.ntmps6
 go_wp2_with (fail)
 refine (spillwaylaw7_known.calls 60 true _ hg_ PureN.known_60).mono ?_
 rintro e w1 ⟨rfl, hb⟩
 go_wp2
 go_ret
 exact ⟨rfl, hb⟩
/-- What a scan hands back, where it is a sign. -/
structure Sc (k : Nat) (s : ByteArray) (ok : Prop) (T : List S36) (a e : Int) : Prop where
 scan : lex_Scan.f k s = some (T, a, e)
 yes : ok → e = 0 ∧ 0 < T.length
 no : ¬ ok → e = 70
set_option maxHeartbeats 16000000 in
set_option maxRecDepth 100000 in
theorem built_A (k : Nat) (n d z : Int) (t : ByteArray) (w : World) (hg_ : LaidW w) (h : t.size ≤ 30) (hv : spillwayref3_Value.f k t = some false) :
  Calls Tryz.prog 6 #[.int .u32 n, .int .u16 d, .string t, .int .u8 z] w fun e w' => e = .returned (.bool true) ∧ Below w.heap.size w w' := by
 have d1 : decide ((60 : Int) < (t.size : Int)) = false := decide_eq_false (by omega)
 have d2 : decide (60 < t.size) = false := decide_eq_false (by omega)
 have d3 : (30 < t.size) = False := eq_false (by omega)
 have d4 : ((30 : Int) < (t.size : Int)) = False := eq_false (by omega)
 have d9 : decide (30 < t.size) = false := decide_eq_false (by omega)
 have d10 : decide (t.size ≤ 30) = true := decide_eq_true (by omega)
 have HLW := Aside0.mk hg_
 clear hg_
 go_enter Tryz.func6, Tryz.ntmps6
 go_wp2_with (fail)
 refine (spillwaylaw7_known.calls 60 true _ HLW.out PureN.known_60).mono ?_
 rintro e w1 ⟨rfl, hb⟩
 have HB := Aside0.mk hb
 clear hb
 go_wp2_with (fail)
 refine (spillwayref3_Value.calls k _ false _ hv).mono ?_
 rintro e w2 ⟨rfl, nd, rfl⟩
 have n0_ := Aside0.mk (pw_below_drewN HB.out nd)
 clear HB
 have HB := n0_
 clear n0_
 generalize World.drewN _ nd = w3 at HB ⊢
 go_wp2
 go_ret
 exact ⟨rfl, HB.out⟩
set_option maxHeartbeats 16000000 in
set_option maxRecDepth 100000 in
theorem built_B (k : Nat) (n d z : Int) (t : ByteArray) (w : World) (hg_ : LaidW w) (h0 : 30 < t.size) (h : t.size ≤ 60) (hv : spillwayref3_Value.f k (t.extract 0 30) = some false) :
  Calls Tryz.prog 6 #[.int .u32 n, .int .u16 d, .string t, .int .u8 z] w fun e w' => e = .returned (.bool true) ∧ Below w.heap.size w w' := by
 have d1 : decide ((60 : Int) < (t.size : Int)) = false := decide_eq_false (by omega)
 have d2 : decide (60 < t.size) = false := decide_eq_false (by omega)
 have d3 : (30 < t.size) = True := eq_true (by omega)
 have d4 : ((30 : Int) < (t.size : Int)) = True := eq_true (by omega)
 have d5 : (60 < t.size) = False := eq_false (by omega)
 have d6 : ((60 : Int) < (t.size : Int)) = False := eq_false (by omega)
 have d7 : (30 ≤ t.size) = True := eq_true (by omega)
 have d8 : ((30 : Int) ≤ (t.size : Int)) = True := eq_true (by omega)
 have d9 : decide (30 < t.size) = true := decide_eq_true (by omega)
 have d10 : decide (t.size ≤ 30) = false := decide_eq_false (by omega)
 have HLW := Aside0.mk hg_
 clear hg_
 go_enter Tryz.func6, Tryz.ntmps6
 go_wp2_with (fail)
 refine (spillwaylaw7_known.calls 60 true _ HLW.out PureN.known_60).mono ?_
 rintro e w1 ⟨rfl, hb⟩
 have HB := Aside0.mk hb
 clear hb
 go_wp2_with (fail)
 refine (spillwayref3_Value.calls k _ false _ hv).mono ?_
 rintro e w2 ⟨rfl, nd, rfl⟩
 have n0_ := Aside0.mk (pw_below_drewN HB.out nd)
 clear HB
 have HB := n0_
 clear n0_
 generalize World.drewN _ nd = w3 at HB ⊢
 go_wp2
 go_ret
 exact ⟨rfl, HB.out⟩
set_option maxHeartbeats 16000000 in
set_option maxRecDepth 100000 in
theorem built_C (k : Nat) (n d z : Int) (t : ByteArray) (w : World) (hg_ : LaidW w) (h0 : 30 < t.size) (h : t.size ≤ 60) (hv : spillwayref3_Value.f k (t.extract 0 30) = some true) (hv2 : spillwayref3_Value.f k (t.extract 30 t.size) = some false) :
  Calls Tryz.prog 6 #[.int .u32 n, .int .u16 d, .string t, .int .u8 z] w fun e w' => e = .returned (.bool true) ∧ Below w.heap.size w w' := by
 have d1 : decide ((60 : Int) < (t.size : Int)) = false := decide_eq_false (by omega)
 have d2 : decide (60 < t.size) = false := decide_eq_false (by omega)
 have d3 : (30 < t.size) = True := eq_true (by omega)
 have d4 : ((30 : Int) < (t.size : Int)) = True := eq_true (by omega)
 have d5 : (60 < t.size) = False := eq_false (by omega)
 have d6 : ((60 : Int) < (t.size : Int)) = False := eq_false (by omega)
 have d7 : (30 ≤ t.size) = True := eq_true (by omega)
 have d8 : ((30 : Int) ≤ (t.size : Int)) = True := eq_true (by omega)
 have d9 : decide (30 < t.size) = true := decide_eq_true (by omega)
 have d10 : decide (t.size ≤ 30) = false := decide_eq_false (by omega)
 have HLW := Aside0.mk hg_
 clear hg_
 go_enter Tryz.func6, Tryz.ntmps6
 go_wp2_with (fail)
 refine (spillwaylaw7_known.calls 60 true _ HLW.out PureN.known_60).mono ?_
 rintro e w1 ⟨rfl, hb⟩
 have HB := Aside0.mk hb
 clear hb
 go_wp2_with (fail)
 refine (spillwayref3_Value.calls k _ true _ hv).mono ?_
 rintro e w2 ⟨rfl, nd, rfl⟩
 have n0_ := Aside0.mk (pw_below_drewN HB.out nd)
 clear HB
 have HB := n0_
 clear n0_
 generalize World.drewN _ nd = w3 at HB ⊢
 go_wp2_with (fail)
 refine (spillwayref3_Value.calls k _ false _ hv2).mono ?_
 rintro e w2 ⟨rfl, nd, rfl⟩
 have n0_ := Aside0.mk (pw_below_drewN HB.out nd)
 clear HB
 have HB := n0_
 clear n0_
 generalize World.drewN _ nd = w3 at HB ⊢
 go_wp2
 go_ret
 exact ⟨rfl, HB.out⟩
set_option maxHeartbeats 16000000 in
set_option maxRecDepth 100000 in
theorem built_mainA (k : Nat) (n d z : Int) (t : ByteArray) (w : World) (hg_ : LaidW w) (h : t.size ≤ 30) (hv : spillwayref3_Value.f k t = some true) (hn : 0 ≤ n ∧ n ≤ 4294967295) (hd : 0 ≤ d ∧ d ≤ 65535) (hz : 0 ≤ z ∧ z ≤ 255) (s1 s2 s3 s4 : ByteArray) (T1 T2 T3 T4 : List S36) (a1 a2 a3 a4 e2 e3 e4 : Int) (hs4 : s4 = ⟨(List.replicate (Int.tmod z 30 + 1).toNat 97).toArray⟩) (g1 : spillwayref2_Digits.f k n = some s1) (g2 : spillwayref2_Digits.f k (Int.tmod d 200) = some s2) (g3 : spillwayref3_Quote.f k t = some s3) (hsz : s2.size ≤ 100) (x1 : Sc k s1 True T1 a1 0) (x2 : Sc k (s2 ++ ⟨#[116]⟩) (1 ≤ Int.tmod d 200 ∧ Int.tmod d 200 ≤ 100) T2 a2 e2) (x3 : Sc k s3 (t.size ≤ 30) T3 a3 e3) (x4 : Sc k s4 (Int.tmod z 30 + 1 ≤ 20) T4 a4 e4) (y1 : (rd_T36 T1 0).f3.f1 = n * 1000000) (y2 : 1 ≤ Int.tmod d 200 ∧ Int.tmod d 200 ≤ 100 → (rd_T36 T2 0).f4 = Int.tmod d 200) (y3 : t.size ≤ 30 → (rd_T36 T3 0).f2 = t ∧ (rd_T36 T3 0).f0 = 4) (y4 : Int.tmod z 30 + 1 ≤ 20 → (rd_T36 T4 0).f2 = s4) :
  Calls Tryz.prog 6 #[.int .u32 n, .int .u16 d, .string t, .int .u8 z] w fun e w' => e = .returned (.bool true) ∧ Below w.heap.size w w' := by
 have ht0 : 0 ≤ Int.tmod z 30 := Int.tmod_nonneg _ hz.1
 have ht1 : Int.tmod z 30 < 30 := Int.tmod_lt_of_pos _ (by omega)
 have hD0 : 0 ≤ Int.tmod d 200 := Int.tmod_nonneg _ hd.1
 have hD1 : Int.tmod d 200 < 200 := Int.tmod_lt_of_pos _ (by omega)
 obtain ⟨Z, htz⟩ : ∃ Z, Int.tmod z 30 = Z := ⟨_, rfl⟩
 obtain ⟨D, htd⟩ : ∃ D, Int.tmod d 200 = D := ⟨_, rfl⟩
 rw [htz] at ht0 ht1 hs4 x4 y4
 rw [htd] at hD0 hD1 g2 x2 y2
 have hZ0 : wrap64 Z = Z := by unfold wrap64; omega
 have hZ1 : wrap64 (Z + 1) = Z + 1 := by unfold wrap64; omega
 have X1 := Aside0.mk (x1)
 have X2 := Aside0.mk (x2)
 have X3 := Aside0.mk (x3)
 have X4 := Aside0.mk (x4)
 have Y1 := Aside0.mk (y1)
 have Y2 := Aside0.mk (y2)
 have Y3 := Aside0.mk (y3)
 have Y4 := Aside0.mk (y4)
 have G1 := Aside0.mk (g1)
 have G2 := Aside0.mk (g2)
 have G3 := Aside0.mk (g3)
 have HZ := Aside0.mk (And.intro ht0 ht1)
 have HD := Aside0.mk (And.intro hD0 hD1)
 have HN := Aside0.mk (hn)
 have HS4 := Aside0.mk (hs4)
 have HSZ := Aside0.mk (hsz)
 clear x1 x2 x3 x4 y1 y2 y3 y4 g1 g2 g3 ht0 ht1 hD0 hD1 hn hz hd hs4 hsz
 have d1 : decide ((60 : Int) < (t.size : Int)) = false := decide_eq_false (by omega)
 have d2 : decide (60 < t.size) = false := decide_eq_false (by omega)
 have d3 : (30 < t.size) = False := eq_false (by omega)
 have d4 : ((30 : Int) < (t.size : Int)) = False := eq_false (by omega)
 have d9 : decide (30 < t.size) = false := decide_eq_false (by omega)
 have d10 : decide (t.size ≤ 30) = true := decide_eq_true (by omega)
 have HLW := Aside0.mk hg_
 clear hg_
 go_enter Tryz.func6, Tryz.ntmps6
 go_wp2_with (fail)
 refine (spillwaylaw7_known.calls 60 true _ HLW.out PureN.known_60).mono ?_
 rintro e w1 ⟨rfl, hb⟩
 have HB := Aside0.mk hb
 clear hb
 go_wp2_with (fail)
 refine (spillwayref3_Value.calls k _ true _ hv).mono ?_
 rintro e w2 ⟨rfl, nd, rfl⟩
 have n0_ := Aside0.mk (pw_below_drewN HB.out nd)
 clear HB
 have HB := n0_
 clear n0_
 generalize World.drewN _ nd = w3 at HB ⊢
 go_wp2
 go_loopg [10, 11] (Z + 1).toNat (fun kq v10 v11 w' => ∃ x : Int, v10 = .string ⟨(List.replicate x.toNat 97).toArray⟩ ∧ v11 = .int .i64 x ∧ Aside0 (0 ≤ x ∧ x.toNat + kq = (Z + 1).toNat) ∧ Aside0 (Below w.heap.size w w'))
 case atStart => exact ⟨0, rfl, rfl, ⟨by decide, by simp⟩, HB⟩
 case round =>
  clear HB
  obtain ⟨x, rfl, rfl, HA, HB⟩ := hrel
  obtain ⟨h0, hk⟩ := HA.out
  have hZr := HZ.out
  cases gk with
  | succ k1 =>
   have c0 : decide (x < Z + 1) = true := decide_eq_true (by omega)
   have hw : wrap64 (x + 1) = x + 1 := by unfold wrap64; omega
   obtain ⟨S, hS⟩ : ∃ S : ByteArray, S = ⟨(List.replicate x.toNat 97).toArray⟩ := ⟨_, rfl⟩
   have hSs : S.size ≤ 100 := by rw [hS]; show (List.replicate x.toNat (97 : UInt8)).length ≤ 100; rw [List.length_replicate]; omega
   have hnew : (⟨(List.replicate (x + 1).toNat (97 : UInt8)).toArray⟩ : ByteArray) = S ++ ⟨#[97]⟩ := by
    rw [hS, show (⟨#[97]⟩ : ByteArray) = ⟨[97].toArray⟩ from rfl, PureN.app_list, show (x + 1).toNat = x.toNat + 1 by omega, List.replicate_succ']
   rw [← hS]
   have b1 : (S.size + 1 ≤ 9223372036854775807) = True := eq_true (by omega)
   have b2 : (9223372036854775807 < S.size + 1) = False := eq_false (by omega)
   have HNW := Aside0.mk hnew
   have HK := Aside0.mk (And.intro h0 hk)
   clear HA hk h0 hZr hS hSs hnew
   go_wp2
   go_roundg k1
   case measure => omega
   case rel => exact ⟨x + 1, by rw [HNW.out], by rw [hw], ⟨by have := HK.out; omega, by have := HK.out; omega⟩, HB⟩
  | zero =>
   have c0 : decide (x < Z + 1) = false := decide_eq_false (by omega)
   have hx : x.toNat = (Z + 1).toNat := by omega
   rw [hx, ← HS4.out]
   have u1 : IntKind.u64.wrap n = n := by rw [IntKind.wrap_u64]; have := HN.out; omega
   have u2 : IntKind.u64.wrap D = D := by rw [IntKind.wrap_u64]; have := HD.out; omega
   have u3 : wrap64 n = n := by have := HN.out; unfold wrap64; omega
   have u4 : wrap64 D = D := by have := HD.out; unfold wrap64; omega
   have u5 : wrap64 (n * 1000000) = n * 1000000 := by have := HN.out; unfold wrap64; omega
   clear HA hk h0 hZr hx
   go_wp2_with (fail)
   refine (spillwayref2_Digits.calls k n s1 _ G1.out).mono ?_
   rintro e y1 ⟨rfl, hb⟩
   have n0_ := Aside0.mk (below_step HB.out hb)
   clear HB  hb
   have HB := n0_
   clear n0_ 
   go_wp2_with (fail)
   refine (lex_Scan.calls k _ T1 a1 0 _ (LaidW.below HLW.out HB.out) X1.out.scan).mono ?_
   rintro e v1 ⟨v0, rfl, ho, hb⟩
   obtain ⟨A1, c1, rfl⟩ := Kd.R_slice ho
   have K1_ := Aside0.mk (Kd.R_reads' ho).2.2
   clear ho
   have n0_ := Aside0.mk (below_step HB.out hb)
   clear HB  hb
   have HB := n0_
   clear n0_ 
   have K1 := K1_
   clear K1_
   have b3 : (s2.size + 1 ≤ 9223372036854775807) = True := eq_true (by have := HSZ.out; omega)
   have b4 : (9223372036854775807 < s2.size + 1) = False := eq_false (by have := HSZ.out; omega)
   go_wp2_with (fail)
   refine (spillwayref2_Digits.calls k D s2 _ G2.out).mono ?_
   rintro e y2 ⟨rfl, hb⟩
   have n0_ := Aside0.mk (below_step HB.out hb)
   have m0_ := Aside0.mk (Kd.C_below K1.out hb)
   clear HB K1 hb
   have HB := n0_
   have K1 := m0_
   clear n0_ m0_
   go_wp2_with (fail)
   refine (lex_Scan.calls k _ T2 a2 e2 _ (LaidW.below HLW.out HB.out) X2.out.scan).mono ?_
   rintro e v2 ⟨v0, rfl, ho, hb⟩
   obtain ⟨A2, c2, rfl⟩ := Kd.R_slice ho
   have K2_ := Aside0.mk (Kd.R_reads' ho).2.2
   clear ho
   have n0_ := Aside0.mk (below_step HB.out hb)
   have m0_ := Aside0.mk (Kd.C_below K1.out hb)
   clear HB K1 hb
   have HB := n0_
   have K1 := m0_
   clear n0_ m0_
   have K2 := K2_
   clear K2_
   go_wp2_with (fail)
   refine (spillwayref3_Quote.calls k t s3 _ G3.out).mono ?_
   rintro e y3 ⟨rfl, nd, rfl⟩
   have hb := pw_below_drewN (Below.refl v2.heap.size v2) nd
   have n0_ := Aside0.mk (below_step HB.out hb)
   have m0_ := Aside0.mk (Kd.C_below K1.out hb)
   have m1_ := Aside0.mk (Kd.C_below K2.out hb)
   clear HB K1 K2 hb
   have HB := n0_
   have K1 := m0_
   have K2 := m1_
   clear n0_ m0_ m1_
   generalize World.drewN _ nd = y3 at HB K1 K2 ⊢
   go_wp2_with (fail)
   refine (lex_Scan.calls k _ T3 a3 e3 _ (LaidW.below HLW.out HB.out) X3.out.scan).mono ?_
   rintro e v3 ⟨v0, rfl, ho, hb⟩
   obtain ⟨A3, c3, rfl⟩ := Kd.R_slice ho
   have K3_ := Aside0.mk (Kd.R_reads' ho).2.2
   clear ho
   have n0_ := Aside0.mk (below_step HB.out hb)
   have m0_ := Aside0.mk (Kd.C_below K1.out hb)
   have m1_ := Aside0.mk (Kd.C_below K2.out hb)
   clear HB K1 K2 hb
   have HB := n0_
   have K1 := m0_
   have K2 := m1_
   clear n0_ m0_ m1_
   have K3 := K3_
   clear K3_
   go_wp2_with (fail)
   refine (lex_Scan.calls k _ T4 a4 e4 _ (LaidW.below HLW.out HB.out) X4.out.scan).mono ?_
   rintro e v4 ⟨v0, rfl, ho, hb⟩
   obtain ⟨A4, c4, rfl⟩ := Kd.R_slice ho
   have K4_ := Aside0.mk (Kd.R_reads' ho).2.2
   clear ho
   have n0_ := Aside0.mk (below_step HB.out hb)
   have m0_ := Aside0.mk (Kd.C_below K1.out hb)
   have m1_ := Aside0.mk (Kd.C_below K2.out hb)
   have m2_ := Aside0.mk (Kd.C_below K3.out hb)
   clear HB K1 K2 K3 hb
   have HB := n0_
   have K1 := m0_
   have K2 := m1_
   have K3 := m2_
   clear n0_ m0_ m1_ m2_
   have K4 := K4_
   clear K4_
   have e1l := (X1.out.yes trivial).2
   obtain ⟨ad1, q1, k1_0, k1_1, k1_2, k1_3, k1_4, k1_5⟩ := at_T36 K1.out 0 (by omega) (by omega)
   cases q1
   clear k1_0
   clear k1_1
   clear k1_2
   clear k1_3
   (try simp only [show (0 : Int).toNat = 0 from rfl, Nat.zero_mul, Nat.reduceMul, Nat.reduceEqDiff, Go.Addr.add, ↓reduceIte] at k1_4)
   clear k1_5
   have l1 : (0 < (T1.length : Int)) = True := eq_true (by omega)
   have l1b : (0 < T1.length) = True := eq_true (by omega)
   rw [Y1.out] at k1_4
   obtain ⟨rfl, e3l⟩ := X3.out.yes h
   obtain ⟨ad3, q3, k3_0, k3_1, k3_2, k3_3, k3_4, k3_5⟩ := at_T36 K3.out 0 (by omega) (by omega)
   cases q3
   (try simp only [show (0 : Int).toNat = 0 from rfl, Nat.zero_mul, Nat.reduceMul, Nat.reduceEqDiff, Go.Addr.add, ↓reduceIte] at k3_0)
   clear k3_1
   (try simp only [show (0 : Int).toNat = 0 from rfl, Nat.zero_mul, Nat.reduceMul, Nat.reduceEqDiff, Go.Addr.add, ↓reduceIte] at k3_2)
   clear k3_3
   clear k3_4
   clear k3_5
   have l3 : (0 < (T3.length : Int)) = True := eq_true (by omega)
   have l3b : (0 < T3.length) = True := eq_true (by omega)
   rw [(Y3.out h).1] at k3_2
   rw [(Y3.out h).2] at k3_0
   have m3 : decide ((t.size : Int) ≤ 30) = true := decide_eq_true (by omega)
   simp only [List.append_eq, List.cons_append, List.nil_append] at *
   by_cases hd1 : 1 ≤ D
   ·have m1 : decide (1 ≤ D) = true := decide_eq_true hd1
    by_cases hd2 : D ≤ 100
    ·have m2 : decide (D ≤ 100) = true := decide_eq_true hd2
     obtain ⟨rfl, e2l⟩ := X2.out.yes ⟨hd1, hd2⟩
     obtain ⟨ad2, q2, k2_0, k2_1, k2_2, k2_3, k2_4, k2_5⟩ := at_T36 K2.out 0 (by omega) (by omega)
     cases q2
     clear k2_0
     clear k2_1
     clear k2_2
     clear k2_3
     clear k2_4
     (try simp only [show (0 : Int).toNat = 0 from rfl, Nat.zero_mul, Nat.reduceMul, Nat.reduceEqDiff, Go.Addr.add, ↓reduceIte] at k2_5)
     have l2 : (0 < (T2.length : Int)) = True := eq_true (by omega)
     have l2b : (0 < T2.length) = True := eq_true (by omega)
     rw [Y2.out ⟨hd1, hd2⟩] at k2_5
     clear hd1 hd2
     by_cases hn4 : Z + 1 ≤ 20
     ·obtain ⟨rfl, e4l⟩ := X4.out.yes hn4
      obtain ⟨ad4, q4, k4_0, k4_1, k4_2, k4_3, k4_4, k4_5⟩ := at_T36 K4.out 0 (by omega) (by omega)
      cases q4
      clear k4_0
      clear k4_1
      (try simp only [show (0 : Int).toNat = 0 from rfl, Nat.zero_mul, Nat.reduceMul, Nat.reduceEqDiff, Go.Addr.add, ↓reduceIte] at k4_2)
      clear k4_3
      clear k4_4
      clear k4_5
      have l4 : (0 < (T4.length : Int)) = True := eq_true (by omega)
      have l4b : (0 < T4.length) = True := eq_true (by omega)
      rw [Y4.out hn4] at k4_2
      have m4 : decide (Z + 1 ≤ 20) = true := decide_eq_true hn4
      clear hn4
      go_wp2
      go_ret
      exact ⟨rfl, HB.out⟩
     ·obtain rfl := X4.out.no hn4
      have m4 : decide (Z + 1 ≤ 20) = false := decide_eq_false hn4
      clear hn4
      go_wp2
      go_ret
      exact ⟨rfl, HB.out⟩
    ·have m2 : decide (D ≤ 100) = false := decide_eq_false hd2
     obtain rfl := X2.out.no (fun h => hd2 h.2)
     clear hd1 hd2
     by_cases hn4 : Z + 1 ≤ 20
     ·obtain ⟨rfl, e4l⟩ := X4.out.yes hn4
      obtain ⟨ad4, q4, k4_0, k4_1, k4_2, k4_3, k4_4, k4_5⟩ := at_T36 K4.out 0 (by omega) (by omega)
      cases q4
      clear k4_0
      clear k4_1
      (try simp only [show (0 : Int).toNat = 0 from rfl, Nat.zero_mul, Nat.reduceMul, Nat.reduceEqDiff, Go.Addr.add, ↓reduceIte] at k4_2)
      clear k4_3
      clear k4_4
      clear k4_5
      have l4 : (0 < (T4.length : Int)) = True := eq_true (by omega)
      have l4b : (0 < T4.length) = True := eq_true (by omega)
      rw [Y4.out hn4] at k4_2
      have m4 : decide (Z + 1 ≤ 20) = true := decide_eq_true hn4
      clear hn4
      go_wp2
      go_ret
      exact ⟨rfl, HB.out⟩
     ·obtain rfl := X4.out.no hn4
      have m4 : decide (Z + 1 ≤ 20) = false := decide_eq_false hn4
      clear hn4
      go_wp2
      go_ret
      exact ⟨rfl, HB.out⟩
   ·have m1 : decide (1 ≤ D) = false := decide_eq_false hd1
    obtain rfl := X2.out.no (fun h => hd1 h.1)
    clear hd1
    by_cases hn4 : Z + 1 ≤ 20
    ·obtain ⟨rfl, e4l⟩ := X4.out.yes hn4
     obtain ⟨ad4, q4, k4_0, k4_1, k4_2, k4_3, k4_4, k4_5⟩ := at_T36 K4.out 0 (by omega) (by omega)
     cases q4
     clear k4_0
     clear k4_1
     (try simp only [show (0 : Int).toNat = 0 from rfl, Nat.zero_mul, Nat.reduceMul, Nat.reduceEqDiff, Go.Addr.add, ↓reduceIte] at k4_2)
     clear k4_3
     clear k4_4
     clear k4_5
     have l4 : (0 < (T4.length : Int)) = True := eq_true (by omega)
     have l4b : (0 < T4.length) = True := eq_true (by omega)
     rw [Y4.out hn4] at k4_2
     have m4 : decide (Z + 1 ≤ 20) = true := decide_eq_true hn4
     clear hn4
     go_wp2
     go_ret
     exact ⟨rfl, HB.out⟩
    ·obtain rfl := X4.out.no hn4
     have m4 : decide (Z + 1 ≤ 20) = false := decide_eq_false hn4
     clear hn4
     go_wp2
     go_ret
     exact ⟨rfl, HB.out⟩
set_option maxHeartbeats 16000000 in
set_option maxRecDepth 100000 in
theorem built_mainB (k : Nat) (n d z : Int) (t : ByteArray) (w : World) (hg_ : LaidW w) (h0 : 30 < t.size) (h : t.size ≤ 60) (hv : spillwayref3_Value.f k (t.extract 0 30) = some true) (hv2 : spillwayref3_Value.f k (t.extract 30 t.size) = some true) (hn : 0 ≤ n ∧ n ≤ 4294967295) (hd : 0 ≤ d ∧ d ≤ 65535) (hz : 0 ≤ z ∧ z ≤ 255) (s1 s2 s3 s4 : ByteArray) (T1 T2 T3 T4 : List S36) (a1 a2 a3 a4 e2 e3 e4 : Int) (hs4 : s4 = ⟨(List.replicate (Int.tmod z 30 + 1).toNat 97).toArray⟩) (g1 : spillwayref2_Digits.f k n = some s1) (g2 : spillwayref2_Digits.f k (Int.tmod d 200) = some s2) (g3 : spillwayref3_Quote.f k t = some s3) (hsz : s2.size ≤ 100) (x1 : Sc k s1 True T1 a1 0) (x2 : Sc k (s2 ++ ⟨#[116]⟩) (1 ≤ Int.tmod d 200 ∧ Int.tmod d 200 ≤ 100) T2 a2 e2) (x3 : Sc k s3 (t.size ≤ 30) T3 a3 e3) (x4 : Sc k s4 (Int.tmod z 30 + 1 ≤ 20) T4 a4 e4) (y1 : (rd_T36 T1 0).f3.f1 = n * 1000000) (y2 : 1 ≤ Int.tmod d 200 ∧ Int.tmod d 200 ≤ 100 → (rd_T36 T2 0).f4 = Int.tmod d 200) (y3 : t.size ≤ 30 → (rd_T36 T3 0).f2 = t ∧ (rd_T36 T3 0).f0 = 4) (y4 : Int.tmod z 30 + 1 ≤ 20 → (rd_T36 T4 0).f2 = s4) :
  Calls Tryz.prog 6 #[.int .u32 n, .int .u16 d, .string t, .int .u8 z] w fun e w' => e = .returned (.bool true) ∧ Below w.heap.size w w' := by
 have ht0 : 0 ≤ Int.tmod z 30 := Int.tmod_nonneg _ hz.1
 have ht1 : Int.tmod z 30 < 30 := Int.tmod_lt_of_pos _ (by omega)
 have hD0 : 0 ≤ Int.tmod d 200 := Int.tmod_nonneg _ hd.1
 have hD1 : Int.tmod d 200 < 200 := Int.tmod_lt_of_pos _ (by omega)
 obtain ⟨Z, htz⟩ : ∃ Z, Int.tmod z 30 = Z := ⟨_, rfl⟩
 obtain ⟨D, htd⟩ : ∃ D, Int.tmod d 200 = D := ⟨_, rfl⟩
 rw [htz] at ht0 ht1 hs4 x4 y4
 rw [htd] at hD0 hD1 g2 x2 y2
 have hZ0 : wrap64 Z = Z := by unfold wrap64; omega
 have hZ1 : wrap64 (Z + 1) = Z + 1 := by unfold wrap64; omega
 have X1 := Aside0.mk (x1)
 have X2 := Aside0.mk (x2)
 have X3 := Aside0.mk (x3)
 have X4 := Aside0.mk (x4)
 have Y1 := Aside0.mk (y1)
 have Y2 := Aside0.mk (y2)
 have Y3 := Aside0.mk (y3)
 have Y4 := Aside0.mk (y4)
 have G1 := Aside0.mk (g1)
 have G2 := Aside0.mk (g2)
 have G3 := Aside0.mk (g3)
 have HZ := Aside0.mk (And.intro ht0 ht1)
 have HD := Aside0.mk (And.intro hD0 hD1)
 have HN := Aside0.mk (hn)
 have HS4 := Aside0.mk (hs4)
 have HSZ := Aside0.mk (hsz)
 clear x1 x2 x3 x4 y1 y2 y3 y4 g1 g2 g3 ht0 ht1 hD0 hD1 hn hz hd hs4 hsz
 have d1 : decide ((60 : Int) < (t.size : Int)) = false := decide_eq_false (by omega)
 have d2 : decide (60 < t.size) = false := decide_eq_false (by omega)
 have d3 : (30 < t.size) = True := eq_true (by omega)
 have d4 : ((30 : Int) < (t.size : Int)) = True := eq_true (by omega)
 have d5 : (60 < t.size) = False := eq_false (by omega)
 have d6 : ((60 : Int) < (t.size : Int)) = False := eq_false (by omega)
 have d7 : (30 ≤ t.size) = True := eq_true (by omega)
 have d8 : ((30 : Int) ≤ (t.size : Int)) = True := eq_true (by omega)
 have d9 : decide (30 < t.size) = true := decide_eq_true (by omega)
 have d10 : decide (t.size ≤ 30) = false := decide_eq_false (by omega)
 have HLW := Aside0.mk hg_
 clear hg_
 go_enter Tryz.func6, Tryz.ntmps6
 go_wp2_with (fail)
 refine (spillwaylaw7_known.calls 60 true _ HLW.out PureN.known_60).mono ?_
 rintro e w1 ⟨rfl, hb⟩
 have HB := Aside0.mk hb
 clear hb
 go_wp2_with (fail)
 refine (spillwayref3_Value.calls k _ true _ hv).mono ?_
 rintro e w2 ⟨rfl, nd, rfl⟩
 have n0_ := Aside0.mk (pw_below_drewN HB.out nd)
 clear HB
 have HB := n0_
 clear n0_
 generalize World.drewN _ nd = w3 at HB ⊢
 go_wp2_with (fail)
 refine (spillwayref3_Value.calls k _ true _ hv2).mono ?_
 rintro e w2 ⟨rfl, nd, rfl⟩
 have n0_ := Aside0.mk (pw_below_drewN HB.out nd)
 clear HB
 have HB := n0_
 clear n0_
 generalize World.drewN _ nd = w3 at HB ⊢
 go_wp2
 go_loopg [10, 11] (Z + 1).toNat (fun kq v10 v11 w' => ∃ x : Int, v10 = .string ⟨(List.replicate x.toNat 97).toArray⟩ ∧ v11 = .int .i64 x ∧ Aside0 (0 ≤ x ∧ x.toNat + kq = (Z + 1).toNat) ∧ Aside0 (Below w.heap.size w w'))
 case atStart => exact ⟨0, rfl, rfl, ⟨by decide, by simp⟩, HB⟩
 case round =>
  clear HB
  obtain ⟨x, rfl, rfl, HA, HB⟩ := hrel
  obtain ⟨h0, hk⟩ := HA.out
  have hZr := HZ.out
  cases gk with
  | succ k1 =>
   have c0 : decide (x < Z + 1) = true := decide_eq_true (by omega)
   have hw : wrap64 (x + 1) = x + 1 := by unfold wrap64; omega
   obtain ⟨S, hS⟩ : ∃ S : ByteArray, S = ⟨(List.replicate x.toNat 97).toArray⟩ := ⟨_, rfl⟩
   have hSs : S.size ≤ 100 := by rw [hS]; show (List.replicate x.toNat (97 : UInt8)).length ≤ 100; rw [List.length_replicate]; omega
   have hnew : (⟨(List.replicate (x + 1).toNat (97 : UInt8)).toArray⟩ : ByteArray) = S ++ ⟨#[97]⟩ := by
    rw [hS, show (⟨#[97]⟩ : ByteArray) = ⟨[97].toArray⟩ from rfl, PureN.app_list, show (x + 1).toNat = x.toNat + 1 by omega, List.replicate_succ']
   rw [← hS]
   have b1 : (S.size + 1 ≤ 9223372036854775807) = True := eq_true (by omega)
   have b2 : (9223372036854775807 < S.size + 1) = False := eq_false (by omega)
   have HNW := Aside0.mk hnew
   have HK := Aside0.mk (And.intro h0 hk)
   clear HA hk h0 hZr hS hSs hnew
   go_wp2
   go_roundg k1
   case measure => omega
   case rel => exact ⟨x + 1, by rw [HNW.out], by rw [hw], ⟨by have := HK.out; omega, by have := HK.out; omega⟩, HB⟩
  | zero =>
   have c0 : decide (x < Z + 1) = false := decide_eq_false (by omega)
   have hx : x.toNat = (Z + 1).toNat := by omega
   rw [hx, ← HS4.out]
   have u1 : IntKind.u64.wrap n = n := by rw [IntKind.wrap_u64]; have := HN.out; omega
   have u2 : IntKind.u64.wrap D = D := by rw [IntKind.wrap_u64]; have := HD.out; omega
   have u3 : wrap64 n = n := by have := HN.out; unfold wrap64; omega
   have u4 : wrap64 D = D := by have := HD.out; unfold wrap64; omega
   have u5 : wrap64 (n * 1000000) = n * 1000000 := by have := HN.out; unfold wrap64; omega
   clear HA hk h0 hZr hx
   go_wp2_with (fail)
   refine (spillwayref2_Digits.calls k n s1 _ G1.out).mono ?_
   rintro e y1 ⟨rfl, hb⟩
   have n0_ := Aside0.mk (below_step HB.out hb)
   clear HB  hb
   have HB := n0_
   clear n0_ 
   go_wp2_with (fail)
   refine (lex_Scan.calls k _ T1 a1 0 _ (LaidW.below HLW.out HB.out) X1.out.scan).mono ?_
   rintro e v1 ⟨v0, rfl, ho, hb⟩
   obtain ⟨A1, c1, rfl⟩ := Kd.R_slice ho
   have K1_ := Aside0.mk (Kd.R_reads' ho).2.2
   clear ho
   have n0_ := Aside0.mk (below_step HB.out hb)
   clear HB  hb
   have HB := n0_
   clear n0_ 
   have K1 := K1_
   clear K1_
   have b3 : (s2.size + 1 ≤ 9223372036854775807) = True := eq_true (by have := HSZ.out; omega)
   have b4 : (9223372036854775807 < s2.size + 1) = False := eq_false (by have := HSZ.out; omega)
   go_wp2_with (fail)
   refine (spillwayref2_Digits.calls k D s2 _ G2.out).mono ?_
   rintro e y2 ⟨rfl, hb⟩
   have n0_ := Aside0.mk (below_step HB.out hb)
   have m0_ := Aside0.mk (Kd.C_below K1.out hb)
   clear HB K1 hb
   have HB := n0_
   have K1 := m0_
   clear n0_ m0_
   go_wp2_with (fail)
   refine (lex_Scan.calls k _ T2 a2 e2 _ (LaidW.below HLW.out HB.out) X2.out.scan).mono ?_
   rintro e v2 ⟨v0, rfl, ho, hb⟩
   obtain ⟨A2, c2, rfl⟩ := Kd.R_slice ho
   have K2_ := Aside0.mk (Kd.R_reads' ho).2.2
   clear ho
   have n0_ := Aside0.mk (below_step HB.out hb)
   have m0_ := Aside0.mk (Kd.C_below K1.out hb)
   clear HB K1 hb
   have HB := n0_
   have K1 := m0_
   clear n0_ m0_
   have K2 := K2_
   clear K2_
   go_wp2_with (fail)
   refine (spillwayref3_Quote.calls k t s3 _ G3.out).mono ?_
   rintro e y3 ⟨rfl, nd, rfl⟩
   have hb := pw_below_drewN (Below.refl v2.heap.size v2) nd
   have n0_ := Aside0.mk (below_step HB.out hb)
   have m0_ := Aside0.mk (Kd.C_below K1.out hb)
   have m1_ := Aside0.mk (Kd.C_below K2.out hb)
   clear HB K1 K2 hb
   have HB := n0_
   have K1 := m0_
   have K2 := m1_
   clear n0_ m0_ m1_
   generalize World.drewN _ nd = y3 at HB K1 K2 ⊢
   go_wp2_with (fail)
   refine (lex_Scan.calls k _ T3 a3 e3 _ (LaidW.below HLW.out HB.out) X3.out.scan).mono ?_
   rintro e v3 ⟨v0, rfl, ho, hb⟩
   obtain ⟨A3, c3, rfl⟩ := Kd.R_slice ho
   have K3_ := Aside0.mk (Kd.R_reads' ho).2.2
   clear ho
   have n0_ := Aside0.mk (below_step HB.out hb)
   have m0_ := Aside0.mk (Kd.C_below K1.out hb)
   have m1_ := Aside0.mk (Kd.C_below K2.out hb)
   clear HB K1 K2 hb
   have HB := n0_
   have K1 := m0_
   have K2 := m1_
   clear n0_ m0_ m1_
   have K3 := K3_
   clear K3_
   go_wp2_with (fail)
   refine (lex_Scan.calls k _ T4 a4 e4 _ (LaidW.below HLW.out HB.out) X4.out.scan).mono ?_
   rintro e v4 ⟨v0, rfl, ho, hb⟩
   obtain ⟨A4, c4, rfl⟩ := Kd.R_slice ho
   have K4_ := Aside0.mk (Kd.R_reads' ho).2.2
   clear ho
   have n0_ := Aside0.mk (below_step HB.out hb)
   have m0_ := Aside0.mk (Kd.C_below K1.out hb)
   have m1_ := Aside0.mk (Kd.C_below K2.out hb)
   have m2_ := Aside0.mk (Kd.C_below K3.out hb)
   clear HB K1 K2 K3 hb
   have HB := n0_
   have K1 := m0_
   have K2 := m1_
   have K3 := m2_
   clear n0_ m0_ m1_ m2_
   have K4 := K4_
   clear K4_
   have e1l := (X1.out.yes trivial).2
   obtain ⟨ad1, q1, k1_0, k1_1, k1_2, k1_3, k1_4, k1_5⟩ := at_T36 K1.out 0 (by omega) (by omega)
   cases q1
   clear k1_0
   clear k1_1
   clear k1_2
   clear k1_3
   (try simp only [show (0 : Int).toNat = 0 from rfl, Nat.zero_mul, Nat.reduceMul, Nat.reduceEqDiff, Go.Addr.add, ↓reduceIte] at k1_4)
   clear k1_5
   have l1 : (0 < (T1.length : Int)) = True := eq_true (by omega)
   have l1b : (0 < T1.length) = True := eq_true (by omega)
   rw [Y1.out] at k1_4
   obtain rfl := X3.out.no (by omega)
   have m3 : decide ((t.size : Int) ≤ 30) = false := decide_eq_false (by omega)
   simp only [List.append_eq, List.cons_append, List.nil_append] at *
   by_cases hd1 : 1 ≤ D
   ·have m1 : decide (1 ≤ D) = true := decide_eq_true hd1
    by_cases hd2 : D ≤ 100
    ·have m2 : decide (D ≤ 100) = true := decide_eq_true hd2
     obtain ⟨rfl, e2l⟩ := X2.out.yes ⟨hd1, hd2⟩
     obtain ⟨ad2, q2, k2_0, k2_1, k2_2, k2_3, k2_4, k2_5⟩ := at_T36 K2.out 0 (by omega) (by omega)
     cases q2
     clear k2_0
     clear k2_1
     clear k2_2
     clear k2_3
     clear k2_4
     (try simp only [show (0 : Int).toNat = 0 from rfl, Nat.zero_mul, Nat.reduceMul, Nat.reduceEqDiff, Go.Addr.add, ↓reduceIte] at k2_5)
     have l2 : (0 < (T2.length : Int)) = True := eq_true (by omega)
     have l2b : (0 < T2.length) = True := eq_true (by omega)
     rw [Y2.out ⟨hd1, hd2⟩] at k2_5
     clear hd1 hd2
     by_cases hn4 : Z + 1 ≤ 20
     ·obtain ⟨rfl, e4l⟩ := X4.out.yes hn4
      obtain ⟨ad4, q4, k4_0, k4_1, k4_2, k4_3, k4_4, k4_5⟩ := at_T36 K4.out 0 (by omega) (by omega)
      cases q4
      clear k4_0
      clear k4_1
      (try simp only [show (0 : Int).toNat = 0 from rfl, Nat.zero_mul, Nat.reduceMul, Nat.reduceEqDiff, Go.Addr.add, ↓reduceIte] at k4_2)
      clear k4_3
      clear k4_4
      clear k4_5
      have l4 : (0 < (T4.length : Int)) = True := eq_true (by omega)
      have l4b : (0 < T4.length) = True := eq_true (by omega)
      rw [Y4.out hn4] at k4_2
      have m4 : decide (Z + 1 ≤ 20) = true := decide_eq_true hn4
      clear hn4
      go_wp2
      go_ret
      exact ⟨rfl, HB.out⟩
     ·obtain rfl := X4.out.no hn4
      have m4 : decide (Z + 1 ≤ 20) = false := decide_eq_false hn4
      clear hn4
      go_wp2
      go_ret
      exact ⟨rfl, HB.out⟩
    ·have m2 : decide (D ≤ 100) = false := decide_eq_false hd2
     obtain rfl := X2.out.no (fun h => hd2 h.2)
     clear hd1 hd2
     by_cases hn4 : Z + 1 ≤ 20
     ·obtain ⟨rfl, e4l⟩ := X4.out.yes hn4
      obtain ⟨ad4, q4, k4_0, k4_1, k4_2, k4_3, k4_4, k4_5⟩ := at_T36 K4.out 0 (by omega) (by omega)
      cases q4
      clear k4_0
      clear k4_1
      (try simp only [show (0 : Int).toNat = 0 from rfl, Nat.zero_mul, Nat.reduceMul, Nat.reduceEqDiff, Go.Addr.add, ↓reduceIte] at k4_2)
      clear k4_3
      clear k4_4
      clear k4_5
      have l4 : (0 < (T4.length : Int)) = True := eq_true (by omega)
      have l4b : (0 < T4.length) = True := eq_true (by omega)
      rw [Y4.out hn4] at k4_2
      have m4 : decide (Z + 1 ≤ 20) = true := decide_eq_true hn4
      clear hn4
      go_wp2
      go_ret
      exact ⟨rfl, HB.out⟩
     ·obtain rfl := X4.out.no hn4
      have m4 : decide (Z + 1 ≤ 20) = false := decide_eq_false hn4
      clear hn4
      go_wp2
      go_ret
      exact ⟨rfl, HB.out⟩
   ·have m1 : decide (1 ≤ D) = false := decide_eq_false hd1
    obtain rfl := X2.out.no (fun h => hd1 h.1)
    clear hd1
    by_cases hn4 : Z + 1 ≤ 20
    ·obtain ⟨rfl, e4l⟩ := X4.out.yes hn4
     obtain ⟨ad4, q4, k4_0, k4_1, k4_2, k4_3, k4_4, k4_5⟩ := at_T36 K4.out 0 (by omega) (by omega)
     cases q4
     clear k4_0
     clear k4_1
     (try simp only [show (0 : Int).toNat = 0 from rfl, Nat.zero_mul, Nat.reduceMul, Nat.reduceEqDiff, Go.Addr.add, ↓reduceIte] at k4_2)
     clear k4_3
     clear k4_4
     clear k4_5
     have l4 : (0 < (T4.length : Int)) = True := eq_true (by omega)
     have l4b : (0 < T4.length) = True := eq_true (by omega)
     rw [Y4.out hn4] at k4_2
     have m4 : decide (Z + 1 ≤ 20) = true := decide_eq_true hn4
     clear hn4
     go_wp2
     go_ret
     exact ⟨rfl, HB.out⟩
    ·obtain rfl := X4.out.no hn4
     have m4 : decide (Z + 1 ≤ 20) = false := decide_eq_false hn4
     clear hn4
     go_wp2
     go_ret
     exact ⟨rfl, HB.out⟩
end Go.Proofs.YtnjobjogddjelaaGreatDoor.Print
end

section
namespace Go.Proofs.YtnjobjogddjelaaGreatDoor.Print
open Go.RowKit Go.Proofs.YtnjobjogddjelaaGreatDoorX Go.Proofs.YtnjobjogddjelaaGreatDoorW.PrintWords Go.Proofs.YtnjobjogddjelaaGreatDoorW.PrintLast Go.Proofs.YtnjobjogddjelaaGreatDoorW.PrintMore
attribute [local go_sem] max2_int min2_int max_two min_two max_three min_three max_four min_four

/-! ### spillwayref2_Is: function 39 -/
def spillwayref2_Is.f (a0_0 : Bool) (a0_1 : Int) : Option (Bool) := if a0_0 = true then (some (a0_1 == 0)) else (if a0_1 = (-9223372036854775808) then (some false) else (some true))
set_option maxHeartbeats 8000000 in
set_option maxRecDepth 100000 in
theorem spillwayref2_Is.calls (a0_0 : Bool) (a0_1 : Int) (r : Bool) (w : World) (h : spillwayref2_Is.f a0_0 a0_1 = some r) :
  Calls Tryz.prog 39 #[.agg #[.bool a0_0, .int .i64 a0_1]] w fun e w' => e = .returned (.bool r) ∧ Below w.heap.size w w' := by
 have hu34 := Tryz.underlying34
 have HB := Aside0.mk (Below.refl w.heap.size w)
 have H : (if a0_0 = true then (some (a0_1 == 0)) else (if a0_1 = (-9223372036854775808) then (some false) else (some true))) = some r := h
 clear h
 by_cases c2 : a0_0 = true
 ·subst c2
  have H1 : (some (a0_1 == 0)) = some r := by rw [if_pos rfl] at H; exact H
  clear H
  have H := H1
  clear H1
  obtain rfl := Option.some.inj H
  go_enter Tryz.func39, Tryz.ntmps39
  go_wp2_with (first | ((with_reducible refine gate_dst (N := 1) rfl ?_); refine box_event ?hg (N := 1) ?hd (cs := #[.bool true, .int .i64 a0_1]) (t := 34) ?hr ?_; (case hd => rfl); (case hg => rfl); (case hr => first | (go_simp; done) | (go_simp; rfl)); intro gb337 hg w3 hbox hb; have n0_ := Aside0.mk (below_step (by repeat (first | (with_reducible first | exact HB.out | apply below_alloc | apply pw_below_drewN | apply below_drew1) | exact HB.out)) hb); have n1_ := Aside0.mk (hbox); have n2_ := Aside0.mk ((by rw [hg]; exact (below_size (by repeat (first | (with_reducible first | exact HB.out | apply below_alloc | apply pw_below_drewN | apply below_drew1) | exact HB.out))) : w.heap.size ≤ gb337)); have n3_ := Aside0.mk ((by rw [hg]; exact (below_size (by repeat (first | (with_reducible first | exact HB.out | apply below_alloc | apply pw_below_drewN | apply below_drew1) | exact HB.out))) : w.heap.size ≤ gb337)); clear HB; have HB := n0_; have BK337 := n1_; have GW337 := n2_; have GE337 := n3_; clear n0_ n1_ n2_ n3_; clear hb hbox hg; have hcz4_0 : w3.cell? ⟨gb337, 0, none⟩ = some (.bool true) := (blk_cell BK337.out 0).trans rfl; have hcz4_1 : w3.cell? ⟨gb337, 1, none⟩ = some (.int .i64 a0_1) := (blk_cell BK337.out 1).trans rfl; have hfz4_0 := blk_frozen BK337.out 0; have hfz4_1 := blk_frozen BK337.out 1))
  go_ret
  exact ⟨by first | rfl | (simp [errW_none, errW_some] <;> rfl) | (simp [*, errW_none, errW_some] <;> rfl), by repeat (first | (with_reducible first | exact HB.out | apply below_alloc | apply pw_below_drewN | apply below_drew1 | refine below_set ?_ GE337.out) | exact HB.out)⟩
 ·replace c2 := Bool.eq_false_iff.mpr c2
  subst c2
  have H1 : (if a0_1 = (-9223372036854775808) then (some false) else (some true)) = some r := by rw [if_neg (show ¬ (false = true) by decide)] at H; exact H
  clear H
  have H := H1
  clear H1
  by_cases c5 : a0_1 = (-9223372036854775808)
  ·rw [if_pos c5] at H
   have c5b0 : (a0_1 == (-9223372036854775808)) = true := beq_iff_eq.mpr c5
   have c5b1 : (a0_1 != (-9223372036854775808)) = false := bne_eq_false_iff_eq.mpr c5
   clear c5
   obtain rfl := Option.some.inj H
   go_enter Tryz.func39, Tryz.ntmps39
   go_wp2_with (first | ((with_reducible refine gate_dst (N := 1) rfl ?_); refine box_event ?hg (N := 1) ?hd (cs := #[.bool false, .int .i64 a0_1]) (t := 34) ?hr ?_; (case hd => rfl); (case hg => rfl); (case hr => first | (go_simp; done) | (go_simp; rfl)); intro gb337 hg w6 hbox hb; have n0_ := Aside0.mk (below_step (by repeat (first | (with_reducible first | exact HB.out | apply below_alloc | apply pw_below_drewN | apply below_drew1) | exact HB.out)) hb); have n1_ := Aside0.mk (hbox); have n2_ := Aside0.mk ((by rw [hg]; exact (below_size (by repeat (first | (with_reducible first | exact HB.out | apply below_alloc | apply pw_below_drewN | apply below_drew1) | exact HB.out))) : w.heap.size ≤ gb337)); have n3_ := Aside0.mk ((by rw [hg]; exact (below_size (by repeat (first | (with_reducible first | exact HB.out | apply below_alloc | apply pw_below_drewN | apply below_drew1) | exact HB.out))) : w.heap.size ≤ gb337)); clear HB; have HB := n0_; have BK337 := n1_; have GW337 := n2_; have GE337 := n3_; clear n0_ n1_ n2_ n3_; clear hb hbox hg; have hcz7_0 : w6.cell? ⟨gb337, 0, none⟩ = some (.bool false) := (blk_cell BK337.out 0).trans rfl; have hcz7_1 : w6.cell? ⟨gb337, 1, none⟩ = some (.int .i64 a0_1) := (blk_cell BK337.out 1).trans rfl; have hfz7_0 := blk_frozen BK337.out 0; have hfz7_1 := blk_frozen BK337.out 1))
   go_ret
   exact ⟨by first | rfl | (simp [errW_none, errW_some] <;> rfl) | (simp [*, errW_none, errW_some] <;> rfl), by repeat (first | (with_reducible first | exact HB.out | apply below_alloc | apply pw_below_drewN | apply below_drew1 | refine below_set ?_ GE337.out) | exact HB.out)⟩
  ·rw [if_neg c5] at H
   have c5b0 : (a0_1 == (-9223372036854775808)) = false := beq_eq_false_iff_ne.mpr c5
   have c5b1 : (a0_1 != (-9223372036854775808)) = true := bne_iff_ne.mpr c5
   obtain rfl := Option.some.inj H
   go_enter Tryz.func39, Tryz.ntmps39
   go_wp2_with (first | ((with_reducible refine gate_dst (N := 1) rfl ?_); refine box_event ?hg (N := 1) ?hd (cs := #[.bool false, .int .i64 a0_1]) (t := 34) ?hr ?_; (case hd => rfl); (case hg => rfl); (case hr => first | (go_simp; done) | (go_simp; rfl)); intro gb337 hg w8 hbox hb; have n0_ := Aside0.mk (below_step (by repeat (first | (with_reducible first | exact HB.out | apply below_alloc | apply pw_below_drewN | apply below_drew1) | exact HB.out)) hb); have n1_ := Aside0.mk (hbox); have n2_ := Aside0.mk ((by rw [hg]; exact (below_size (by repeat (first | (with_reducible first | exact HB.out | apply below_alloc | apply pw_below_drewN | apply below_drew1) | exact HB.out))) : w.heap.size ≤ gb337)); have n3_ := Aside0.mk ((by rw [hg]; exact (below_size (by repeat (first | (with_reducible first | exact HB.out | apply below_alloc | apply pw_below_drewN | apply below_drew1) | exact HB.out))) : w.heap.size ≤ gb337)); clear HB; have HB := n0_; have BK337 := n1_; have GW337 := n2_; have GE337 := n3_; clear n0_ n1_ n2_ n3_; clear hb hbox hg; have hcz9_0 : w8.cell? ⟨gb337, 0, none⟩ = some (.bool false) := (blk_cell BK337.out 0).trans rfl; have hcz9_1 : w8.cell? ⟨gb337, 1, none⟩ = some (.int .i64 a0_1) := (blk_cell BK337.out 1).trans rfl; have hfz9_0 := blk_frozen BK337.out 0; have hfz9_1 := blk_frozen BK337.out 1))
   go_ret
   exact ⟨by first | rfl | (simp [errW_none, errW_some] <;> rfl) | (simp [*, errW_none, errW_some] <;> rfl), by repeat (first | (with_reducible first | exact HB.out | apply below_alloc | apply pw_below_drewN | apply below_drew1 | refine below_set ?_ GE337.out) | exact HB.out)⟩

end Go.Proofs.YtnjobjogddjelaaGreatDoor.Print
end

section
namespace Go.Proofs.YtnjobjogddjelaaGreatDoor.Print
open Go.RowKit Go.Proofs.YtnjobjogddjelaaGreatDoorX Go.Proofs.YtnjobjogddjelaaGreatDoorW.PrintWords Go.Proofs.YtnjobjogddjelaaGreatDoorW.PrintLast Go.Proofs.YtnjobjogddjelaaGreatDoorW.PrintMore
attribute [local go_sem] max2_int min2_int max_two min_two max_three min_three max_four min_four

/-! ### spillwayref2_size: function 40 -/
def spillwayref2_size.f (a0 : Int) : Option (Int) := if a0 < 0 then (some (IntKind.u64.wrap (wrap64 (-a0)))) else (some (IntKind.u64.wrap (a0)))
set_option maxHeartbeats 8000000 in
set_option maxRecDepth 100000 in
theorem spillwayref2_size.calls (a0 : Int) (r : Int) (w : World) (h : spillwayref2_size.f a0 = some r) :
  Calls Tryz.prog 40 #[.int .i64 a0] w fun e w' => e = .returned (.int .u64 r) ∧ Drawn0 w w' := by
 have H : (if a0 < 0 then (some (IntKind.u64.wrap (wrap64 (-a0)))) else (some (IntKind.u64.wrap (a0)))) = some r := h
 clear h
 by_cases c2 : a0 < 0
 ·rw [if_pos c2] at H
  have c2b0 : decide (a0 < 0) = true := decide_eq_true c2
  clear c2
  obtain rfl := Option.some.inj H
  go_enter Tryz.func40, Tryz.ntmps40
  go_wp2
  go_ret
  exact ⟨by first | rfl | (simp; done) | (simp [*]; done), by repeat (first | exact Drawn0.refl _ | apply Drawn0.step)⟩
 ·rw [if_neg c2] at H
  have c2b0 : decide (a0 < 0) = false := decide_eq_false c2
  clear c2
  obtain rfl := Option.some.inj H
  go_enter Tryz.func40, Tryz.ntmps40
  go_wp2
  go_ret
  exact ⟨by first | rfl | (simp; done) | (simp [*]; done), by repeat (first | exact Drawn0.refl _ | apply Drawn0.step)⟩

end Go.Proofs.YtnjobjogddjelaaGreatDoor.Print
end

section
namespace Go.Proofs.YtnjobjogddjelaaGreatDoor.Print
open Go.RowKit Go.Proofs.YtnjobjogddjelaaGreatDoorX Go.Proofs.YtnjobjogddjelaaGreatDoorW.PrintWords Go.Proofs.YtnjobjogddjelaaGreatDoorW.PrintLast Go.Proofs.YtnjobjogddjelaaGreatDoorW.PrintMore
attribute [local go_sem] max2_int min2_int max_two min_two max_three min_three max_four min_four

/-! ### spillwayref2_Print: function 22 -/
mutual
def spillwayref2_Print.j0 : Nat → Bool → Bool → Int → Option (ByteArray)
 | 0, _, _, _ => none
 | k + 1, x12, x339000, x339001 => if x12 = true then (some (⟨#[111, 118, 102]⟩ : ByteArray)) else ((spillwayref2_size.f x339001).bind fun t340 => ((spillwayref2_Digits.f k (IntKind.u64.wrap (Int.tdiv t340 1000000))).bind fun t341 => ((spillwayref2_Digits.f k (IntKind.u64.wrap ((Int.tmod t340 1000000) + 1000000))).bind fun t342 => (if 1 ≤ (t342.size : Int) then (spillwayref2_Print.l0 k t341 (t342.extract 1 t342.size) x339000 x339001) else (none)))))
def spillwayref2_Print.j2 : Nat → ByteArray → ByteArray → Bool → Int → Option (ByteArray)
 | 0, _, _, _, _ => none
 | k + 1, x4, x5, x339000, x339001 => if x5.toList = ([] : List UInt8) then (if x339001 < 0 then (if 1 + x4.size ≤ 9223372036854775807 then (some ((⟨#[45]⟩ : ByteArray) ++ x4)) else (none)) else (some x4)) else (if x4.size + 1 ≤ 9223372036854775807 then (if (x4 ++ (⟨#[46]⟩ : ByteArray)).size + x5.size ≤ 9223372036854775807 then (if x339001 < 0 then (if 1 + ((x4 ++ (⟨#[46]⟩ : ByteArray)) ++ x5).size ≤ 9223372036854775807 then (some ((⟨#[45]⟩ : ByteArray) ++ ((x4 ++ (⟨#[46]⟩ : ByteArray)) ++ x5))) else (none)) else (some ((x4 ++ (⟨#[46]⟩ : ByteArray)) ++ x5))) else (none)) else (none))
def spillwayref2_Print.l0 : Nat → ByteArray → ByteArray → Bool → Int → Option (ByteArray)
 | 0, _, _, _, _ => none
 | k + 1, x4, x5, x339000, x339001 => if (x5.size : Int) > 0 then (if 0 ≤ (wrap64 ((x5.size : Int) - 1)) then (if (wrap64 ((x5.size : Int) - 1)) < (x5.size : Int) then (if (bt x5 (wrap64 ((x5.size : Int) - 1))) = 48 then (if (wrap64 ((x5.size : Int) - 1)) ≤ (x5.size : Int) then (spillwayref2_Print.l0 k x4 (x5.extract 0 ((wrap64 ((x5.size : Int) - 1)) : Int).toNat) x339000 x339001) else (none)) else (spillwayref2_Print.j2 k x4 x5 x339000 x339001)) else (none)) else (none)) else (spillwayref2_Print.j2 k x4 x5 x339000 x339001)
end
def spillwayref2_Print.f (k : Nat) (a0_0 : Bool) (a0_1 : Int) : Option (ByteArray) := if a0_0 = true then (spillwayref2_Print.j0 k true a0_0 a0_1) else ((spillwayref2_Is.f a0_0 a0_1).bind fun t339 => (spillwayref2_Print.j0 k (!t339) a0_0 a0_1))
theorem spillwayref2_Print.mono_l : ∀ k, (∀ y0 y1 y2, LeO (spillwayref2_Print.j0 k y0 y1 y2) (spillwayref2_Print.j0 (k + 1) y0 y1 y2)) ∧ (∀ y0 y1 y2 y3, LeO (spillwayref2_Print.j2 k y0 y1 y2 y3) (spillwayref2_Print.j2 (k + 1) y0 y1 y2 y3)) ∧ (∀ y0 y1 y2 y3, LeO (spillwayref2_Print.l0 k y0 y1 y2 y3) (spillwayref2_Print.l0 (k + 1) y0 y1 y2 y3))
 | 0 => ⟨fun _ _ _ r h => by simp [spillwayref2_Print.j0] at h, fun _ _ _ _ r h => by simp [spillwayref2_Print.j2] at h, fun _ _ _ _ r h => by simp [spillwayref2_Print.l0] at h⟩
 | k + 1 => by
  obtain ⟨ih0, ih1, ih2⟩ := spillwayref2_Print.mono_l k
  refine ⟨?_, ?_, ?_⟩
  ·intro y0 y1 y2
   unfold spillwayref2_Print.j0
   repeat' first
   | (with_reducible exact ih0 _ _ _)
   | (with_reducible exact ih1 _ _ _ _)
   | (with_reducible exact ih2 _ _ _ _)
   | (with_reducible exact spillwayref2_Digits.mono _ _)
   | (with_reducible exact LeO.refl _)
   | (with_reducible exact LeO.none _)
   | (with_reducible refine LeO.ite ?_ ?_)
   | (with_reducible refine LeO.bind ?_ (fun _ => ?_))
   | exact ih0 _ _ _
   | exact ih1 _ _ _ _
   | exact ih2 _ _ _ _
   | exact spillwayref2_Digits.mono _ _
   | exact LeO.none _
   | refine LeO.ite ?_ ?_
   | refine LeO.bind ?_ (fun _ => ?_)
  ·intro y0 y1 y2 y3
   unfold spillwayref2_Print.j2
   repeat' first
   | (with_reducible exact ih0 _ _ _)
   | (with_reducible exact ih1 _ _ _ _)
   | (with_reducible exact ih2 _ _ _ _)
   | (with_reducible exact spillwayref2_Digits.mono _ _)
   | (with_reducible exact LeO.refl _)
   | (with_reducible exact LeO.none _)
   | (with_reducible refine LeO.ite ?_ ?_)
   | (with_reducible refine LeO.bind ?_ (fun _ => ?_))
   | exact ih0 _ _ _
   | exact ih1 _ _ _ _
   | exact ih2 _ _ _ _
   | exact spillwayref2_Digits.mono _ _
   | exact LeO.none _
   | refine LeO.ite ?_ ?_
   | refine LeO.bind ?_ (fun _ => ?_)
  ·intro y0 y1 y2 y3
   unfold spillwayref2_Print.l0
   repeat' first
   | (with_reducible exact ih0 _ _ _)
   | (with_reducible exact ih1 _ _ _ _)
   | (with_reducible exact ih2 _ _ _ _)
   | (with_reducible exact spillwayref2_Digits.mono _ _)
   | (with_reducible exact LeO.refl _)
   | (with_reducible exact LeO.none _)
   | (with_reducible refine LeO.ite ?_ ?_)
   | (with_reducible refine LeO.bind ?_ (fun _ => ?_))
   | exact ih0 _ _ _
   | exact ih1 _ _ _ _
   | exact ih2 _ _ _ _
   | exact spillwayref2_Digits.mono _ _
   | exact LeO.none _
   | refine LeO.ite ?_ ?_
   | refine LeO.bind ?_ (fun _ => ?_)
theorem spillwayref2_Print.mono : ∀ a0 a1 k, LeO (spillwayref2_Print.f k a0 a1) (spillwayref2_Print.f (k + 1) a0 a1) := by
 intro a0 a1 k
 obtain ⟨ih0, ih1, ih2⟩ := spillwayref2_Print.mono_l k
 unfold spillwayref2_Print.f
 repeat' first
   | (with_reducible exact ih0 _ _ _)
   | (with_reducible exact ih1 _ _ _ _)
   | (with_reducible exact ih2 _ _ _ _)
   | (with_reducible exact spillwayref2_Digits.mono _ _)
   | (with_reducible exact LeO.refl _)
   | (with_reducible exact LeO.none _)
   | (with_reducible refine LeO.ite ?_ ?_)
   | (with_reducible refine LeO.bind ?_ (fun _ => ?_))
   | exact ih0 _ _ _
   | exact ih1 _ _ _ _
   | exact ih2 _ _ _ _
   | exact spillwayref2_Digits.mono _ _
   | exact LeO.none _
   | refine LeO.ite ?_ ?_
   | refine LeO.bind ?_ (fun _ => ?_)
set_option maxHeartbeats 8000000 in
set_option maxRecDepth 100000 in
theorem spillwayref2_Print.calls (k : Nat) (a0_0 : Bool) (a0_1 : Int) (r : ByteArray) (w : World) (h : spillwayref2_Print.f k a0_0 a0_1 = some r) :
  Calls Tryz.prog 22 #[.agg #[.bool a0_0, .int .i64 a0_1]] w fun e w' => e = .returned (.string r) ∧ Below w.heap.size w w' := by
 have hu34 := Tryz.underlying34
 have HB := Aside0.mk (Below.refl w.heap.size w)
 have H : (if a0_0 = true then (spillwayref2_Print.j0 k true a0_0 a0_1) else ((spillwayref2_Is.f a0_0 a0_1).bind fun t339 => (spillwayref2_Print.j0 k (!t339) a0_0 a0_1))) = some r := h
 clear h
 have HC2 := Aside0.mk H
 clear H
 go_enter Tryz.func22, Tryz.ntmps22
 go_upto_region 1 with (first | ((with_reducible refine gate_dst (N := 1) rfl ?_); (try (refine gate_guard (by rfl) ?_; dsimp only)); refine box_event ?hg (N := 1) ?hd (cs := #[.bool a0_0, .int .i64 a0_1]) (t := 34) ?hr ?_; (case hd => rfl); (case hg => rfl); (case hr => first | (go_simp; done) | (go_simp; rfl)); intro gb338 hg w3 hbox hb; have n0_ := Aside0.mk (below_step (by repeat (first | (with_reducible first | exact HB.out | apply below_alloc | apply pw_below_drewN | apply below_drew1) | exact HB.out)) hb); have n1_ := Aside0.mk (hbox); have n2_ := Aside0.mk ((by rw [hg]; exact (below_size (by repeat (first | (with_reducible first | exact HB.out | apply below_alloc | apply pw_below_drewN | apply below_drew1) | exact HB.out))) : w.heap.size ≤ gb338)); have n3_ := Aside0.mk ((by rw [hg]; exact (below_size (by repeat (first | (with_reducible first | exact HB.out | apply below_alloc | apply pw_below_drewN | apply below_drew1) | exact HB.out))) : w.heap.size ≤ gb338)); clear HB; have HB := n0_; have BK338 := n1_; have GW338 := n2_; have GE338 := n3_; clear n0_ n1_ n2_ n3_; clear hb hbox hg))
 (try simp only [Act.put, List.setIfInBounds_toArray, List.set_cons_zero, List.set_cons_succ])
 go_cut [12] (fun v12 wc => ∃ (kq : Nat) (x12_1 : Bool), v12 = .bool x12_1 ∧ Aside0 (spillwayref2_Print.j0 kq x12_1 a0_0 a0_1 = some r) ∧ Aside0 (kq ≤ k) ∧ Aside0 (wc.heap[gb338]? = some (.cells #[.bool a0_0, .int .i64 a0_1] 34 (0, 0))) ∧ Aside0 (Below w.heap.size w wc))
 case first =>
  have H := HC2.out
  clear HC2
  by_cases c4 : a0_0 = true
  ·subst c4
   have H1 : (spillwayref2_Print.j0 k true true a0_1) = some r := by rw [if_pos rfl] at H; exact H
   clear H
   have H := H1
   clear H1
   have H' := Aside0.mk H
   clear H
   have hcz5_0 : w3.cell? ⟨gb338, 0, none⟩ = some (.bool true) := (blk_cell BK338.out 0).trans rfl
   have hcz5_1 : w3.cell? ⟨gb338, 1, none⟩ = some (.int .i64 a0_1) := (blk_cell BK338.out 1).trans rfl
   have hfz5_0 := blk_frozen BK338.out 0
   have hfz5_1 := blk_frozen BK338.out 1
   go_wp2
   go_meet
   case rel => exact ⟨_, (true), (by first | rfl | (simp; done) | (simp [*]; done)), H', ⟨by first | omega | exact Nat.le_refl _⟩, ⟨by (with_reducible repeat (first | refine blk_drewN ?_ _ | refine blk_drew ?_ | refine blk_alloc ?_ _)); exact BK338.out⟩, ⟨by repeat (first | (with_reducible first | exact HB.out | apply below_alloc | apply pw_below_drewN | apply below_drew1 | refine below_set ?_ GE338.out) | exact HB.out)⟩⟩
  ·replace c4 := Bool.eq_false_iff.mpr c4
   subst c4
   have H1 : ((spillwayref2_Is.f false a0_1).bind fun t339 => (spillwayref2_Print.j0 k (!t339) false a0_1)) = some r := by rw [if_neg (show ¬ (false = true) by decide)] at H; exact H
   clear H
   have H := H1
   clear H1
   replace H := Option.bind_eq_some_iff.mp H
   obtain ⟨t339, A60, H⟩ := H
   replace H : (spillwayref2_Print.j0 k (!t339) false a0_1) = some r := H
   have A6 := Aside0.mk A60
   clear A60
   have H' := Aside0.mk H
   clear H
   have hcz7_0 : w3.cell? ⟨gb338, 0, none⟩ = some (.bool false) := (blk_cell BK338.out 0).trans rfl
   have hcz7_1 : w3.cell? ⟨gb338, 1, none⟩ = some (.int .i64 a0_1) := (blk_cell BK338.out 1).trans rfl
   have hfz7_0 := blk_frozen BK338.out 0
   have hfz7_1 := blk_frozen BK338.out 1
   go_wp2_with (first | (go_at_call 39; (with_reducible refine (spillwayref2_Is.calls false a0_1 t339 _ A6.out).mono ?_); rintro e w8 ⟨rfl, hb⟩; have n0_ := Aside0.mk (blk_below (g := gb338) (o := .cells #[.bool false, .int .i64 a0_1] 34 (0, 0)) (by (with_reducible repeat (first | refine blk_drewN ?_ _ | refine blk_drew ?_ | refine blk_alloc ?_ _)); exact BK338.out) hb); have n1_ := Aside0.mk (below_step (by repeat (first | (with_reducible first | exact HB.out | apply below_alloc | apply pw_below_drewN | apply below_drew1 | refine below_set ?_ GE338.out) | exact HB.out)) hb); clear BK338; clear HB; have BK338 := n0_; have HB := n1_; clear n0_ n1_; (try clear hb); (try clear hb2); (try clear hk); (try clear hi)))
   go_meet
   case rel => exact ⟨_, (!t339), (by first | rfl | (simp; done) | (simp [*]; done)), H', ⟨by first | omega | exact Nat.le_refl _⟩, ⟨by (with_reducible repeat (first | refine blk_drewN ?_ _ | refine blk_drew ?_ | refine blk_alloc ?_ _)); exact BK338.out⟩, ⟨by repeat (first | (with_reducible first | exact HB.out | apply below_alloc | apply pw_below_drewN | apply below_drew1 | refine below_set ?_ GE338.out) | exact HB.out)⟩⟩
 case rest =>
  clear HC2
  try clear c2
  try clear p2
  try clear c4
  try clear hcz5_0
  try clear hcz5_1
  try clear hcz7_0
  try clear hcz7_1
  try clear hfz5_0
  try clear hfz5_1
  try clear hfz7_0
  try clear hfz7_1
  obtain ⟨kq, x12_1, rfl, HA, HJ1, BK338, HB⟩ := hcut
  cases kq with
  | zero => exact absurd HA.out (by simp [spillwayref2_Print.j0])
  | succ kj1 =>
   have H := HA.out
   clear HA
   simp only [spillwayref2_Print.j0] at H
   by_cases c9 : x12_1 = true
   ·subst c9
    have H1 : (some (⟨#[111, 118, 102]⟩ : ByteArray)) = some r := by rw [if_pos rfl] at H; exact H
    clear H
    have H := H1
    clear H1
    obtain rfl := Option.some.inj H
    go_wp2
    go_ret
    exact ⟨by first | rfl | (simp [errW_none, errW_some] <;> rfl) | (simp [*, errW_none, errW_some] <;> rfl), by repeat (first | (with_reducible first | exact HB.out | apply below_alloc | apply pw_below_drewN | apply below_drew1 | refine below_set ?_ GE338.out) | exact HB.out)⟩
   ·replace c9 := Bool.eq_false_iff.mpr c9
    subst c9
    have H1 : ((spillwayref2_size.f a0_1).bind fun t340 => ((spillwayref2_Digits.f kj1 (IntKind.u64.wrap (Int.tdiv t340 1000000))).bind fun t341 => ((spillwayref2_Digits.f kj1 (IntKind.u64.wrap ((Int.tmod t340 1000000) + 1000000))).bind fun t342 => (if 1 ≤ (t342.size : Int) then (spillwayref2_Print.l0 kj1 t341 (t342.extract 1 t342.size) a0_0 a0_1) else (none))))) = some r := by rw [if_neg (show ¬ (false = true) by decide)] at H; exact H
    clear H
    have H := H1
    clear H1
    replace H := Option.bind_eq_some_iff.mp H
    obtain ⟨t340, A100, H⟩ := H
    replace H : ((spillwayref2_Digits.f kj1 (IntKind.u64.wrap (Int.tdiv t340 1000000))).bind fun t341 => ((spillwayref2_Digits.f kj1 (IntKind.u64.wrap ((Int.tmod t340 1000000) + 1000000))).bind fun t342 => (if 1 ≤ (t342.size : Int) then (spillwayref2_Print.l0 kj1 t341 (t342.extract 1 t342.size) a0_0 a0_1) else (none)))) = some r := H
    have A10 := Aside0.mk A100
    clear A100
    replace H := Option.bind_eq_some_iff.mp H
    obtain ⟨t341, A110, H⟩ := H
    replace H : ((spillwayref2_Digits.f kj1 (IntKind.u64.wrap ((Int.tmod t340 1000000) + 1000000))).bind fun t342 => (if 1 ≤ (t342.size : Int) then (spillwayref2_Print.l0 kj1 t341 (t342.extract 1 t342.size) a0_0 a0_1) else (none))) = some r := H
    have A11 := Aside0.mk A110
    clear A110
    replace H := Option.bind_eq_some_iff.mp H
    obtain ⟨t342, A120, H⟩ := H
    replace H : (if 1 ≤ (t342.size : Int) then (spillwayref2_Print.l0 kj1 t341 (t342.extract 1 t342.size) a0_0 a0_1) else (none)) = some r := H
    have A12 := Aside0.mk A120
    clear A120
    by_cases c13 : 1 ≤ (t342.size : Int)
    ·rw [if_pos c13] at H
     have c13b0 := eq_true c13
     have c13b1 : decide (1 ≤ (t342.size : Int)) = true := decide_eq_true c13
     clear c13
     have HC14 := Aside0.mk H
     clear H
     have hcz15_0 : wc.cell? ⟨gb338, 0, none⟩ = some (.bool a0_0) := (blk_cell BK338.out 0).trans rfl
     have hcz15_1 : wc.cell? ⟨gb338, 1, none⟩ = some (.int .i64 a0_1) := (blk_cell BK338.out 1).trans rfl
     have hfz15_0 := blk_frozen BK338.out 0
     have hfz15_1 := blk_frozen BK338.out 1
     go_upto_block 0 with (first | ((with_reducible refine gate_callee (f := 40) rfl ?_); refine goesL_ (some 15) rfl rfl Tryz.func40 (by kernel_rfl) rfl #[.int .i64 a0_1] rfl (by (try simp only [List.map_toArray, List.map_cons, List.map_nil]); first | done | rfl | (simp only [List.length_drop, List.length_take]; rfl)) ?_; (with_reducible refine (spillwayref2_size.calls a0_1 t340 _ A10.out).mono ?_); rintro e w' ⟨rfl, ⟨nd, rfl⟩⟩; refine ⟨_, rfl, ?_⟩) | ((with_reducible refine gate_callee (f := 15) rfl ?_); refine goesL_ (some 18) rfl rfl Tryz.func15 (by kernel_rfl) rfl #[.int .u64 (IntKind.u64.wrap (Int.tdiv t340 1000000))] rfl (by (try simp only [List.map_toArray, List.map_cons, List.map_nil]); first | done | rfl | (simp only [List.length_drop, List.length_take]; rfl)) ?_; (with_reducible refine (spillwayref2_Digits.calls kj1 (IntKind.u64.wrap (Int.tdiv t340 1000000)) t341 _ A11.out).mono ?_); rintro e w16 ⟨rfl, hb⟩; refine ⟨_, rfl, ?_⟩; have n0_ := Aside0.mk (blk_below (g := gb338) (o := .cells #[.bool a0_0, .int .i64 a0_1] 34 (0, 0)) (by (with_reducible repeat (first | refine blk_drewN ?_ _ | refine blk_drew ?_ | refine blk_alloc ?_ _)); exact BK338.out) hb); have n1_ := Aside0.mk (below_step (by repeat (first | (with_reducible first | exact HB.out | apply below_alloc | apply pw_below_drewN | apply below_drew1 | refine below_set ?_ GE338.out) | exact HB.out)) hb); clear BK338; clear HB; have BK338 := n0_; have HB := n1_; clear n0_ n1_; (try clear hb); (try clear hb2); (try clear hk); (try clear hi)) | ((with_reducible refine gate_callee (f := 15) rfl ?_); refine goesL_ (some 22) rfl rfl Tryz.func15 (by kernel_rfl) rfl #[.int .u64 (IntKind.u64.wrap ((Int.tmod t340 1000000) + 1000000))] rfl (by (try simp only [List.map_toArray, List.map_cons, List.map_nil]); first | done | rfl | (simp only [List.length_drop, List.length_take]; rfl)) ?_; (with_reducible refine (spillwayref2_Digits.calls kj1 (IntKind.u64.wrap ((Int.tmod t340 1000000) + 1000000)) t342 _ A12.out).mono ?_); rintro e w17 ⟨rfl, hb⟩; refine ⟨_, rfl, ?_⟩; have n0_ := Aside0.mk (blk_below (g := gb338) (o := .cells #[.bool a0_0, .int .i64 a0_1] 34 (0, 0)) (by (with_reducible repeat (first | refine blk_drewN ?_ _ | refine blk_drew ?_ | refine blk_alloc ?_ _)); exact BK338.out) hb); have n1_ := Aside0.mk (below_step (by repeat (first | (with_reducible first | exact HB.out | apply below_alloc | apply pw_below_drewN | apply below_drew1 | refine below_set ?_ GE338.out) | exact HB.out)) hb); clear BK338; clear HB; have BK338 := n0_; have HB := n1_; clear n0_ n1_; (try clear hb); (try clear hb2); (try clear hk); (try clear hi)))
     (try simp only [Act.put, List.setIfInBounds_toArray, List.set_cons_zero, List.set_cons_succ])
     go_cut [5] (fun v5 wc => ∃ (kq : Nat) (x5_13 : ByteArray), v5 = .string x5_13 ∧ Aside0 (spillwayref2_Print.j2 kq t341 x5_13 a0_0 a0_1 = some r) ∧ Aside0 (kq ≤ kj1) ∧ Aside0 (wc.heap[gb338]? = some (.cells #[.bool a0_0, .int .i64 a0_1] 34 (0, 0))) ∧ Aside0 (Below w.heap.size w wc))
     case first =>
      have H := HC14.out
      clear HC14
      have H' := Aside0.mk H
      clear H
      go_wp2
      go_loopg [5] kj1 (fun kq v5 w' => ∃ (x5_2 : ByteArray), v5 = .string x5_2 ∧ Aside0 (spillwayref2_Print.l0 kq t341 x5_2 a0_0 a0_1 = some r) ∧ Aside0 (kq ≤ kj1) ∧ Aside0 (w'.heap[gb338]? = some (.cells #[.bool a0_0, .int .i64 a0_1] 34 (0, 0))) ∧ Aside0 (Below w.heap.size w w'))
      case atStart => exact ⟨(t342.extract 1 t342.size), (by first | rfl | (simp; done) | (simp [*]; done)), H', ⟨Nat.le_refl _⟩, ⟨by (with_reducible repeat (first | refine blk_drewN ?_ _ | refine blk_drew ?_ | refine blk_alloc ?_ _)); exact BK338.out⟩, ⟨by repeat (first | (with_reducible first | exact HB.out | apply below_alloc | apply pw_below_drewN | apply below_drew1 | refine below_set ?_ GE338.out) | exact HB.out)⟩⟩
      case round =>
       clear H'
       try clear c1
       try clear c2
       try clear p2
       try clear c4
       try clear c9
       try clear c13
       try clear c13b0
       try clear c13b1
       try clear c15
       try clear hcz15_0
       try clear hcz15_1
       try clear hcz5_0
       try clear hcz5_1
       try clear hcz7_0
       try clear hcz7_1
       try clear hfz15_0
       try clear hfz15_1
       try clear hfz5_0
       try clear hfz5_1
       try clear hfz7_0
       try clear hfz7_1
       try clear p2
       obtain ⟨x5_2, rfl, HA, HK2, BK338, HB⟩ := hrel
       cases gk with
       | zero => exact absurd HA.out (by simp [spillwayref2_Print.l0])
       | succ k2 =>
        have H := HA.out
        clear HA
        simp only [spillwayref2_Print.l0] at H
        by_cases c18 : (x5_2.size : Int) > 0
        ·rw [if_pos c18] at H
         have c18b0 : decide (0 < (x5_2.size : Int)) = true := decide_eq_true c18
         have c18b1 : decide (0 < x5_2.size) = true := decide_eq_true (by omega)
         clear c18
         (first | rw [c18b0] | (simp only [i64_w, i32_w]; rw [c18b0]) | skip)
         obtain ⟨ji19, hji19⟩ : ∃ j_ : Int, (wrap64 ((x5_2.size : Int) - 1)) = j_ := ⟨_, rfl⟩
         replace H : (if 0 ≤ (ji19) then (if (ji19) < (x5_2.size : Int) then (if (bt x5_2 (ji19)) = 48 then (if (ji19) ≤ (x5_2.size : Int) then (spillwayref2_Print.l0 k2 t341 (x5_2.extract 0 ((ji19) : Int).toNat) a0_0 a0_1) else (none)) else (spillwayref2_Print.j2 k2 t341 x5_2 a0_0 a0_1)) else (none)) else (none)) = some r := by first | (rw [hji19] at H; exact H) | (simp only [hji19] at H ⊢; exact H)
         have hji19w : (IntKind.i64.wrap ((x5_2.size : Int) - 1)) = ji19 := (i64_w _).trans hji19
         by_cases c20 : 0 ≤ (ji19)
         ·rw [if_pos c20] at H
          have c20b0 : decide (0 ≤ (ji19)) = true := decide_eq_true c20
          clear c20
          by_cases c21 : (ji19) < (x5_2.size : Int)
          ·rw [if_pos c21] at H
           have c21b0 : decide ((ji19) < (x5_2.size : Int)) = true := decide_eq_true c21
           clear c21
           by_cases c23 : (bt x5_2 (ji19)) = 48
           ·rw [if_pos c23] at H
            have c23b0 : ((bt x5_2 (ji19)) == 48) = true := beq_iff_eq.mpr c23
            have c23b1 : ((bt x5_2 (ji19)) != 48) = false := bne_eq_false_iff_eq.mpr c23
            clear c23
            have c24b0 := eq_true (of_decide_eq_true (by first | (with_reducible assumption) | assumption) : 0 ≤ (ji19))
            by_cases c25 : (ji19) ≤ (x5_2.size : Int)
            ·rw [if_pos c25] at H
             have c25b0 := eq_true c25
             have c25b1 : decide ((ji19) ≤ (x5_2.size : Int)) = true := decide_eq_true c25
             clear c25
             have H' := Aside0.mk H
             clear H
             have p22 : 0 ≤ ((ji19) : Int) := of_decide_eq_true (by first | (with_reducible assumption) | assumption)
             have q22 : (ji19) < (x5_2.size : Int) := of_decide_eq_true (by first | (with_reducible assumption) | assumption)
             have hx22 := bt_at x5_2 (ji19)
             replace p22 := eq_true p22
             replace q22 := eq_true q22
             go_wp2
             go_roundg k2
             case measure => have := HJ1.out; have := HK2.out; omega
             case rel => exact ⟨(x5_2.extract 0 ((ji19) : Int).toNat), (by first | rfl | (simp; done) | (simp only [← hji19] <;> (first | rfl | simp)) | (simp [*]; done)), H', ⟨by have := HJ1.out; have := HK2.out; omega⟩, ⟨by (with_reducible repeat (first | refine blk_drewN ?_ _ | refine blk_drew ?_ | refine blk_alloc ?_ _)); exact BK338.out⟩, ⟨by repeat (first | (with_reducible first | exact HB.out | apply below_alloc | apply pw_below_drewN | apply below_drew1 | refine below_set ?_ GE338.out) | exact HB.out)⟩⟩
            ·rw [if_neg c25] at H
             exact absurd H (by simp)
           ·rw [if_neg c23] at H
            have c23b0 : ((bt x5_2 (ji19)) == 48) = false := beq_eq_false_iff_ne.mpr c23
            have c23b1 : ((bt x5_2 (ji19)) != 48) = true := bne_iff_ne.mpr c23
            have H' := Aside0.mk H
            clear H
            have p22 : 0 ≤ ((ji19) : Int) := of_decide_eq_true (by first | (with_reducible assumption) | assumption)
            have q22 : (ji19) < (x5_2.size : Int) := of_decide_eq_true (by first | (with_reducible assumption) | assumption)
            have hx22 := bt_at x5_2 (ji19)
            replace p22 := eq_true p22
            replace q22 := eq_true q22
            go_wp2
            go_meet
            case rel => exact ⟨_, (x5_2), (by first | rfl | (simp; done) | (simp [*]; done)), H', ⟨by have := HJ1.out; have := HK2.out; first | omega | exact Nat.le_refl _⟩, ⟨by (with_reducible repeat (first | refine blk_drewN ?_ _ | refine blk_drew ?_ | refine blk_alloc ?_ _)); exact BK338.out⟩, ⟨by repeat (first | (with_reducible first | exact HB.out | apply below_alloc | apply pw_below_drewN | apply below_drew1 | refine below_set ?_ GE338.out) | exact HB.out)⟩⟩
          ·rw [if_neg c21] at H
           exact absurd H (by simp)
         ·rw [if_neg c20] at H
          exact absurd H (by simp)
        ·rw [if_neg c18] at H
         have c18b0 : decide (0 < (x5_2.size : Int)) = false := decide_eq_false c18
         have c18b1 : decide (0 < x5_2.size) = false := decide_eq_false (by omega)
         clear c18
         (first | rw [c18b0] | (simp only [i64_w, i32_w]; rw [c18b0]) | skip)
         have H' := Aside0.mk H
         clear H
         go_wp2
         go_meet
         case rel => exact ⟨_, (x5_2), (by first | rfl | (simp; done) | (simp [*]; done)), H', ⟨by have := HJ1.out; have := HK2.out; first | omega | exact Nat.le_refl _⟩, ⟨by (with_reducible repeat (first | refine blk_drewN ?_ _ | refine blk_drew ?_ | refine blk_alloc ?_ _)); exact BK338.out⟩, ⟨by repeat (first | (with_reducible first | exact HB.out | apply below_alloc | apply pw_below_drewN | apply below_drew1 | refine below_set ?_ GE338.out) | exact HB.out)⟩⟩
     case rest =>
      clear HC14
      try clear c1
      try clear c2
      try clear p2
      try clear q2
      try clear hx2
      try clear c4
      try clear p6
      try clear c9
      try clear c13
      try clear c13b0
      try clear c13b1
      try clear c15
      try clear c18
      try clear c18b0
      try clear c18b1
      try clear c20
      try clear c20b0
      try clear c21
      try clear c21b0
      try clear c22
      try clear p22
      try clear q22
      try clear hx22
      try clear c23
      try clear c23b0
      try clear c23b1
      try clear c24
      try clear c24b0
      try clear c25
      try clear c25b0
      try clear c25b1
      try clear hcz15_0
      try clear hcz15_1
      try clear hcz5_0
      try clear hcz5_1
      try clear hcz7_0
      try clear hcz7_1
      try clear hfz15_0
      try clear hfz15_1
      try clear hfz5_0
      try clear hfz5_1
      try clear hfz7_0
      try clear hfz7_1
      try clear p2
      try clear p22
      try clear q22
      obtain ⟨kq, x5_13, rfl, HA, HJ13, BK338, HB⟩ := hcut
      cases kq with
      | zero => exact absurd HA.out (by simp [spillwayref2_Print.j2])
      | succ kj13 =>
       have H := HA.out
       clear HA
       simp only [spillwayref2_Print.j2] at H
       by_cases c26 : x5_13.toList = ([] : List UInt8)
       ·rw [if_pos c26] at H
        have c26b0 : (x5_13.toList == ([] : List UInt8)) = true := beq_iff_eq.mpr c26
        have c26b1 : (x5_13.toList != ([] : List UInt8)) = false := bne_eq_false_iff_eq.mpr c26
        clear c26
        by_cases c27 : a0_1 < 0
        ·rw [if_pos c27] at H
         have c27b0 : decide (a0_1 < 0) = true := decide_eq_true c27
         clear c27
         by_cases c28 : 1 + t341.size ≤ 9223372036854775807
         ·rw [if_pos c28] at H
          have c28b0 := eq_true c28
          have c28b1 : decide (1 + t341.size ≤ 9223372036854775807) = true := decide_eq_true c28
          try have c28b2 : (9223372036854775807 < 1 + t341.size) = False := eq_false (Nat.not_lt.2 c28)
          obtain rfl := Option.some.inj H
          have hcz29_0 : wc.cell? ⟨gb338, 0, none⟩ = some (.bool a0_0) := (blk_cell BK338.out 0).trans rfl
          have hcz29_1 : wc.cell? ⟨gb338, 1, none⟩ = some (.int .i64 a0_1) := (blk_cell BK338.out 1).trans rfl
          have hfz29_0 := blk_frozen BK338.out 0
          have hfz29_1 := blk_frozen BK338.out 1
          go_wp2
          go_ret
          exact ⟨by first | rfl | (simp [errW_none, errW_some] <;> rfl) | (simp [*, errW_none, errW_some] <;> rfl), by repeat (first | (with_reducible first | exact HB.out | apply below_alloc | apply pw_below_drewN | apply below_drew1 | refine below_set ?_ GE338.out) | exact HB.out)⟩
         ·rw [if_neg c28] at H
          exact absurd H (by simp)
        ·rw [if_neg c27] at H
         have c27b0 : decide (a0_1 < 0) = false := decide_eq_false c27
         clear c27
         obtain rfl := Option.some.inj H
         have hcz30_0 : wc.cell? ⟨gb338, 0, none⟩ = some (.bool a0_0) := (blk_cell BK338.out 0).trans rfl
         have hcz30_1 : wc.cell? ⟨gb338, 1, none⟩ = some (.int .i64 a0_1) := (blk_cell BK338.out 1).trans rfl
         have hfz30_0 := blk_frozen BK338.out 0
         have hfz30_1 := blk_frozen BK338.out 1
         go_wp2
         go_ret
         exact ⟨by first | rfl | (simp [errW_none, errW_some] <;> rfl) | (simp [*, errW_none, errW_some] <;> rfl), by repeat (first | (with_reducible first | exact HB.out | apply below_alloc | apply pw_below_drewN | apply below_drew1 | refine below_set ?_ GE338.out) | exact HB.out)⟩
       ·rw [if_neg c26] at H
        have c26b0 : (x5_13.toList == ([] : List UInt8)) = false := beq_eq_false_iff_ne.mpr c26
        have c26b1 : (x5_13.toList != ([] : List UInt8)) = true := bne_iff_ne.mpr c26
        by_cases c31 : t341.size + 1 ≤ 9223372036854775807
        ·rw [if_pos c31] at H
         have c31b0 := eq_true c31
         have c31b1 : decide (t341.size + 1 ≤ 9223372036854775807) = true := decide_eq_true c31
         try have c31b2 : (9223372036854775807 < t341.size + 1) = False := eq_false (Nat.not_lt.2 c31)
         by_cases c32 : (t341 ++ (⟨#[46]⟩ : ByteArray)).size + x5_13.size ≤ 9223372036854775807
         ·rw [if_pos c32] at H
          have c32b0 := eq_true c32
          have c32b1 : decide ((t341 ++ (⟨#[46]⟩ : ByteArray)).size + x5_13.size ≤ 9223372036854775807) = true := decide_eq_true c32
          try have c32b2 : (9223372036854775807 < (t341 ++ (⟨#[46]⟩ : ByteArray)).size + x5_13.size) = False := eq_false (Nat.not_lt.2 c32)
          try (have c32b3 := c32; simp only [ByteArray.size_append, sz_one] at c32b3; have c32b4 := eq_false (Nat.not_lt.2 c32b3); clear c32b3)
          by_cases c33 : a0_1 < 0
          ·rw [if_pos c33] at H
           have c33b0 : decide (a0_1 < 0) = true := decide_eq_true c33
           clear c33
           by_cases c34 : 1 + ((t341 ++ (⟨#[46]⟩ : ByteArray)) ++ x5_13).size ≤ 9223372036854775807
           ·rw [if_pos c34] at H
            have c34b0 := eq_true c34
            have c34b1 : decide (1 + ((t341 ++ (⟨#[46]⟩ : ByteArray)) ++ x5_13).size ≤ 9223372036854775807) = true := decide_eq_true c34
            try have c34b2 : (9223372036854775807 < 1 + ((t341 ++ (⟨#[46]⟩ : ByteArray)) ++ x5_13).size) = False := eq_false (Nat.not_lt.2 c34)
            try (have c34b3 := c34; simp only [ByteArray.size_append, sz_one] at c34b3; have c34b4 := eq_false (Nat.not_lt.2 c34b3); clear c34b3)
            obtain rfl := Option.some.inj H
            have hcz35_0 : wc.cell? ⟨gb338, 0, none⟩ = some (.bool a0_0) := (blk_cell BK338.out 0).trans rfl
            have hcz35_1 : wc.cell? ⟨gb338, 1, none⟩ = some (.int .i64 a0_1) := (blk_cell BK338.out 1).trans rfl
            have hfz35_0 := blk_frozen BK338.out 0
            have hfz35_1 := blk_frozen BK338.out 1
            go_wp2
            go_ret
            exact ⟨by first | rfl | (simp [errW_none, errW_some] <;> rfl) | (simp [*, errW_none, errW_some] <;> rfl), by repeat (first | (with_reducible first | exact HB.out | apply below_alloc | apply pw_below_drewN | apply below_drew1 | refine below_set ?_ GE338.out) | exact HB.out)⟩
           ·rw [if_neg c34] at H
            exact absurd H (by simp)
          ·rw [if_neg c33] at H
           have c33b0 : decide (a0_1 < 0) = false := decide_eq_false c33
           clear c33
           obtain rfl := Option.some.inj H
           have hcz36_0 : wc.cell? ⟨gb338, 0, none⟩ = some (.bool a0_0) := (blk_cell BK338.out 0).trans rfl
           have hcz36_1 : wc.cell? ⟨gb338, 1, none⟩ = some (.int .i64 a0_1) := (blk_cell BK338.out 1).trans rfl
           have hfz36_0 := blk_frozen BK338.out 0
           have hfz36_1 := blk_frozen BK338.out 1
           go_wp2
           go_ret
           exact ⟨by first | rfl | (simp [errW_none, errW_some] <;> rfl) | (simp [*, errW_none, errW_some] <;> rfl), by repeat (first | (with_reducible first | exact HB.out | apply below_alloc | apply pw_below_drewN | apply below_drew1 | refine below_set ?_ GE338.out) | exact HB.out)⟩
         ·rw [if_neg c32] at H
          exact absurd H (by simp)
        ·rw [if_neg c31] at H
         exact absurd H (by simp)
    ·rw [if_neg c13] at H
     exact absurd H (by simp)

end Go.Proofs.YtnjobjogddjelaaGreatDoor.Print
end

section
namespace Go.Proofs.YtnjobjogddjelaaGreatDoor.PureN
open Go.RowKit Go.Proofs.YtnjobjogddjelaaGreatDoor.Print Go.Proofs.YtnjobjogddjelaaGreatDoor.Pure Go.Proofs.YtnjobjogddjelaaGreatDoorW.PrintWords Go.Proofs.YtnjobjogddjelaaGreatDoorW.PrintLast Go.Proofs.YtnjobjogddjelaaGreatDoorW.PrintMore

/-! The document's numbers come to the same. -/
theorem str_one (d : Nat) (h : d < 10) : strOfNums [(IntKind.u64.wrap (48 + (d : Int))) % 256] = ⟨[UInt8.ofNat (48 + d)].toArray⟩ := by
 unfold strOfNums
 have : (IntKind.u64.wrap (48 + (d : Int)) % 256).toNat = 48 + d := by
  rw [IntKind.wrap_u64]
  omega
 rw [List.map_cons, List.map_nil, this]
theorem digits_dec : ∀ (k n : Nat) (acc : List UInt8), 1 ≤ k → n < 10 ^ k → n < 18446744073709551616 → acc.length + k ≤ 1000 → spillwayref2_Digits.l0 k (n : Int) ⟨acc.toArray⟩ = some ⟨(Lib.decDigits n ++ acc).toArray⟩
 | 0, _, _, h, _, _, _ => absurd h (by omega)
 | k + 1, n, acc, _, hn, h64, hl => by
  simp only [spillwayref2_Digits.l0]
  have e1 : Int.tmod (n : Int) 10 = ((n % 10 : Nat) : Int) := by rw [Int.tmod_eq_emod_of_nonneg (by omega)]; omega
  have e2 : IntKind.u64.wrap (Int.tdiv (n : Int) 10) = ((n / 10 : Nat) : Int) := by rw [Int.tdiv_eq_ediv_of_nonneg (by omega), IntKind.wrap_u64]; omega
  rw [e1, e2, Option.bind_some, str_one _ (by omega), app_list, size_list, size_list, if_pos (by rw [List.length_singleton]; omega)]
  rw [Lib.decDigits]
  by_cases c : n < 10
  ·rw [if_pos (by omega), dif_pos c, show n % 10 = n by omega]
  ·rw [if_neg (by omega), dif_neg c]
   have hk : 1 ≤ k := by
    rcases Nat.eq_zero_or_pos k with rfl | h'
    ·simp at hn
     omega
    ·exact h'
   rw [Nat.pow_succ] at hn
   rw [digits_dec k (n / 10) _ hk (by omega) (by omega) (by simp; omega), List.append_assoc]
theorem rDigits_eq (k n : Nat) (hk : 25 < k) (hk2 : k ≤ 900) (h : n < 18446744073709551616) : spillwayref2_Digits.f k (n : Int) = some ⟨(Lib.decDigits n).toArray⟩ := by
 unfold spillwayref2_Digits.f
 have hp : 10 ^ 20 ≤ 10 ^ k := Nat.pow_le_pow_right (by omega) (by omega)
 have := digits_dec k n [] (by omega) (by omega) h (by simp; omega)
 rw [List.append_nil] at this
 exact this
end Go.Proofs.YtnjobjogddjelaaGreatDoor.PureN
end

section
namespace Go.Proofs.YtnjobjogddjelaaGreatDoor.PureN
open Go.RowKit Go.Proofs.YtnjobjogddjelaaGreatDoor.Print Go.Proofs.YtnjobjogddjelaaGreatDoor.Pure Go.Proofs.YtnjobjogddjelaaGreatDoorW.PrintWords Go.Proofs.YtnjobjogddjelaaGreatDoorW.PrintLast Go.Proofs.YtnjobjogddjelaaGreatDoorW.PrintMore

/-! LexBuilt. -/
theorem value_l0 (l : List UInt8) (hl : l.length ≤ 700) : ∀ (d k i : Nat), i + d = l.length → d < k → spillwayref3_Value.l0 k ⟨l.toArray⟩ (i : Int) = some (if (10 : UInt8) ∈ l.drop i then false else decide ((l.length : Int) ≤ 30))
 | 0, k, i, h, hk => by
  obtain ⟨k, rfl⟩ : ∃ m, k = m + 1 := ⟨k - 1, by omega⟩
  rw [spillwayref3_Value.l0, size_list, if_neg (by omega), List.drop_eq_nil_of_le (by omega)]
  simp
 | d + 1, k, i, h, hk => by
  obtain ⟨k, rfl⟩ : ∃ m, k = m + 1 := ⟨k - 1, by omega⟩
  have hi : i < l.length := by omega
  have ih := value_l0 l hl d k (i + 1) (by omega) (by omega)
  rw [spillwayref3_Value.l0, size_list, if_pos (by omega), if_pos (by omega), bt_list l i hi, drop_cons l i hi, w1 i (by omega), ih]
  generalize l[i] = c
  by_cases hc : c = 10
  ·rw [if_pos (show (c.toNat : Int) = 10 from eq_int c 10 (by omega) hc), if_pos (by rw [hc]; simp)]
  ·rw [if_neg (show ¬ (c.toNat : Int) = 10 from ne_int c 10 (by omega) hc)]
   have : (10 : UInt8) ∈ c :: l.drop (i + 1) ↔ (10 : UInt8) ∈ l.drop (i + 1) := by
    rw [List.mem_cons]
    exact ⟨fun h => h.elim (fun e => absurd e.symm hc) id, Or.inr⟩
   simp only [this]
theorem value_eq (l : List UInt8) (k : Nat) (hl : l.length ≤ 700) (hk : 700 < k) : spillwayref3_Value.f k ⟨l.toArray⟩ = some (if (10 : UInt8) ∈ l then false else decide ((l.length : Int) ≤ 30)) := by
 have := value_l0 l hl l.length k 0 (by omega) (by omega)
 rw [List.drop_zero] at this
 exact this
theorem scan_is (l : List UInt8) (k : Nat) (hk : 3000 < k) (hl : l.length ≤ 600) (x : Except Nat (List Tok)) (hx : scanS 0 l = x) : lex_Scan.f k ⟨l.toArray⟩ = some (scanO [] x) := by
 rw [lexscan_eq l k hk]
 unfold scanW
 rw [if_neg (by omega), hx]
/-- A scan that is one sign, or nothing. -/
theorem sc_of (l : List UInt8) (k : Nat) (hk : 3000 < k) (hl : l.length ≤ 600) (ok : Prop) [Decidable ok] (t u : Tok) (hx : scanS 0 l = if ok then .ok [t, u] else .error 0) :
  Sc k ⟨l.toArray⟩ ok (if ok then [toS t, toS u] else []) 0 (if ok then 0 else 70) := by
 by_cases h : ok
 ·rw [if_pos h] at hx
  rw [if_pos h, if_pos h]
  exact ⟨scan_is l k hk hl _ hx, fun _ => ⟨rfl, by simp⟩, fun hn => absurd h hn⟩
 ·rw [if_neg h] at hx
  rw [if_neg h, if_neg h]
  exact ⟨scan_is l k hk hl _ hx, fun hy => absurd hy h, fun _ => rfl⟩
theorem quoteB_len : ∀ v : List UInt8, (quoteB v).length ≤ 2 * v.length
 | [] => by simp [quoteB]
 | c :: v => by
  have := quoteB_len v
  rw [quoteB, List.length_append, List.length_cons]
  split <;> simp <;> omega
theorem rdig_at (n : Nat) (h : n < 18446744073709551616) : spillwayref2_Digits.f 5000 (n : Int) = some ⟨(Lib.decDigits n).toArray⟩ := by
 have := up_k (f := fun k => spillwayref2_Digits.f k (n : Int)) (fun k => spillwayref2_Digits.mono (n : Int) k) (rDigits_eq 100 n (by omega) (by omega) h) 4900
 exact this
theorem ext_oneB (l : List UInt8) (i : Nat) (h : i < l.length) : (⟨l.toArray⟩ : ByteArray).extract i (i + 1) = ⟨[l[i]].toArray⟩ := by
 apply ByteArray.ext
 apply Array.ext'
 rw [ByteArray.data_extract, Array.toList_extract]
 show (l.drop i).take (i + 1 - i) = [l[i]]
 rw [drop_cons l i h, show i + 1 - i = 1 by omega]
 rfl
theorem rquoteB_l0 (l : List UInt8) (hl : l.length ≤ 700) : ∀ (d k i : Nat) (acc : List UInt8), i + d = l.length → d < k → acc.length ≤ 2 * i + 1 →
  spillwayref3_Quote.l0 k ⟨l.toArray⟩ ⟨acc.toArray⟩ (i : Int) = some ⟨(acc ++ (quoteB (l.drop i) ++ [34])).toArray⟩
 | 0, k, i, acc, h, hk, ha => by
  obtain ⟨k, rfl⟩ : ∃ m, k = m + 1 := ⟨k - 1, by omega⟩
  rw [spillwayref3_Quote.l0, size_list, if_neg (by omega), size_list, if_pos (by omega), List.drop_eq_nil_of_le (by omega), show (⟨#[34]⟩ : ByteArray) = ⟨[34].toArray⟩ from rfl, app_list]
  rfl
 | d + 1, k, i, acc, h, hk, ha => by
  obtain ⟨k, rfl⟩ : ∃ m, k = m + 1 := ⟨k - 1, by omega⟩
  have hi : i < l.length := by omega
  rw [spillwayref3_Quote.l0, size_list, if_pos (by omega), if_pos (by omega), bt_list l i hi, w1 i (by omega), Int.toNat_natCast, Int.toNat_natCast, ext_oneB l i hi, drop_cons l i hi, quoteB]
  generalize l[i] = c
  rw [show (⟨#[92]⟩ : ByteArray) = ⟨[92].toArray⟩ from rfl, app_list, app_list, app_list, size_list, size_list, size_list]
  have hesc := rquoteB_l0 l hl d k (i + 1) ((acc ++ [92]) ++ [c]) (by omega) (by omega) (by simp only [List.length_append, List.length_singleton]; omega)
  have hord := rquoteB_l0 l hl d k (i + 1) (acc ++ [c]) (by omega) (by omega) (by simp only [List.length_append, List.length_singleton]; omega)
  have b1 : acc.length + 1 ≤ 9223372036854775807 := by omega
  have b2 : (i : Int) ≤ ((i + 1 : Nat) : Int) := by omega
  have b3 : ((i + 1 : Nat) : Int) ≤ (l.length : Int) := by omega
  have b4 : (acc ++ [92]).length + [c].length ≤ 9223372036854775807 := by simp only [List.length_append, List.length_singleton]; omega
  have b5 : acc.length + [c].length ≤ 9223372036854775807 := by simp only [List.length_singleton]; omega
  by_cases c34 : c = 34
  ·rw [if_pos (show (c.toNat : Int) = 34 from eq_int c 34 (by omega) c34), if_pos b1, if_pos b2, if_pos b3, if_pos b4, hesc, if_pos (Or.inl c34)]
   simp
  ·rw [if_neg (show ¬ (c.toNat : Int) = 34 from ne_int c 34 (by omega) c34)]
   by_cases c92 : c = 92
   ·rw [if_pos (show (c.toNat : Int) = 92 from eq_int c 92 (by omega) c92), if_pos b1, if_pos b2, if_pos b3, if_pos b4, hesc, if_pos (Or.inr c92)]
    simp
   ·rw [if_neg (show ¬ (c.toNat : Int) = 92 from ne_int c 92 (by omega) c92), if_pos b2, if_pos b3, if_pos b5, hord, if_neg (fun h => h.elim c34 c92)]
    simp
theorem rquoteB_eq (l : List UInt8) (k : Nat) (hl : l.length ≤ 700) (hk : 700 < k) : spillwayref3_Quote.f k ⟨l.toArray⟩ = some ⟨(quote l).toArray⟩ := by
 have := rquoteB_l0 l hl l.length k 0 [34] (by omega) (by omega) (by simp)
 exact this
theorem LexBuilt (n d z : Int) (t : ByteArray) (w : World) (hg_ : LaidW w) (hn : 0 ≤ n ∧ n ≤ 4294967295) (hd : 0 ≤ d ∧ d ≤ 65535) (hz : 0 ≤ z ∧ z ≤ 255) :
  Calls Tryz.prog 6 #[.int .u32 n, .int .u16 d, .string t, .int .u8 z] w fun e w' => e = .returned (.bool true) ∧ Below w.heap.size w w' := by
 obtain ⟨⟨l⟩⟩ := t
 by_cases h60 : 60 < l.length
 ·exact built_long n d z ⟨⟨l⟩⟩ w hg_ h60
 ·have hsz : (⟨l.toArray⟩ : ByteArray).size = l.length := rfl
  -- the four scans
  have ht0 : 0 ≤ Int.tmod z 30 := Int.tmod_nonneg _ hz.1
  have ht1 : Int.tmod z 30 < 30 := Int.tmod_lt_of_pos _ (by omega)
  have hD0 : 0 ≤ Int.tmod d 200 := Int.tmod_nonneg _ hd.1
  have hD1 : Int.tmod d 200 < 200 := Int.tmod_lt_of_pos _ (by omega)
  obtain ⟨N, rfl⟩ : ∃ N : Nat, n = N := ⟨n.toNat, by omega⟩
  obtain ⟨D, hD⟩ : ∃ D : Nat, Int.tmod d 200 = D := ⟨(Int.tmod d 200).toNat, by omega⟩
  obtain ⟨K, hK⟩ : ∃ K : Nat, Int.tmod z 30 = K := ⟨(Int.tmod z 30).toNat, by omega⟩
  have lN := dec_len N 10 (by omega) (by omega)
  have lD := dec_len D 3 (by omega) (by omega)
  have x1 := sc_of (Lib.decDigits N) 5000 (by omega) (by omega) True ⟨2, 0, [], (N : Int) * 1000000, 0⟩ (endT (Lib.decDigits N).length) (by rw [if_pos trivial]; exact built_num N (by omega))
  have x2 := sc_of (Lib.decDigits D ++ [116]) 5000 (by omega) (by rw [List.length_append, List.length_singleton]; omega) (1 ≤ D ∧ D ≤ 100) _ _ (built_dur D)
  have x4 := sc_of (List.replicate (K + 1) 97) 5000 (by omega) (by rw [List.length_replicate]; omega) (K + 1 ≤ 20) _ _ (built_name K)
  have hq := quoteB_len l
  have hdp : (1 ≤ Int.tmod d 200 ∧ Int.tmod d 200 ≤ 100) = (1 ≤ D ∧ D ≤ 100) := by rw [hD]; exact propext ⟨fun h => by omega, fun h => by omega⟩
  have hzp : (Int.tmod z 30 + 1 ≤ 20) = (K + 1 ≤ 20) := by rw [hK]; exact propext ⟨fun h => by omega, fun h => by omega⟩
  have hs4 : (⟨(List.replicate (Int.tmod z 30 + 1).toNat 97).toArray⟩ : ByteArray) = ⟨(List.replicate (K + 1) 97).toArray⟩ := by
   rw [hK, show ((K : Int) + 1).toNat = K + 1 by omega]
  by_cases h30 : l.length ≤ 30
  ·have hv := value_eq l 5000 (by omega) (by omega)
   by_cases h10 : (10 : UInt8) ∈ l
   ·rw [if_pos h10] at hv
    exact built_A 5000 _ d z ⟨⟨l⟩⟩ w hg_ h30 hv
   ·rw [if_neg h10, decide_eq_true (by omega)] at hv
    have x3 := sc_of (quote l) 5000 (by omega) (by unfold quote; simp only [List.length_cons, List.length_append, List.length_nil]; omega) (l.length ≤ 30) _ _ (built_text l h10)
    refine built_mainA 5000 _ d z ⟨l.toArray⟩ w hg_ h30 hv hn hd hz ⟨(Lib.decDigits N).toArray⟩ ⟨(Lib.decDigits D).toArray⟩ ⟨(quote l).toArray⟩ ⟨(List.replicate (K + 1) 97).toArray⟩ _ _ _ _ 0 0 0 0 _ _ _ hs4.symm (rdig_at N (by omega)) (by rw [hD]; exact rdig_at D (by omega)) (rquoteB_eq l 5000 (by omega) (by omega)) (by rw [size_list]; omega) x1 (by rw [hdp]; exact x2) x3 (by rw [hzp]; exact x4) ?_ ?_ ?_ ?_
    ·rw [if_pos trivial]
     rfl
    ·rw [hdp]
     intro h
     rw [if_pos h, hD]
     rfl
    ·intro h
     rw [if_pos h30]
     exact ⟨rfl, rfl⟩
    ·rw [hzp]
     intro h
     rw [if_pos h]
     rfl
  ·have e0 : (⟨l.toArray⟩ : ByteArray).extract 0 30 = ⟨(l.take 30).toArray⟩ := ext_take l 30
   have e1 : (⟨l.toArray⟩ : ByteArray).extract 30 l.length = ⟨(l.drop 30).toArray⟩ := extract_list l 30
   have hv := value_eq (l.take 30) 5000 (by rw [List.length_take]; omega) (by omega)
   have hv2 := value_eq (l.drop 30) 5000 (by rw [List.length_drop]; omega) (by omega)
   by_cases h10 : (10 : UInt8) ∈ l.take 30
   ·rw [if_pos h10] at hv
    exact built_B 5000 _ d z ⟨l.toArray⟩ w hg_ (by rw [size_list]; omega) (by rw [size_list]; omega) (by rw [e0]; exact hv)
   ·rw [if_neg h10, decide_eq_true (by rw [List.length_take]; omega)] at hv
    by_cases h11 : (10 : UInt8) ∈ l.drop 30
    ·rw [if_pos h11] at hv2
     exact built_C 5000 _ d z ⟨l.toArray⟩ w hg_ (by rw [size_list]; omega) (by rw [size_list]; omega) (by rw [e0]; exact hv) (by rw [size_list, e1]; exact hv2)
    ·rw [if_neg h11, decide_eq_true (by rw [List.length_drop]; omega)] at hv2
     have hno : (10 : UInt8) ∉ l := by
      rw [← List.take_append_drop 30 l, List.mem_append]
      exact fun h => h.elim h10 h11
     have x3 := sc_of (quote l) 5000 (by omega) (by unfold quote; simp only [List.length_cons, List.length_append, List.length_nil]; omega) (l.length ≤ 30) _ _ (built_text l hno)
     refine built_mainB 5000 _ d z ⟨l.toArray⟩ w hg_ (by rw [size_list]; omega) (by rw [size_list]; omega) (by rw [e0]; exact hv) (by rw [size_list, e1]; exact hv2) hn hd hz ⟨(Lib.decDigits N).toArray⟩ ⟨(Lib.decDigits D).toArray⟩ ⟨(quote l).toArray⟩ ⟨(List.replicate (K + 1) 97).toArray⟩ _ _ _ _ 0 0 0 0 _ _ _ hs4.symm (rdig_at N (by omega)) (by rw [hD]; exact rdig_at D (by omega)) (rquoteB_eq l 5000 (by omega) (by omega)) (by rw [size_list]; omega) x1 (by rw [hdp]; exact x2) x3 (by rw [hzp]; exact x4) ?_ ?_ ?_ ?_
     ·rw [if_pos trivial]
      rfl
     ·rw [hdp]
      intro h
      rw [if_pos h, hD]
      rfl
     ·intro h
      exact absurd h (by rw [size_list]; exact h30)
     ·rw [hzp]
      intro h
      rw [if_pos h]
      rfl
end Go.Proofs.YtnjobjogddjelaaGreatDoor.PureN
end
