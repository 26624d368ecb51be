import Derived.Test.YtgjpaldbagkahaaPureA
namespace Go.Proofs.Ytgjpaldbagkahaa.Pure
open Go.RowKit Go.Proofs.Ytgjpaldbagkahaa.Print Go.Proofs.YtgjpaldbagkahaaW.PrintWords Go.Proofs.YtgjpaldbagkahaaW.PrintLast Go.Proofs.YtgjpaldbagkahaaW.PrintMore
set_option linter.unusedVariables false
set_option linter.unusedSimpArgs false

theorem rd_L1_at (ls : List (List Int)) (i : Nat) : rd_L1 ls i = ls.getD i [] := by unfold rd_L1; rw [Int.toNat_natCast]
theorem take_snocL (ls : List (List Int)) (i : Nat) (h : i < ls.length) : ls.take (i + 1) = ls.take i ++ [ls.getD i []] := by
  rw [List.take_succ_eq_append_getElem h, List.getD_eq_getElem?_getD, List.getElem?_eq_getElem h]
  rfl
theorem flat_take_succ (ls : List (List Int)) (i : Nat) (h : i < ls.length) : (ls.take (i + 1)).flatten = (ls.take i).flatten ++ ls.getD i [] := by
  rw [take_snocL ls i h, List.flatten_append]
  simp
theorem flat_take_le (ls : List (List Int)) (i : Nat) : (ls.take i).flatten.length ≤ ls.flatten.length := by
  conv => rhs; rw [← List.take_append_drop i ls, List.flatten_append, List.length_append]
  omega

theorem concat_l1 (ls : List (List Int)) (hl : ls.length ≤ 9223372036854775807) (hf : ls.flatten.length < 140737488355328) (d : Nat) : ∀ (k i : Nat), i + d = ls.length → d < k →
    slices_Concat_byte_byte.l1 k (ls.take i).flatten ls (ls.length : Int) i = some ls.flatten := by
  induction d with
  | zero =>
    intro k i hi hk
    obtain ⟨k, rfl⟩ : ∃ m, k = m + 1 := ⟨k - 1, by omega⟩
    obtain rfl : i = ls.length := by omega
    simp only [slices_Concat_byte_byte.l1]
    rw [if_neg (by omega), List.take_of_length_le (by omega)]
  | succ d ih =>
    intro k i hi hk
    obtain ⟨k, rfl⟩ : ∃ m, k = m + 1 := ⟨k - 1, by omega⟩
    simp only [slices_Concat_byte_byte.l1]
    have e2 : wrap64 ((i : Int) + 1) = ((i + 1 : Nat) : Int) := by rw [wrap_id (by omega) (by omega)]; omega
    have hs := flat_take_succ ls i (by omega)
    have hlen := flat_take_le ls (i + 1)
    rw [hs, List.length_append] at hlen
    rw [if_pos (by omega), if_pos (by omega), if_pos (by omega), rd_L1_at, if_pos (by omega), e2, ← hs]
    exact ih k (i + 1) (by omega) (by omega)

theorem concat_l0 (ls : List (List Int)) (hl : ls.length ≤ 9223372036854775807) (hf : ls.flatten.length < 140737488355328) (d : Nat) : ∀ (k i : Nat), i + d = ls.length → d + ls.length + 1 < k →
    slices_Concat_byte_byte.l0 k ls ((ls.take i).flatten.length : Int) ls (ls.length : Int) i = some ls.flatten := by
  induction d with
  | zero =>
    intro k i hi hk
    obtain ⟨k, rfl⟩ : ∃ m, k = m + 1 := ⟨k - 1, by omega⟩
    obtain rfl : i = ls.length := by omega
    simp only [slices_Concat_byte_byte.l0]
    rw [if_neg (by omega), List.take_of_length_le (by omega)]
    unfold slices_Grow_byte_byte.f
    rw [if_pos ⟨by omega, by omega⟩, Option.bind_some]
    have h := concat_l1 ls hl hf ls.length k 0 (by omega) (by omega)
    simpa using h
  | succ d ih =>
    intro k i hi hk
    obtain ⟨k, rfl⟩ : ∃ m, k = m + 1 := ⟨k - 1, by omega⟩
    simp only [slices_Concat_byte_byte.l0]
    have e2 : wrap64 ((i : Int) + 1) = ((i + 1 : Nat) : Int) := by rw [wrap_id (by omega) (by omega)]; omega
    have hs := congrArg List.length (flat_take_succ ls i (by omega))
    rw [List.length_append] at hs
    have hlen := flat_take_le ls (i + 1)
    have e3 : wrap64 (((ls.take i).flatten.length : Int) + ((rd_L1 ls i).length : Int)) = ((ls.take (i + 1)).flatten.length : Int) := by
      rw [rd_L1_at, wrap_id (by omega) (by omega)]; omega
    rw [if_pos (by omega), if_pos (by omega), if_pos (by omega), e3, if_neg (by omega), e2]
    exact ih k (i + 1) (by omega) (by omega)

theorem join_eq (k : Nat) (ls : List (List Int)) (hl : ls.length ≤ 9223372036854775807) (hk : 2 * ls.length + 2 ≤ k) (hf : ls.flatten.length < 140737488355328) : bits_Join.f k ls = some ls.flatten := by
  unfold bits_Join.f slices_Concat_byte_byte.f
  have h := concat_l0 ls hl hf ls.length k 0 (by omega) (by omega)
  have h' : slices_Concat_byte_byte.l0 k ls 0 ls (ls.length : Int) 0 = some ls.flatten := by simpa using h
  rw [h', Option.bind_some]

theorem bytesOf_bytes (s : ByteArray) : Bytes (bytesOf s) := by
  intro x hx
  simp only [bytesOf, List.mem_map] at hx
  obtain ⟨b, _, rfl⟩ := hx
  have := b.toNat_lt
  omega
theorem str_bytes (s : ByteArray) : strOfNums (bytesOf s) = s := by
  unfold strOfNums bytesOf
  congr 1
  apply Array.ext'
  simp [List.map_map, Function.comp_def]

theorem cutTo_small (s : ByteArray) (h : s.size ≤ 65535) : cutTo s = s := by
  unfold cutTo
  rw [if_neg (by omega)]
  exact ByteArray.extract_zero_size

/-- A text of at most 65535 bytes, behind its length. -/
theorem text_eq (k : Nat) (l : List Int) (s : ByteArray) (hk : 9 ≤ k) (hl : l.length < 140737488000000) (hs : s.size ≤ 65535) :
    bits_Text.f k l s = some (l ++ putL s.size 2 ++ bytesOf s) := by
  unfold bits_Text.f
  rw [cutTo_small s hs]
  have e : IntKind.u64.wrap (s.size : Int) = (s.size : Int) := by rw [IntKind.wrap_u64]; omega
  have ew : wid 2 = 2 := by decide
  rw [e, put_eq k l _ 2 hk (by omega), ew, Option.bind_some, if_pos (by omega)]
  have h := join_eq k [l ++ putL s.size 2, bytesOf s] (by simp) (by simp; omega) (by simp [putL_length, bytesOf_length]; omega)
  rw [h]
  simp

/-- What GetText tells, of bytes. -/
theorem getText_short (k : Nat) (l : List Int) (m : Int) (h : l.length < 2) : bits_GetText.f k l m = some (⟨#[]⟩, l, 10) := by
  unfold bits_GetText.f
  rw [get_short k l 2 (by show l.length < 2; exact h), Option.bind_some]
  rw [if_neg (by show ¬ (10 : Int) = 0; omega)]
theorem getText_eq (k : Nat) (l : List Int) (m n : Int) (hk : 9 ≤ k) (hb : Bytes l) (h : 2 ≤ l.length) (hn : valL (l.take 2) = n) :
    bits_GetText.f k l m = if n > m then some (⟨#[]⟩, l, 11) else if n > (l.drop 2).length then some (⟨#[]⟩, l, 10) else some (strOfNums ((l.drop 2).take n.toNat), (l.drop 2).drop n.toNat, 0) := by
  unfold bits_GetText.f
  have ew : wid 2 = 2 := by decide
  rw [get_eq k l 2 hk hb (by rw [ew]; exact h), Option.bind_some, ew]
  dsimp only
  rw [hn]
  have hr := valL_range (l.take 2) (hb.take 2)
  rw [hn, List.length_take, Nat.min_eq_left h] at hr
  have hr2 : n < 65536 := hr.2
  have e : wrap64 n = n := wrap_id (by omega) (by omega)
  rw [if_pos rfl, e]
  by_cases h1 : n > m
  · rw [if_pos h1, if_pos h1]
  · rw [if_neg h1, if_neg h1]
    by_cases h2 : n > ((l.drop 2).length : Int)
    · rw [if_pos h2, if_pos h2]
    · rw [if_neg h2, if_neg h2, if_pos hr.1, if_pos (by omega)]

theorem empty_toList : (⟨#[]⟩ : ByteArray).toList = [] := by kernel_rfl
theorem wf_u64 {n : Int} (h : (Lit.int .u64 n).wf = true) : 0 ≤ n ∧ n < 18446744073709551616 := by
  simp only [Lit.wf, IntKind.min, IntKind.max, IntKind.signed, IntKind.bits, Bool.and_eq_true, decide_eq_true_eq] at h
  simp at h
  omega
theorem wf_u8 {n : Int} (h : (Lit.int .u8 n).wf = true) : 0 ≤ n ∧ n ≤ 255 := by
  simp only [Lit.wf, IntKind.min, IntKind.max, IntKind.signed, IntKind.bits, Bool.and_eq_true, decide_eq_true_eq] at h
  simp at h
  omega
end Go.Proofs.Ytgjpaldbagkahaa.Pure
