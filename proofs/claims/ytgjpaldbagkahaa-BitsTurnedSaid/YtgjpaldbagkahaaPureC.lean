import Derived.Test.YtgjpaldbagkahaaPureB
import Derived.Test.YtgjpaldbagkahaaPrint3
import Derived.Test.YtgjpaldbagkahaaPrint5
import Derived.Test.YtgjpaldbagkahaaPrint7
import Derived.Test.YtgjpaldbagkahaaPrint13
namespace Go.Proofs.Ytgjpaldbagkahaa.Pure
open Go.RowKit Go.Proofs.Ytgjpaldbagkahaa.Print Go.Proofs.YtgjpaldbagkahaaW.PrintWords Go.Proofs.YtgjpaldbagkahaaW.PrintLast Go.Proofs.YtgjpaldbagkahaaW.PrintMore
set_option linter.unusedVariables false
set_option linter.unusedSimpArgs false

/-! the sums -/
def bitStep (r : Int) : Int := if Go.bits .and .u32 r 1 = 1 then Go.bits .xor .u32 (r / 2) 3988292384 else r / 2
def bitSteps : Nat → Int → Int
  | 0, r => r
  | d + 1, r => bitSteps d (bitStep r)
def byteStep (r c : Int) : Int := bitSteps 8 (Go.bits .xor .u32 r (c % 4294967296))
def sumL (l : List Int) : Int := Go.bits .xor .u32 4294967295 (l.foldl byteStep 4294967295)

theorem sum_l1 (y : List Int) (n : Int) (j : Int) (d : Nat) : ∀ (k K : Nat) (r : Int) (i : Nat), i + d = 8 → K = k + d + 1 →
    bits_Sum.l1 K r y n j i = bits_Sum.l0 k (bitSteps d r) y n (wrap64 (j + 1)) := by
  induction d with
  | zero =>
    intro k K r i hi hK
    obtain rfl : K = k + 1 := hK
    simp only [bits_Sum.l1, bitSteps]
    rw [if_neg (by omega)]
  | succ d ih =>
    intro k K r i hi hK
    obtain ⟨m, rfl⟩ : ∃ m, K = m + 1 := ⟨K - 1, by omega⟩
    simp only [bits_Sum.l1, bitSteps]
    have e2 : wrap64 ((i : Int) + 1) = ((i + 1 : Nat) : Int) := by rw [wrap_id (by omega) (by omega)]; omega
    rw [if_pos (by omega), e2]
    unfold bitStep
    by_cases h : Go.bits .and .u32 r 1 = 1
    · rw [if_pos h, if_pos h]; exact ih k m _ (i + 1) (by omega) (by omega)
    · rw [if_neg h, if_neg h]; exact ih k m _ (i + 1) (by omega) (by omega)
theorem ref_sum_l1 (y : List Int) (j : Int) (d : Nat) : ∀ (k K : Nat) (r : Int) (i : Nat), i + d = 8 → K = k + d + 1 →
    spillwayref1_Sum.l1 K y r j i = spillwayref1_Sum.l0 k y (bitSteps d r) (wrap64 (j + 1)) := by
  induction d with
  | zero =>
    intro k K r i hi hK
    obtain rfl : K = k + 1 := hK
    simp only [spillwayref1_Sum.l1, bitSteps]
    rw [if_neg (by omega)]
  | succ d ih =>
    intro k K r i hi hK
    obtain ⟨m, rfl⟩ : ∃ m, K = m + 1 := ⟨K - 1, by omega⟩
    simp only [spillwayref1_Sum.l1, bitSteps]
    have e2 : wrap64 ((i : Int) + 1) = ((i + 1 : Nat) : Int) := by rw [wrap_id (by omega) (by omega)]; omega
    rw [if_pos (by omega), e2]
    unfold bitStep
    by_cases h : Go.bits .and .u32 r 1 = 1
    · rw [if_pos h, if_pos h]; exact ih k m _ (i + 1) (by omega) (by omega)
    · rw [if_neg h, if_neg h]; exact ih k m _ (i + 1) (by omega) (by omega)
theorem drop_getD (l : List Int) (i : Nat) (h : i < l.length) : l.drop i = l.getD i 0 :: l.drop (i + 1) := by
  rw [List.drop_eq_getElem_cons h, List.getD_eq_getElem?_getD, List.getElem?_eq_getElem h]
  rfl
theorem rd_nat (l : List Int) (i : Nat) : rd l i = l.getD i 0 := by unfold rd; rw [Int.toNat_natCast]
theorem sum_l0 (y : List Int) (hy : y.length ≤ 9223372036854775807) (d : Nat) : ∀ (K : Nat) (r : Int) (i : Nat), i + d = y.length → 10 * d + 1 ≤ K →
    bits_Sum.l0 K r y (y.length : Int) i = some (Go.bits .xor .u32 4294967295 ((y.drop i).foldl byteStep r)) := by
  induction d with
  | zero =>
    intro K r i hi hK
    obtain ⟨m, rfl⟩ : ∃ m, K = m + 1 := ⟨K - 1, by omega⟩
    simp only [bits_Sum.l0]
    rw [if_neg (by omega), List.drop_of_length_le (by omega)]
    rfl
  | succ d ih =>
    intro K r i hi hK
    obtain ⟨m, rfl⟩ : ∃ m, K = m + 1 := ⟨K - 1, by omega⟩
    simp only [bits_Sum.l0]
    have e2 : wrap64 ((i : Int) + 1) = ((i + 1 : Nat) : Int) := by rw [wrap_id (by omega) (by omega)]; omega
    rw [if_pos (by omega), if_pos (by omega), if_pos (by omega), rd_nat]
    have h := sum_l1 y (y.length : Int) i 8 (m - 9) m (Go.bits .xor .u32 r (y.getD i 0 % 4294967296)) 0 (by omega) (by omega)
    rw [show ((0 : Nat) : Int) = 0 from rfl] at h
    rw [h, e2, ih (m - 9) _ (i + 1) (by omega) (by omega), drop_getD y i (by omega), List.foldl_cons]
    rfl
theorem ref_sum_l0 (y : List Int) (hy : y.length ≤ 9223372036854775807) (d : Nat) : ∀ (K : Nat) (r : Int) (i : Nat), i + d = y.length → 10 * d + 1 ≤ K →
    spillwayref1_Sum.l0 K y r i = some (Go.bits .xor .u32 4294967295 ((y.drop i).foldl byteStep r)) := by
  induction d with
  | zero =>
    intro K r i hi hK
    obtain ⟨m, rfl⟩ : ∃ m, K = m + 1 := ⟨K - 1, by omega⟩
    simp only [spillwayref1_Sum.l0]
    rw [if_neg (by omega), List.drop_of_length_le (by omega)]
    rfl
  | succ d ih =>
    intro K r i hi hK
    obtain ⟨m, rfl⟩ : ∃ m, K = m + 1 := ⟨K - 1, by omega⟩
    simp only [spillwayref1_Sum.l0]
    have e2 : wrap64 ((i : Int) + 1) = ((i + 1 : Nat) : Int) := by rw [wrap_id (by omega) (by omega)]; omega
    rw [if_pos (by omega), if_pos (by omega), rd_nat]
    have h := ref_sum_l1 y i 8 (m - 9) m (Go.bits .xor .u32 r (y.getD i 0 % 4294967296)) 0 (by omega) (by omega)
    rw [show ((0 : Nat) : Int) = 0 from rfl] at h
    rw [h, e2, ih (m - 9) _ (i + 1) (by omega) (by omega), drop_getD y i (by omega), List.foldl_cons]
    rfl
theorem sum_eq (k : Nat) (l : List Int) (hl : l.length ≤ 9223372036854775807) (hk : 10 * l.length + 1 ≤ k) : bits_Sum.f k l = some (sumL l) := by
  unfold bits_Sum.f
  have h := sum_l0 l hl l.length k 4294967295 0 (by omega) hk
  simpa [sumL] using h
theorem ref_sum_eq (k : Nat) (l : List Int) (hl : l.length ≤ 9223372036854775807) (hk : 10 * l.length + 1 ≤ k) : spillwayref1_Sum.f k l = some (sumL l) := by
  unfold spillwayref1_Sum.f
  have h := ref_sum_l0 l hl l.length k 4294967295 0 (by omega) hk
  simpa [sumL] using h

/-! the reference's numbers -/
theorem ref_wid (b : Int) : mx 0 (mn b 8) = (wid b : Int) := by unfold wid mn mx; (repeat' split) <;> omega
theorem u64_8 (i : Nat) (h : i ≤ 8) : IntKind.u64.wrap (8 * IntKind.u64.wrap (i : Int)) = ((8 * i : Nat) : Int) := by rw [IntKind.wrap_u64, IntKind.wrap_u64]; omega
theorem ref_put_l0 (n : Int) (w : Nat) (hw : w ≤ 8) (l : List Int) (hl : l.length < 140737488355000) (d : Nat) : ∀ (k i : Nat), i + d = w → d < k →
    spillwayref1_Put.l0 k (l ++ putL n i) n w i = some (l ++ putL n w) := by
  induction d with
  | zero =>
    intro k i hi hk
    obtain ⟨k, rfl⟩ : ∃ m, k = m + 1 := ⟨k - 1, by omega⟩
    obtain rfl : i = w := by omega
    simp only [spillwayref1_Put.l0]
    rw [if_neg (by omega)]
  | succ d ih =>
    intro k i hi hk
    obtain ⟨k, rfl⟩ : ∃ m, k = m + 1 := ⟨k - 1, by omega⟩
    simp only [spillwayref1_Put.l0]
    have e2 : wrap64 ((i : Int) + 1) = ((i + 1 : Nat) : Int) := by rw [wrap_id (by omega) (by omega)]; omega
    have e3 : shr .u64 n ((8 * i : Nat) : Int) % 256 = nb n i := by
      unfold shr nb
      rw [Int.toNat_natCast, Nat.min_eq_left (by show 8 * i ≤ 64; omega)]
    rw [if_pos (by omega), u64_8 i (by omega), if_pos (by omega), if_pos (by simp [putL_length]; omega), e2, e3, List.append_assoc, ← putL_succ]
    exact ih k (i + 1) (by omega) (by omega)
theorem ref_put_eq (k : Nat) (l : List Int) (n b : Int) (hk : 9 ≤ k) (hl : l.length < 140737488355000) : spillwayref1_Put.f k l n b = some (l ++ putL n (wid b)) := by
  unfold spillwayref1_Put.f
  rw [ref_wid]
  have h := ref_put_l0 n (wid b) (wid_le b) l hl (wid b) k 0 (by omega) (by have := wid_le b; omega)
  simpa [putL] using h
theorem ref_get_l0 (l : List Int) (hy : Bytes l) (w : Nat) (hw : w ≤ 8) (hl : w ≤ l.length) (d : Nat) : ∀ (k i : Nat), i + d = w → d < k →
    spillwayref1_Get.l0 k l w (valL (l.take i)) i = some (valL (l.take w), l.drop w, true) := by
  induction d with
  | zero =>
    intro k i hi hk
    obtain ⟨k, rfl⟩ : ∃ m, k = m + 1 := ⟨k - 1, by omega⟩
    obtain rfl : i = w := by omega
    simp only [spillwayref1_Get.l0]
    rw [if_neg (by omega), if_pos (by omega), if_pos (by omega), Int.toNat_natCast]
  | succ d ih =>
    intro k i hi hk
    obtain ⟨k, rfl⟩ : ∃ m, k = m + 1 := ⟨k - 1, by omega⟩
    simp only [spillwayref1_Get.l0]
    have e2 : wrap64 ((i : Int) + 1) = ((i + 1 : Nat) : Int) := by rw [wrap_id (by omega) (by omega)]; omega
    have hc : 0 ≤ l.getD i 0 ∧ l.getD i 0 ≤ 255 := by
      rw [List.getD_eq_getElem?_getD, List.getElem?_eq_getElem (by omega), Option.getD_some]
      exact hy _ (List.getElem_mem _)
    have hr := valL_range (l.take i) (hy.take i)
    rw [List.length_take, Nat.min_eq_left (by omega)] at hr
    have hs := valL_snoc (l.take i) (l.getD i 0)
    rw [List.length_take, Nat.min_eq_left (by omega), ← take_snoc l i (by omega)] at hs
    rw [if_pos (by omega), if_pos (by omega), if_pos (by omega), u64_8 i (by omega), if_pos (by omega), e2, rd_nat, or_step _ _ i (by omega) hr.1 hr.2 hc.1 hc.2, ← hs]
    exact ih k (i + 1) (by omega) (by omega)
theorem ref_get_short (k : Nat) (l : List Int) (b : Int) (h : l.length < wid b) : spillwayref1_Get.f k l b = some (0, l, false) := by
  unfold spillwayref1_Get.f
  rw [ref_wid, if_pos (by omega)]
theorem ref_get_eq (k : Nat) (l : List Int) (b : Int) (hk : 9 ≤ k) (hb : Bytes l) (h : wid b ≤ l.length) : spillwayref1_Get.f k l b = some (valL (l.take (wid b)), l.drop (wid b), true) := by
  unfold spillwayref1_Get.f
  rw [ref_wid, if_neg (by omega)]
  have h2 := ref_get_l0 l hb (wid b) (wid_le b) h (wid b) k 0 (by omega) (by have := wid_le b; omega)
  simpa [valL] using h2
theorem ref_text_eq (k : Nat) (l : List Int) (s : ByteArray) (hk : 9 ≤ k) (hl : l.length < 140737488000000) (hs : s.size ≤ 65535) :
    spillwayref1_Text.f k l s = some (l ++ putL s.size 2 ++ bytesOf s) := by
  unfold spillwayref1_Text.f
  have e : IntKind.u64.wrap (s.size : Int) = (s.size : Int) := by rw [IntKind.wrap_u64]; omega
  have ew : wid 2 = 2 := by decide
  rw [if_neg (by omega), e, ref_put_eq k l _ 2 hk (by omega), ew, Option.bind_some, if_pos (by simp [putL_length]; omega)]
theorem ref_getText_short (k : Nat) (l : List Int) (m : Int) (h : l.length < 2) : spillwayref1_GetText.f k l m = some (⟨#[]⟩, l, 10) := by
  unfold spillwayref1_GetText.f
  rw [ref_get_short k l 2 (by show l.length < 2; exact h), Option.bind_some]
  rw [if_neg (by show ¬ (false = true); decide)]
theorem ref_getText_eq (k : Nat) (l : List Int) (m n : Int) (hk : 9 ≤ k) (hb : Bytes l) (h : 2 ≤ l.length) (hm : m < 9223372036854775808) (hl : l.length ≤ 9223372036854775807) (hn : valL (l.take 2) = n) :
    spillwayref1_GetText.f k l m = if n > m then some (⟨#[]⟩, l, 11) else if n > (l.drop 2).length then some (⟨#[]⟩, l, 10) else some (strOfNums ((l.drop 2).take n.toNat), (l.drop 2).drop n.toNat, 0) := by
  obtain ⟨k, rfl⟩ : ∃ m, k = m + 1 := ⟨k - 1, by omega⟩
  unfold spillwayref1_GetText.f
  have ew : wid 2 = 2 := by decide
  rw [ref_get_eq (k + 1) l 2 hk hb (by rw [ew]; exact h), Option.bind_some, ew]
  dsimp only
  rw [hn]
  have hr := valL_range (l.take 2) (hb.take 2)
  rw [hn, List.length_take, Nat.min_eq_left h] at hr
  have hr2 : n < 65536 := hr.2
  have hdl : (l.drop 2).length ≤ 9223372036854775807 := by rw [List.length_drop]; omega
  have e2 : IntKind.u64.wrap ((l.drop 2).length : Int) = ((l.drop 2).length : Int) := by rw [IntKind.wrap_u64]; omega
  rw [if_pos rfl]
  unfold spillwayref1_GetText.j0
  dsimp only
  by_cases h0 : m < 0
  · rw [if_pos h0, if_pos rfl, if_pos (by omega)]
  · rw [if_neg h0]
    have e1 : IntKind.u64.wrap m = m := by rw [IntKind.wrap_u64]; omega
    rw [e1]
    by_cases h1 : n > m
    · rw [if_pos (decide_eq_true h1), if_pos h1]
    · rw [if_neg (by simpa using h1), if_neg h1, e2]
      by_cases h2 : n > ((l.drop 2).length : Int)
      · rw [if_pos h2, if_pos h2]
      · rw [if_neg h2, if_neg h2, if_pos hr.1, if_pos (by omega)]
theorem bytes_wf {l : List Int} (h : ∀ x ∈ l, (Lit.int .u8 x).wf = true) : Bytes l := fun x hx => wf_u8 (h x hx)
theorem wf_i64 {n : Int} (h : (Lit.int .i64 n).wf = true) : -9223372036854775808 ≤ n ∧ n < 9223372036854775808 := by
  simp only [Lit.wf, IntKind.min, IntKind.max, IntKind.signed, IntKind.bits, Bool.and_eq_true, decide_eq_true_eq] at h
  simp at h
  omega
end Go.Proofs.Ytgjpaldbagkahaa.Pure
