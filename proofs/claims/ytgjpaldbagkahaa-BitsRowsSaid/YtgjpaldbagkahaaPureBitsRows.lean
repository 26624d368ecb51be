/- BitsRows: numbers and texts that were put one behind the other are read back one behind the other. No condition beyond the row's own. -/
import Derived.Test.YtgjpaldbagkahaaPrint15
import Derived.Test.YtgjpaldbagkahaaPureB
namespace Go.Proofs.Ytgjpaldbagkahaa.Pure
open Go.RowKit Go.Proofs.Ytgjpaldbagkahaa.Print Go.Proofs.YtgjpaldbagkahaaW.PrintWords Go.Proofs.YtgjpaldbagkahaaW.PrintLast Go.Proofs.YtgjpaldbagkahaaW.PrintMore
set_option linter.unusedVariables false
set_option linter.unusedSimpArgs false

def seg (ns : List Int) (s : ByteArray) (i : Nat) : List Int := putL (ns.getD i 0) (i % 9) ++ (putL s.size 2 ++ bytesOf s)
def segs (ns : List Int) (s : ByteArray) : Nat → Nat → List Int
  | _, 0 => []
  | i, d + 1 => seg ns s i ++ segs ns s (i + 1) d
theorem seg_len (ns : List Int) (s : ByteArray) (i : Nat) : (seg ns s i).length ≤ 10 + s.size := by
  simp only [seg, List.length_append, putL_length, bytesOf_length]; omega
theorem seg_bytes (ns : List Int) (s : ByteArray) (i : Nat) : Bytes (seg ns s i) := (putL_bytes _ _).append ((putL_bytes _ _).append (bytesOf_bytes s))
theorem segs_bytes (ns : List Int) (s : ByteArray) : ∀ (d i : Nat), Bytes (segs ns s i d)
  | 0, i => fun x hx => by simp [segs] at hx
  | d + 1, i => (seg_bytes ns s i).append (segs_bytes ns s d (i + 1))
theorem wid_mod (i : Nat) : wid (Int.tmod (i : Int) 9) = i % 9 := by
  rw [Int.tmod_eq_emod_of_nonneg (by omega)]
  unfold wid mn mx
  split <;> split <;> omega
theorem rd_at (ns : List Int) (i : Nat) : rd ns i = ns.getD i 0 := by unfold rd; rw [Int.toNat_natCast]

theorem rows_l0 (ns : List Int) (s : ByteArray) (hs : s.size ≤ 100) (hn : ns.length ≤ 20) (d : Nat) : ∀ (k K i : Nat) (b : List Int), i + d = ns.length → b.length ≤ i * 200 → K = k + d + 1 → 9 ≤ k →
    spillwaylaw1_BitsRows.l0 K ns s b i = spillwaylaw1_BitsRows.l1 k ns s (b ++ segs ns s i d) 0 := by
  induction d with
  | zero =>
    intro k K i b hi hb hK hk
    obtain rfl : K = k + 1 := hK
    simp only [spillwaylaw1_BitsRows.l0, segs, List.append_nil]
    rw [if_neg (by omega)]
  | succ d ih =>
    intro k K i b hi hb hK hk
    obtain ⟨m, rfl⟩ : ∃ m, K = m + 1 := ⟨K - 1, by omega⟩
    simp only [spillwaylaw1_BitsRows.l0]
    have e2 : wrap64 ((i : Int) + 1) = ((i + 1 : Nat) : Int) := by rw [wrap_id (by omega) (by omega)]; omega
    rw [if_pos (by omega), if_pos (by omega), put_eq _ b _ _ (by omega) (by omega), Option.bind_some,
      text_eq _ _ s (by omega) (by have := wid_le (Int.tmod i 9); simp only [List.length_append, putL_length]; omega) (by omega), Option.bind_some, e2, wid_mod, rd_at]
    have h := ih k m (i + 1) (b ++ putL (ns.getD i 0) (i % 9) ++ putL s.size 2 ++ bytesOf s) (by omega) (by simp only [List.length_append, putL_length, bytesOf_length]; omega) (by omega) hk
    rw [h]
    simp only [segs, seg, List.append_assoc]

set_option maxRecDepth 10000 in
theorem mask_eq (v : Int) (w : Nat) (hw : w < 8) (h0 : 0 ≤ v) (h1 : v < 18446744073709551616) :
    Go.bits .and .u64 v (IntKind.u64.wrap ((shl .u64 1 ((8 * w : Nat) : Int)) - 1)) = v % 256 ^ w := by
  obtain ⟨N, rfl⟩ := Int.eq_ofNat_of_zero_le h0
  have h256 : (256 : Nat) ^ w = 2 ^ (8 * w) := by rw [Nat.pow_mul]
  have hle : 2 ^ (8 * w) ≤ 2 ^ 56 := Nat.pow_le_pow_right (by omega) (by omega)
  have hpos : 0 < 2 ^ (8 * w) := Nat.pow_pos (by omega)
  have e1 : shl .u64 1 ((8 * w : Nat) : Int) = ((2 ^ (8 * w) : Nat) : Int) := by
    unfold shl
    rw [Int.toNat_natCast, Nat.min_eq_left (by show 8 * w ≤ 64; omega), IntKind.wrap_u64]
    have : (1 : Int) * 2 ^ (8 * w) = ((2 ^ (8 * w) : Nat) : Int) := by rw [Int.natCast_pow, Int.one_mul]; rfl
    rw [this]
    omega
  have e2 : IntKind.u64.wrap (((2 ^ (8 * w) : Nat) : Int) - 1) = ((2 ^ (8 * w) - 1 : Nat) : Int) := by rw [IntKind.wrap_u64]; omega
  rw [e1, e2, u64_and_nat _ _ (by omega) (by omega), Nat.and_two_pow_sub_one_eq_mod, ← h256]
  rw [Int.natCast_emod, Int.natCast_pow]
  rfl

theorem rows_l1 (ns : List Int) (s : ByteArray) (hs : s.size ≤ 100) (hn : ns.length ≤ 20) (hw : ∀ x ∈ ns, 0 ≤ x ∧ x < 18446744073709551616) (d : Nat) : ∀ (K i : Nat), i + d = ns.length → 2 * d + 10 ≤ K →
    spillwaylaw1_BitsRows.l1 K ns s (segs ns s i d) i = some true := by
  induction d with
  | zero =>
    intro K i hi hK
    obtain ⟨m, rfl⟩ : ∃ m, K = m + 1 := ⟨K - 1, by omega⟩
    simp only [spillwaylaw1_BitsRows.l1, segs]
    rw [if_neg (by omega)]
    rfl
  | succ d ih =>
    intro K i hi hK
    obtain ⟨m, rfl⟩ : ∃ m, K = m + 1 + 1 := ⟨K - 2, by omega⟩
    simp only [spillwaylaw1_BitsRows.l1, spillwaylaw1_BitsRows.j3]
    have e2 : wrap64 ((i : Int) + 1) = ((i + 1 : Nat) : Int) := by rw [wrap_id (by omega) (by omega)]; omega
    have em : Int.tmod (i : Int) 9 = ((i % 9 : Nat) : Int) := by rw [Int.tmod_eq_emod_of_nonneg (by omega)]; omega
    have hv : 0 ≤ ns.getD i 0 ∧ ns.getD i 0 < 18446744073709551616 := by
      rw [List.getD_eq_getElem?_getD, List.getElem?_eq_getElem (by omega), Option.getD_some]
      exact hw _ (List.getElem_mem _)
    have ew : IntKind.u64.wrap (8 * IntKind.u64.wrap (Int.tmod (i : Int) 9)) = ((8 * (i % 9) : Nat) : Int) := by
      rw [em, IntKind.wrap_u64, IntKind.wrap_u64]; omega
    have hx : ∀ x8 : Int, x8 = ns.getD i 0 % 256 ^ (i % 9) →
        (((bits_Get.f m (segs ns s i (d + 1)) (Int.tmod i 9)).bind fun bt271 => ((bits_GetText.f m bt271.2.1 100).bind fun bt276 => (if bt271.2.2 = 0 then (if bt276.2.2 = 0 then (if bt271.1 = x8 then (if bt276.1.toList = s.toList then (spillwaylaw1_BitsRows.l1 m ns s bt276.2.1 (wrap64 ((i : Int) + 1))) else (some false)) else (some false)) else (some false)) else (some false)))) = some true) := by
      intro x8 h8
      have hB := segs_bytes ns s (d + 1) i
      have hsplit : segs ns s i (d + 1) = putL (ns.getD i 0) (i % 9) ++ ((putL s.size 2 ++ bytesOf s) ++ segs ns s (i + 1) d) := by simp only [segs, seg, List.append_assoc]
      have htk : (segs ns s i (d + 1)).take (i % 9) = putL (ns.getD i 0) (i % 9) := by rw [hsplit]; exact List.take_left' (putL_length _ _)
      have hdr : (segs ns s i (d + 1)).drop (i % 9) = (putL s.size 2 ++ bytesOf s) ++ segs ns s (i + 1) d := by rw [hsplit]; exact List.drop_left' (putL_length _ _)
      have hlen : i % 9 ≤ (segs ns s i (d + 1)).length := by rw [hsplit, List.length_append, putL_length]; omega
      rw [get_eq _ _ _ (by omega) hB (by rw [wid_mod]; exact hlen), Option.bind_some, wid_mod, htk, hdr, valL_putL _ hv.1]
      dsimp only
      obtain ⟨t, ht⟩ : ∃ t, (putL s.size 2 ++ bytesOf s) ++ segs ns s (i + 1) d = t := ⟨_, rfl⟩
      have htB : Bytes t := by rw [← ht, ← hdr]; exact hB.drop _
      have ht2 : t.take 2 = putL s.size 2 := by rw [← ht, List.append_assoc]; exact List.take_left' (putL_length _ _)
      have htd : t.drop 2 = bytesOf s ++ segs ns s (i + 1) d := by rw [← ht, List.append_assoc]; exact List.drop_left' (putL_length _ _)
      have hval : valL (t.take 2) = s.size := by
        rw [ht2, valL_putL _ (by omega) 2]
        show (s.size : Int) % 65536 = s.size
        omega
      have htl : 2 ≤ t.length := by rw [← ht]; simp only [List.length_append, putL_length]; omega
      rw [ht, getText_eq _ t 100 s.size (by omega) htB htl hval, if_neg (by omega), if_neg (by rw [htd, List.length_append, bytesOf_length]; omega), Option.bind_some, htd, Int.toNat_natCast,
        List.take_left' (bytesOf_length s), List.drop_left' (bytesOf_length s), str_bytes]
      dsimp only
      rw [if_pos rfl, if_pos rfl, if_pos h8.symm, if_pos rfl, e2]
      exact ih m (i + 1) (by omega) (by omega)
    rw [if_pos (by omega), if_pos (by omega), ew]
    by_cases h9 : Int.tmod (i : Int) 9 < 8
    · rw [if_pos h9, if_pos (by omega), rd_at, mask_eq _ _ (by omega) hv.1 hv.2]
      exact hx _ rfl
    · rw [if_neg h9, rd_at]
      refine hx _ ?_
      have e8 : i % 9 = 8 := by omega
      rw [e8]
      show _ = ns.getD i 0 % 18446744073709551616
      omega

theorem BitsRows : spillwaylaw1_BitsRows.Pure := by
  intro ns s hm hm2 hw hs
  refine ⟨100, ?_⟩
  unfold spillwaylaw1_BitsRows.f spillwaylaw1_known.f
  rw [Option.bind_some, if_pos rfl]
  by_cases hbig : (ns.length : Int) > 20
  · rw [if_pos hbig]
    rfl
  · rw [if_neg hbig]
    show (if decide ((s.size : Int) > 100) = true then some true else spillwaylaw1_BitsRows.l0 99 ns s [] 0) = some true
    by_cases hb : (s.size : Int) > 100
    · rw [if_pos (decide_eq_true hb)]
    · rw [if_neg (by simpa using hb)]
      have h1 := rows_l0 ns s (by omega) (by omega) ns.length (98 - ns.length) 99 0 [] (by omega) (by simp) (by omega) (by omega)
      have h2 := rows_l1 ns s (by omega) (by omega) (fun x hx => wf_u64 (hw x hx)) ns.length (98 - ns.length) 0 (by omega) (by omega)
      rw [List.nil_append] at h1
      exact h1.trans h2
end Go.Proofs.Ytgjpaldbagkahaa.Pure
