/- BitsTexts: every text behind bytes, and what is read of whatever bytes, is the document's. No condition beyond the row's own. -/
import Derived.Test.YtgjpaldbagkahaaPrint14
import Derived.Test.YtgjpaldbagkahaaPureC
namespace Go.Proofs.Ytgjpaldbagkahaa.Pure
open Go.RowKit Go.Proofs.Ytgjpaldbagkahaa.Print Go.Proofs.YtgjpaldbagkahaaW.PrintWords Go.Proofs.YtgjpaldbagkahaaW.PrintLast Go.Proofs.YtgjpaldbagkahaaW.PrintMore
set_option linter.unusedVariables false
set_option linter.unusedSimpArgs false

theorem getText_ref (k : Nat) (hk : 9 ≤ k) (l : List Int) (hl : l.length ≤ 9223372036854775807) (hb : Bytes l) (m : Int) (hm : m < 9223372036854775808) : ∃ s r e, bits_GetText.f k l m = some (s, r, e) ∧ spillwayref1_GetText.f k l m = some (s, r, e) := by
  by_cases h : l.length < 2
  · exact ⟨_, _, _, getText_short k l m h, ref_getText_short k l m h⟩
  · rw [getText_eq k l m _ hk hb (by omega) rfl, ref_getText_eq k l m _ hk hb (by omega) hm hl rfl]
    split
    · exact ⟨_, _, _, rfl, rfl⟩
    · split
      · exact ⟨_, _, _, rfl, rfl⟩
      · exact ⟨_, _, _, rfl, rfl⟩

theorem BitsTexts : spillwaylaw1_BitsTexts.Pure := by
  intro a s m ha0 ha1 haw hs hm
  refine ⟨30, ?_⟩
  unfold spillwaylaw1_BitsTexts.f spillwaylaw1_known.f
  rw [Option.bind_some, if_pos rfl]
  have j0t : spillwaylaw1_BitsTexts.j0 30 a s m true = some true := rfl
  by_cases hbig : (a.length : Int) > 300
  · rw [if_pos hbig]; exact j0t
  rw [if_neg hbig]
  by_cases hbb : (s.size : Int) > 300
  · rw [decide_eq_true hbb]; exact j0t
  rw [decide_eq_false hbb]
  obtain ⟨k, hk⟩ : ∃ m : Nat, m = 29 := ⟨_, rfl⟩
  rw [show (30 : Nat) = k + 1 by omega]
  simp only [spillwaylaw1_BitsTexts.j0]
  have hB := bytes_wf haw
  obtain ⟨x, r, e, h1, h2⟩ := getText_ref k (by omega) a (by omega) hB m (wf_i64 hm).2
  rw [if_neg (by decide), if_pos (by simp; omega), List.nil_append, text_eq k a s (by omega) (by omega) (by omega), Option.bind_some, h1, Option.bind_some, h2, Option.bind_some,
    if_pos (by omega), if_pos (by simp only [List.length_append]; omega), Int.toNat_natCast, List.append_assoc, List.drop_left' rfl]
  obtain ⟨t, ht⟩ : ∃ t, putL s.size 2 ++ bytesOf s = t := ⟨_, rfl⟩
  have htB : Bytes t := by rw [← ht]; exact (putL_bytes _ _).append (bytesOf_bytes s)
  have htl : t.length = 2 + s.size := by rw [← ht, List.length_append, putL_length, bytesOf_length]
  have ht2 : t.take 2 = putL s.size 2 := by rw [← ht]; exact List.take_left' (putL_length _ _)
  have htd : t.drop 2 = bytesOf s := by rw [← ht]; exact List.drop_left' (putL_length _ _)
  have hval : valL (t.take 2) = s.size := by
    rw [ht2, valL_putL _ (by omega) 2]
    show (s.size : Int) % 65536 = s.size
    omega
  have hg : bits_GetText.f k t 300 = some (s, [], 0) := by
    rw [getText_eq k t 300 s.size (by omega) htB (by omega) hval, if_neg (by omega), if_neg (by rw [List.length_drop]; omega), htd, Int.toNat_natCast,
      List.take_of_length_le (by rw [bytesOf_length]; omega), List.drop_of_length_le (by rw [bytesOf_length]; omega), str_bytes]
  rw [ht, hg, Option.bind_some, ref_text_eq k a s (by omega) (by omega) (by omega), Option.bind_some, List.append_assoc, ht, if_pos rfl, if_pos rfl, if_pos rfl, if_pos rfl, if_pos rfl, if_pos rfl]
  rfl
end Go.Proofs.Ytgjpaldbagkahaa.Pure
