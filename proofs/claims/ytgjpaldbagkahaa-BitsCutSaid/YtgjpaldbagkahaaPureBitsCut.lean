/- BitsCut: numbers and texts that are cut off are too short, and nothing is read of them; a text that is longer than the most is too long. No condition beyond the row's own. -/
import Derived.Test.YtgjpaldbagkahaaPrint16
import Derived.Test.YtgjpaldbagkahaaPureB
namespace Go.Proofs.Ytgjpaldbagkahaa.Pure
open Go.RowKit Go.Proofs.Ytgjpaldbagkahaa.Print Go.Proofs.YtgjpaldbagkahaaW.PrintWords Go.Proofs.YtgjpaldbagkahaaW.PrintLast Go.Proofs.YtgjpaldbagkahaaW.PrintMore
set_option linter.unusedVariables false
set_option linter.unusedSimpArgs false

theorem val_text (s : ByteArray) (r : List Int) (hs : s.size ≤ 65535) (l : List Int) (h : l.take 2 = putL s.size 2) : valL (l.take 2) = s.size := by
  rw [h, valL_putL _ (by omega) 2]
  show (s.size : Int) % 65536 = s.size
  omega

theorem BitsCut : spillwaylaw1_BitsCut.Pure := by
  intro a0 s a2 h0 hs h2
  refine ⟨20, ?_⟩
  have hn := wf_u64 h0
  have hc := wf_u8 h2
  unfold spillwaylaw1_BitsCut.f spillwaylaw1_known.f
  rw [Option.bind_some, if_pos rfl]
  by_cases hbig : (s.size : Int) > 100
  · rw [if_pos hbig]
  rw [if_neg hbig, put_eq 20 [] a0 8 (by omega) (by simp), Option.bind_some]
  have ew : wid 8 = 8 := by decide
  rw [ew, List.nil_append]
  have ek : Int.tmod a2 8 = a2 % 8 := Int.tmod_eq_emod_of_nonneg hc.1
  have ek2 : wrap64 (Int.tmod a2 8) = a2 % 8 := by rw [ek, wrap_id (by omega) (by omega)]
  rw [ek2]
  have hpl : ((putL a0 8).length : Int) = 8 := by rw [putL_length]; rfl
  rw [if_pos (by omega), if_pos (by omega)]
  have hkl : ((putL a0 8).take (a2 % 8).toNat).length = (a2 % 8).toNat := by rw [List.length_take, putL_length]; omega
  rw [get_short 20 _ 8 (by rw [hkl, ew]; omega), Option.bind_some, text_eq 20 [] s (by omega) (by simp) (by omega), Option.bind_some, List.nil_append]
  dsimp only
  obtain ⟨t, ht⟩ : ∃ t, putL s.size 2 ++ bytesOf s = t := ⟨_, rfl⟩
  rw [ht]
  have htl : t.length = 2 + s.size := by rw [← ht, List.length_append, putL_length, bytesOf_length]
  have htb : Bytes t := by rw [← ht]; exact (putL_bytes _ _).append (bytesOf_bytes s)
  have ht2 : t.take 2 = putL s.size 2 := by rw [← ht]; exact List.take_left' (putL_length _ _)
  have htd : t.drop 2 = bytesOf s := by rw [← ht]; exact List.drop_left' (putL_length _ _)
  have hval := val_text s [] (by omega) t ht2
  rw [if_neg (by omega)]
  have ej : Int.tmod (wrap64 a2) (t.length : Int) = a2 % (t.length : Int) := by rw [wrap_id (by omega) (by omega)]; exact Int.tmod_eq_emod_of_nonneg hc.1
  have hj0 : 0 ≤ a2 % (t.length : Int) := Int.emod_nonneg _ (by omega)
  have hj1 : a2 % (t.length : Int) < (t.length : Int) := Int.emod_lt_of_pos _ (by omega)
  rw [ej]
  obtain ⟨j, hj⟩ : ∃ j : Nat, a2 % (t.length : Int) = (j : Int) := ⟨(a2 % (t.length : Int)).toNat, by omega⟩
  rw [hj] at hj0 hj1 ⊢
  rw [if_pos hj0, if_pos (by omega), Int.toNat_natCast]
  have hjl : (t.take j).length = j := by rw [List.length_take]; omega
  have hg1 : bits_GetText.f 20 (t.take j) 200 = some (⟨#[]⟩, t.take j, 10) := by
    by_cases h2j : j < 2
    · exact getText_short 20 _ 200 (by omega)
    · have htt : (t.take j).take 2 = putL s.size 2 := by rw [List.take_take, Nat.min_eq_left (by omega), ht2]
      rw [getText_eq 20 _ 200 s.size (by omega) (htb.take j) (by omega) (by rw [htt, ← ht2]; exact hval), if_neg (by omega), if_pos (by rw [List.length_drop]; omega)]
  have hg2 : bits_GetText.f 20 t (wrap64 ((s.size : Int) - 1)) = some (⟨#[]⟩, t, 11) := by
    rw [wrap_id (by omega) (by omega), getText_eq 20 _ _ s.size (by omega) htb (by omega) hval, if_pos (by omega)]
  have hg3 : bits_GetText.f 20 t (s.size : Int) = some (s, [], 0) := by
    rw [getText_eq 20 _ _ s.size (by omega) htb (by omega) hval, if_neg (by omega), if_neg (by rw [List.length_drop]; omega), htd, Int.toNat_natCast,
      List.take_of_length_le (by rw [bytesOf_length]; omega), List.drop_of_length_le (by rw [bytesOf_length]; omega), str_bytes]
  rw [hg1, Option.bind_some, hg2, Option.bind_some, hg3, Option.bind_some]
  dsimp only
  rw [if_pos rfl, if_pos rfl, if_pos (by rw [hkl]; omega), if_pos rfl, if_pos empty_toList, if_pos (by rw [hjl]), if_pos rfl, if_pos rfl, if_pos rfl]
  rfl

end Go.Proofs.Ytgjpaldbagkahaa.Pure
