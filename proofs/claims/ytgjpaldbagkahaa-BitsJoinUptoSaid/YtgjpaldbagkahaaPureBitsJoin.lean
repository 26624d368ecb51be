import Derived.Test.YtgjpaldbagkahaaPrint10
import Derived.Test.YtgjpaldbagkahaaPureB
namespace Go.Proofs.Ytgjpaldbagkahaa.Pure
open Go.RowKit Go.Proofs.Ytgjpaldbagkahaa.Print Go.Proofs.YtgjpaldbagkahaaW.PrintWords Go.Proofs.YtgjpaldbagkahaaW.PrintLast Go.Proofs.YtgjpaldbagkahaaW.PrintMore
set_option linter.unusedVariables false
set_option linter.unusedSimpArgs false

theorem piece_at (ls : List (List Int)) (i : Nat) (h : i < ls.length) : (ls.flatten.take ((ls.take i).flatten.length + (ls.getD i []).length)).drop (ls.take i).flatten.length = ls.getD i [] := by
  have h1 := flat_take_succ ls i h
  have h2 : ls.flatten = (ls.take (i + 1)).flatten ++ (ls.drop (i + 1)).flatten := by rw [← List.flatten_append, List.take_append_drop]
  rw [h2, h1, ← List.length_append, List.take_left' rfl, List.drop_left' rfl]

theorem joined_two (ls : List (List Int)) (m : Nat) (k : Nat) (hl : ls.length ≤ 20) (hk : 44 ≤ k) (hf : ls.flatten.length < 140737488355328) :
    ((bits_Join.f k (ls.take m)).bind fun t180 => ((bits_Join.f k (ls.drop m)).bind fun t187 => ((bits_Join.f k (([t180, t187] : List (List Int)))).bind fun t193 => (some ((strOfNums t193).toList == (strOfNums ls.flatten).toList))))) = some true := by
  have h2 : (ls.take m).flatten ++ (ls.drop m).flatten = ls.flatten := by rw [← List.flatten_append, List.take_append_drop]
  have hlen := congrArg List.length h2
  rw [List.length_append] at hlen
  have h3 : ([(ls.take m).flatten, (ls.drop m).flatten] : List (List Int)).flatten = ls.flatten := by rw [← h2]; simp only [List.flatten_cons, List.flatten_nil, List.append_nil]
  rw [join_eq k (ls.take m) (by rw [List.length_take]; omega) (by rw [List.length_take]; omega) (by omega), Option.bind_some,
    join_eq k (ls.drop m) (by rw [List.length_drop]; omega) (by rw [List.length_drop]; omega) (by omega), Option.bind_some,
    join_eq k [(ls.take m).flatten, (ls.drop m).flatten] (by simp) (by simp; omega) (by rw [h3]; exact hf), Option.bind_some, h3, beq_self_eq_true]

theorem join_l0 (ls : List (List Int)) (x : Int) (hx : 0 ≤ x ∧ x ≤ 255) (hl : ls.length ≤ 20) (hf : ls.flatten.length < 140737488355328) (d : Nat) : ∀ (K i : Nat), i + d = ls.length → d + 45 ≤ K →
    spillwaylaw1_BitsJoin.l0 K ls x ls.flatten ((ls.take i).flatten.length : Int) i = some true := by
  induction d with
  | zero =>
    intro K i hi hK
    obtain ⟨k, rfl⟩ : ∃ m, K = m + 1 := ⟨K - 1, by omega⟩
    obtain rfl : i = ls.length := by omega
    simp only [spillwaylaw1_BitsJoin.l0]
    have h0 : 0 ≤ x % ((ls.length : Int) + 1) := Int.emod_nonneg _ (by omega)
    have h1 : x % ((ls.length : Int) + 1) ≤ (ls.length : Int) := Int.le_of_lt_add_one (Int.emod_lt_of_pos _ (by omega))
    have c1 : ¬ (ls.length : Int) < (ls.length : Int) := by omega
    have c2 : ¬ (ls.length : Int) + 1 = 0 := by omega
    have e1 : wrap64 ((ls.length : Int) + 1) = (ls.length : Int) + 1 := wrap_id (by omega) (by omega)
    have e2 : wrap64 x = x := wrap_id (by omega) (by omega)
    have e3 : Int.tmod x ((ls.length : Int) + 1) = x % ((ls.length : Int) + 1) := Int.tmod_eq_emod_of_nonneg hx.1
    have hk2 : 44 ≤ k := by clear e1 e2 e3 h0 h1; omega
    rw [if_neg c1, e1, if_neg c2, List.take_of_length_le (Nat.le_refl _), if_pos rfl, e2, e3, if_pos h0, if_pos h1]
    exact joined_two ls _ k hl hk2 hf
  | succ d ih =>
    intro K i hi hK
    obtain ⟨k, rfl⟩ : ∃ m, K = m + 1 := ⟨K - 1, by omega⟩
    have hs := flat_take_succ ls i (by omega)
    have hs2 := congrArg List.length hs
    rw [List.length_append] at hs2
    have hlen := flat_take_le ls (i + 1)
    rw [hs2] at hlen
    have hp := piece_at ls i (by omega)
    have hi' : i < ls.length := by omega
    have hrec := ih k (i + 1) (by omega) (by omega)
    rw [hs2] at hrec
    clear ih hs hs2
    obtain ⟨p, hpp⟩ : ∃ p, ls.getD i [] = p := ⟨_, rfl⟩
    obtain ⟨A, hA⟩ : ∃ A, (ls.take i).flatten.length = A := ⟨_, rfl⟩
    obtain ⟨F, hF⟩ : ∃ F, ls.flatten = F := ⟨_, rfl⟩
    obtain ⟨B, hB⟩ : ∃ B, p.length = B := ⟨_, rfl⟩
    obtain ⟨N, hN⟩ : ∃ N, ls.length = N := ⟨_, rfl⟩
    obtain ⟨M, hM⟩ : ∃ M, F.length = M := ⟨_, rfl⟩
    rw [hF, hM] at hf
    rw [hN] at hl hi'
    rw [hpp, hA, hF, hB] at hrec hp
    rw [hA, hpp, hF, hB, hM] at hlen
    simp only [spillwaylaw1_BitsJoin.l0]
    rw [hA, hF, rd_L1_at, hpp, hB, hN, hM]
    have c1 : (i : Int) < (N : Int) := by omega
    have c2 : (0 : Int) ≤ (i : Int) := by omega
    rw [if_pos c1, if_pos c2]
    by_cases hbig : (B : Int) > 100
    · rw [if_pos hbig, decide_eq_true hbig]
    · have c3 : ¬ (M : Int) < ((A + B : Nat) : Int) := by omega
      have c4 : (0 : Int) ≤ (A : Int) := by omega
      have c5 : (A : Int) ≤ ((A + B : Nat) : Int) := by omega
      have c6 : ((A + B : Nat) : Int) ≤ (M : Int) := by omega
      have e3 : wrap64 ((A : Int) + (B : Int)) = ((A + B : Nat) : Int) := by rw [wrap_id (by omega) (by omega)]; omega
      have e2 : wrap64 ((i : Int) + 1) = ((i + 1 : Nat) : Int) := by rw [wrap_id (by omega) (by omega)]; omega
      rw [if_neg hbig, e3, if_neg c3, if_pos c4, if_pos c5, if_pos c6, Int.toNat_natCast, Int.toNat_natCast, hp, if_pos rfl, e2]
      exact hrec

theorem BitsJoin (ls : List (List Int)) (x : Int) (hx : (Lit.int .u8 x).wf = true) (hf : ls.flatten.length < 140737488355328) : spillwaylaw1_BitsJoin.f 70 ls x = some true := by
  unfold spillwaylaw1_BitsJoin.f spillwaylaw1_known.f
  rw [Option.bind_some, if_pos rfl]
  by_cases hbig : (ls.length : Int) > 20
  · rw [if_pos hbig]
  · rw [if_neg hbig, join_eq 70 ls (by omega) (by omega) hf, Option.bind_some]
    have h := join_l0 ls x (wf_u8 hx) (by omega) hf ls.length 70 0 (by omega) (by omega)
    simpa using h
end Go.Proofs.Ytgjpaldbagkahaa.Pure
