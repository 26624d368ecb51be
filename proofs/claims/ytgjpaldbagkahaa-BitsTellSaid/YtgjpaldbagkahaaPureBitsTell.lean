/- BitsTell: of every bytes and numbers the sum, the number put and the number read are the document's. No condition beyond the row's own. -/
import Derived.Test.YtgjpaldbagkahaaPrint8
import Derived.Test.YtgjpaldbagkahaaPureC
namespace Go.Proofs.Ytgjpaldbagkahaa.Pure
open Go.RowKit Go.Proofs.Ytgjpaldbagkahaa.Print Go.Proofs.YtgjpaldbagkahaaW.PrintWords Go.Proofs.YtgjpaldbagkahaaW.PrintLast Go.Proofs.YtgjpaldbagkahaaW.PrintMore
set_option linter.unusedVariables false
set_option linter.unusedSimpArgs false

theorem tell_j1 (k : Nat) (hk : 3002 ≤ k) (a b : List Int) (n w x : Int) (r : List Int) (e : Int) (ha : a.length ≤ 300) (hb : b.length ≤ 300) :
    spillwaylaw1_BitsTell.j1 k a b n w x r e x r e = some true := by
  obtain ⟨k, rfl⟩ : ∃ m, k = m + 1 := ⟨k - 1, by omega⟩
  simp only [spillwaylaw1_BitsTell.j1]
  rw [sum_eq k a (by omega) (by omega), Option.bind_some, ref_sum_eq k a (by omega) (by omega), Option.bind_some, if_pos rfl, if_pos trivial, if_pos trivial, if_pos trivial, if_pos (by simp; omega),
    put_eq k _ n w (by omega) (by simp; omega), Option.bind_some, ref_put_eq k _ n w (by omega) (by simp; omega), Option.bind_some]
  simp

theorem BitsTell : spillwaylaw1_BitsTell.Pure := by
  intro a b n w ha0 ha1 haw hb0 hb1 hbw hn hw
  refine ⟨3004, ?_⟩
  unfold spillwaylaw1_BitsTell.f spillwaylaw1_known.f
  rw [Option.bind_some, if_pos rfl]
  have j0t : spillwaylaw1_BitsTell.j0 3004 a b n w true = some true := rfl
  by_cases hbig : (a.length : Int) > 300
  · rw [if_pos hbig]; exact j0t
  rw [if_neg hbig]
  by_cases hbb : (b.length : Int) > 300
  · rw [decide_eq_true hbb]; exact j0t
  rw [decide_eq_false hbb]
  obtain ⟨m, hm⟩ : ∃ m : Nat, m = 3003 := ⟨_, rfl⟩
  rw [show (3004 : Nat) = m + 1 by omega]
  simp only [spillwaylaw1_BitsTell.j0]
  rw [if_neg (by decide), if_pos (by simp; omega), List.nil_append]
  by_cases hs : a.length < wid w
  · rw [get_short m a w hs, Option.bind_some, ref_get_short m a w hs, Option.bind_some]
    dsimp only
    rw [if_neg (by decide)]
    exact tell_j1 m (by omega) a b n w _ _ _ (by omega) (by omega)
  · rw [get_eq m a w (by omega) (bytes_wf haw) (by omega), Option.bind_some, ref_get_eq m a w (by omega) (bytes_wf haw) (by omega), Option.bind_some]
    dsimp only
    rw [if_pos rfl]
    exact tell_j1 m (by omega) a b n w _ _ _ (by omega) (by omega)
end Go.Proofs.Ytgjpaldbagkahaa.Pure
