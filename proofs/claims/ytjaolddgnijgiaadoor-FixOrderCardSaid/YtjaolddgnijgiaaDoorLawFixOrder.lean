-- The row and the card of the law FixOrder.
import Derived.Test.YtjaolddgnijgiaaDoorCards
import Derived.Test.YtjaolddgnijgiaaDoorTie
import Derived.Test.YtjaolddgnijgiaaDoorLaid
import Derived.Test.YtjaolddgnijgiaaDoorQ1
import Derived.Test.YtjaolddgnijgiaaDoorPureA
import Derived.Test.YtjaolddgnijgiaaDoorPrint25
import Derived.Test.YtjaolddgnijgiaaDoorPrint26
import Derived.WalkKit
import Derived.ProofKit
import Derived.OpenShut
import Derived.Below
namespace Go.Proofs.YtjaolddgnijgiaaDoor.Pure
open Go.RowKit Go.Proofs.YtjaolddgnijgiaaDoor.Print Go.Proofs.YtjaolddgnijgiaaDoorW.PrintWords Go.Proofs.YtjaolddgnijgiaaDoorW.PrintLast Go.Proofs.YtjaolddgnijgiaaDoorW.PrintMore
set_option linter.unusedVariables false
set_option linter.unusedSimpArgs false
def R64 (n : Int) : Prop := -9223372036854775808 ≤ n ∧ n ≤ 9223372036854775807
/-- The order's rank: overflow stands above all. -/
def rank (a : Bool) (n : Int) : Int := if isOver ⟨a, n⟩ then 9223372036854775808 else n
def cmpI (x y : Int) : Int := if x < y then -1 else if x > y then 1 else 0
theorem cmp_eq (k : Nat) (a : Bool) (n : Int) (b : Bool) (m : Int) (hn : R64 n) (hm : R64 m) : fix_Cmp.f (k + 1) a n b m = some (cmpI (rank a n) (rank b m)) := by
  obtain ⟨n1, n2⟩ := hn
  obtain ⟨m1, m2⟩ := hm
  unfold fix_Cmp.f
  simp only [fix_Cmp.j0, over_eq, Option.bind_some]
  unfold rank cmpI cmp_Compare_int64.f cmp_isNaN_int64.f
  cases h1 : isOver ⟨a, n⟩ <;> cases h2 : isOver ⟨b, m⟩
  · simp only [Bool.false_eq_true, if_false, Option.bind_some, bne_self_eq_false]
    by_cases c1 : n < m
    · rw [if_pos c1, if_pos c1]; rfl
    · rw [if_neg c1, if_neg c1]
      by_cases c2 : n > m
      · rw [if_pos c2, if_pos c2]; rfl
      · rw [if_neg c2, if_neg c2]; rfl
  · simp only [Bool.false_eq_true, if_false, if_true, Option.bind_some]
    rw [if_pos (by omega)]
  · simp only [Bool.false_eq_true, if_false, if_true, Option.bind_some]
    rw [if_neg (by omega), if_pos (by omega)]
  · simp only [if_true]
    rw [if_neg (by omega), if_neg (by omega)]
theorem add_fix (k : Nat) (a : Bool) (n : Int) (b : Bool) (m : Int) (hn : R64 n) (hm : R64 m) (hk : 1001 < k) : fix_Add.f k a n b m = some (sumS [⟨a, n⟩, ⟨b, m⟩]) := by
  unfold fix_Add.f
  rw [sum_eq k _ (by intro s hs; simp at hs; rcases hs with rfl | rfl <;> assumption) (by simp) hk]
  rfl
theorem sum2 (a : Bool) (n : Int) (b : Bool) (m : Int) : sumS [⟨a, n⟩, ⟨b, m⟩] = if isOver ⟨a, n⟩ || isOver ⟨b, m⟩ then (true, 0) else told (n + m) := by
  unfold sumS sums
  simp
theorem told_R (s : Int) : R64 (told s).2 := by
  unfold told R64
  split
  · constructor <;> (simp only; omega)
  · simp
theorem sum2_R (a : Bool) (n : Int) (b : Bool) (m : Int) : R64 (sumS [⟨a, n⟩, ⟨b, m⟩]).2 := by
  rw [sum2]
  split
  · simp [R64]
  · exact told_R _
theorem rank_R (a : Bool) (n : Int) (hn : R64 n) : -9223372036854775808 ≤ rank a n ∧ rank a n ≤ 9223372036854775808 ∧ rank a n ≠ -9223372036854775808 := by
  obtain ⟨n1, n2⟩ := hn
  unfold rank
  cases h : isOver ⟨a, n⟩
  · simp only [Bool.false_eq_true, if_false]
    have : n ≠ -9223372036854775808 := by
      intro e
      subst e
      simp [isOver] at h
    omega
  · simp
theorem cmpI_neg (x y : Int) : wrap64 (-(cmpI x y)) = cmpI y x := by
  unfold cmpI
  by_cases c1 : x < y
  · rw [if_pos c1, if_neg (by omega), if_pos (by omega)]; exact (wrap_id (by decide) (by decide)).trans (by decide)
  · rw [if_neg c1]
    by_cases c2 : x > y
    · rw [if_pos c2, if_pos (by omega)]; exact (wrap_id (by decide) (by decide)).trans (by decide)
    · rw [if_neg c2, if_neg (by omega), if_neg (by omega)]; exact (wrap_id (by decide) (by decide)).trans (by decide)
theorem cmpI_self (x : Int) : cmpI x x = 0 := by unfold cmpI; rw [if_neg (by omega), if_neg (by omega)]
theorem cmpI_le (x y : Int) : cmpI x y ≤ 0 ↔ x ≤ y := by
  unfold cmpI
  by_cases c1 : x < y
  · rw [if_pos c1]; omega
  · rw [if_neg c1]
    by_cases c2 : x > y
    · rw [if_pos c2]; omega
    · rw [if_neg c2]; omega
/-- Adding keeps the order, where neither sum is overflow. -/
theorem keeps (a : Bool) (n : Int) (b : Bool) (m : Int) (c : Bool) (z : Int) (h1 : (sumS [⟨a, n⟩, ⟨c, z⟩]).1 = false) (h2 : (sumS [⟨b, m⟩, ⟨c, z⟩]).1 = false) :
    cmpI (rank (sumS [⟨a, n⟩, ⟨c, z⟩]).1 (sumS [⟨a, n⟩, ⟨c, z⟩]).2) (rank (sumS [⟨b, m⟩, ⟨c, z⟩]).1 (sumS [⟨b, m⟩, ⟨c, z⟩]).2) = cmpI (rank a n) (rank b m) := by
  rw [sum2] at h1 h2 ⊢
  rw [sum2]
  cases ha : isOver ⟨a, n⟩
  · cases hb : isOver ⟨b, m⟩
    · cases hc : isOver ⟨c, z⟩
      · rw [ha, hc] at h1
        rw [hb, hc] at h2
        simp only [Bool.or_self, Bool.false_eq_true, if_false] at h1 h2 ⊢
        unfold told at h1 h2 ⊢
        by_cases g1 : -9223372036854775808 < n + z ∧ n + z < 9223372036854775808
        · by_cases g2 : -9223372036854775808 < m + z ∧ m + z < 9223372036854775808
          · rw [if_pos g1, if_pos g2]
            have i1 : isOver ⟨false, n + z⟩ = false := by
              unfold isOver
              simp
              omega
            have i2 : isOver ⟨false, m + z⟩ = false := by
              unfold isOver
              simp
              omega
            unfold rank
            rw [ha, hb, i1, i2]
            simp only [Bool.false_eq_true, if_false]
            unfold cmpI
            by_cases q1 : n < m
            · rw [if_pos q1, if_pos (by omega)]
            · rw [if_neg q1, if_neg (by omega)]
              by_cases q2 : n > m
              · rw [if_pos q2, if_pos (by omega)]
              · rw [if_neg q2, if_neg (by omega)]
          · rw [if_neg g2] at h2; cases h2
        · rw [if_neg g1] at h1; cases h1
      · rw [ha, hc] at h1; simp at h1
    · rw [hb] at h2; simp at h2
  · rw [ha] at h1; simp at h1
end Go.Proofs.YtjaolddgnijgiaaDoor.Pure
namespace Go.Proofs.YtjaolddgnijgiaaDoor.fixOrder
open Go.ChangeShapes Go.WideShapes Go.ChangeAt Go.RowKit
open Go.Proofs.YtjaolddgnijgiaaDoorW.PrintWords
set_option linter.unusedVariables false
theorem own : ownKnob Tryd.prog.godebug = none := by kernel_rfl
theorem laidOut : laidOutB Tryd.prog = true := by kernel_rfl
theorem j0 (x : Int) (a : Bool) (n : Int) (b : Bool) (m : Int) (c : Bool) (z : Int) (hn : Pure.R64 n) (hm : Pure.R64 m) (hz : Pure.R64 z) (hx : x = Pure.cmpI (Pure.rank a n) (Pure.rank b m)) :
    Q.spillwaylaw2_FixOrder.j0 1100 x false a n b m c z = some true := by
  obtain ⟨J, hJ⟩ : ∃ J : Nat, J = 1098 := ⟨_, rfl⟩
  rw [show (1100 : Nat) = J + 1 + 1 by omega]
  simp only [Q.spillwaylaw2_FixOrder.j0, Bool.false_eq_true, if_false]
  rw [Pure.add_fix (J + 1) a n c z hn hz (by omega), Option.bind_some, Pure.add_fix (J + 1) b m c z hm hz (by omega), Option.bind_some]
  by_cases c1 : (Pure.sumS [⟨a, n⟩, ⟨c, z⟩]).1 = true
  · rw [if_pos c1]
  · rw [if_neg c1]
    by_cases c2 : (Pure.sumS [⟨b, m⟩, ⟨c, z⟩]).1 = true
    · rw [if_pos c2]
    · rw [if_neg c2, Pure.cmp_eq J _ _ _ _ (Pure.sum2_R _ _ _ _) (Pure.sum2_R _ _ _ _), Option.bind_some, Pure.keeps a n b m c z (by simpa using c1) (by simpa using c2), ← hx]
      simp
theorem pure (a : Bool) (n : Int) (b : Bool) (m : Int) (c : Bool) (z : Int) (hn : Pure.R64 n) (hm : Pure.R64 m) (hz : Pure.R64 z) : Q.spillwaylaw2_FixOrder.f 1100 a n b m c z = some true := by
  have ce := fun (a : Bool) (n : Int) (b : Bool) (m : Int) (hn : Pure.R64 n) (hm : Pure.R64 m) => Pure.cmp_eq 1099 a n b m hn hm
  have z0 : Pure.R64 0 := by constructor <;> decide
  unfold Q.spillwaylaw2_FixOrder.f Print.spillwaylaw2_known.f
  rw [Option.bind_some, if_pos rfl, show (1100 : Nat) = 1099 + 1 from rfl, ce a n b m hn hm, Option.bind_some, ce b m a n hm hn, Option.bind_some, Pure.cmpI_neg, if_pos rfl, ce a n a n hn hn, Option.bind_some, Pure.cmpI_self, if_pos rfl,
    ce true 0 a n z0 hn, Option.bind_some]
  have r1 := Pure.rank_R a n hn
  have t0 : Pure.rank true 0 = 9223372036854775808 := rfl
  have h0 : ¬ Pure.cmpI (Pure.rank true 0) (Pure.rank a n) < 0 := by
    rw [t0]
    unfold Pure.cmpI
    rw [if_neg (by omega)]
    split <;> omega
  rw [if_neg h0]
  by_cases c1 : Pure.cmpI (Pure.rank a n) (Pure.rank b m) ≤ 0
  · rw [if_pos c1, ce b m c z hm hz, Option.bind_some]
    by_cases c2 : Pure.cmpI (Pure.rank b m) (Pure.rank c z) ≤ 0
    · rw [if_pos c2, ce a n c z hn hz, Option.bind_some]
      have c3 : Pure.cmpI (Pure.rank a n) (Pure.rank c z) ≤ 0 := (Pure.cmpI_le _ _).2 (Int.le_trans ((Pure.cmpI_le _ _).1 c1) ((Pure.cmpI_le _ _).1 c2))
      rw [show decide (Pure.cmpI (Pure.rank a n) (Pure.rank c z) > 0) = false from decide_eq_false (by omega)]
      exact j0 _ a n b m c z hn hm hz rfl
    · rw [if_neg c2]
      exact j0 _ a n b m c z hn hm hz rfl
  · rw [if_neg c1]
    exact j0 _ a n b m c z hn hm hz rfl

set_option maxRecDepth 100000 in
/-- A number that came in. -/
theorem open_num {H : Type} {enc : TypeId × Value → H} {W : World} {base b0 : Nat} {r : Reach} {sp : Nat → Bool} {held : Bool} {v : Value} {d : DataW H} {ps : List MemPlace} (hok : Value.okWide Tryd.prog W r b0 25 v) (h : DataW.Trod enc Tryd.prog W base sp held 25 v d ps) :
    ∃ (b : Bool) (n : Int), v = .agg #[.bool b, .int .i64 n] ∧ Pure.R64 n := by
  obtain ⟨xs, rfl⟩ : ∃ xs, v = .agg xs := by
    simp only [Value.okWide, Tryd.underlying25] at hok
    obtain ⟨cs, h1, _⟩ := hok
    exact ⟨cs, h1⟩
  obtain ⟨fuel, hf⟩ := h
  simp only [Value.cells] at hf
  obtain ⟨ys, k, hk, hxy, hlen, hxl, hg⟩ := DataW.trod_struct Tryd.underlying25 hf
  have hl2 : xs.toList.length = 2 := hlen.trans (by kernel_rfl)
  have c4 : Tryd.prog.cellsOf 4 = 1 := by kernel_rfl
  have c2 : Tryd.prog.cellsOf 2 = 1 := by kernel_rfl
  obtain ⟨xs⟩ := xs
  match xs, hl2, ys, hxl with
  | [v0, v1], _, [y0, y1], _ =>
    have g0 := hg 0 _ rfl
    have g1 := hg 1 _ rfl
    simp [c4, c2] at g0 g1
    obtain ⟨b, e0, _⟩ := DataW.trod_bool Tryd.underlying4 g0
    obtain ⟨n, e1, _, w1⟩ := DataW.trod_int Tryd.underlying2 g1
    simp at e0 e1
    subst e0 e1
    exact ⟨b, n, rfl, by simpa [Pure.R64, Lit.wf, IntKind.min, IntKind.max, IntKind.signed, IntKind.bits] using w1⟩

set_option maxRecDepth 100000 in
theorem contract (H : Type) (enc : TypeId × Value → H) (W : World) (base : Nat) (args : Array Value) (ds gs : List (DataW H)) (before : List MemPlace)
    (hval : ∀ (j : Nat) t v, Tryd.f5.params[j]? = some t → args[j]? = some v → Value.okWide Tryd.prog W .any base t v)
    (hW : DataW.Whole enc Tryd.prog Tryd.f5.params.toList Rows.fixOrderSpec.vars false W args.toList ds gs before) (hG : Print.LaidW W) :
    Calls Tryd.prog 5 args W fun e W' => ∃ v, e = .returned v ∧ Rows.fixOrderSpec.post enc Tryd.prog Tryd.f5 false true false false W args v W' := by
  have hW' := hW
  obtain ⟨p, q, hA0, hV, rfl, hfz, hnd⟩ := hW
  have hA : DataW.TrodAll enc Tryd.prog W 0 (fun _ => true) true Tryd.f5.params.toList args.toList ds p := hA0
  rw [Tryd.params5] at hA hval
  obtain ⟨v0, vs0, d0, ds0, p0, q0, hargs, rfl, rfl, h0, r0⟩ := trodAll_cons hA
  obtain ⟨v1, vs1, d1, ds1, p1, q1, rfl, rfl, rfl, h1, r1⟩ := trodAll_cons r0
  obtain ⟨v2, vs2, d2, ds2, p2, q2, rfl, rfl, rfl, h2, r2⟩ := trodAll_cons r1
  obtain ⟨rfl, rfl, rfl⟩ := trodAll_nil r2
  obtain rfl : args = #[v0, v1, v2] := by cases args; simp_all
  obtain ⟨rfl, rfl⟩ := trodVars_none hV
  have k0 := h0
  have k1 := h1
  have k2 := h2
  have lt0 : ∀ x ∈ p0, x.block < W.heap.size := by obtain ⟨m, hm⟩ := k0; exact DataW.trod_lt m _ _ _ hm
  have lt1 : ∀ x ∈ p1, x.block < W.heap.size := by obtain ⟨m, hm⟩ := k1; exact DataW.trod_lt m _ _ _ hm
  have lt2 : ∀ x ∈ p2, x.block < W.heap.size := by obtain ⟨m, hm⟩ := k2; exact DataW.trod_lt m _ _ _ hm
  obtain ⟨a, n, rfl, hn⟩ := open_num (hval 0 25 v0 rfl rfl) h0
  obtain ⟨b, m, rfl, hm⟩ := open_num (hval 1 25 v1 rfl rfl) h1
  obtain ⟨c, z, rfl, hz⟩ := open_num (hval 2 25 v2 rfl rfl) h2
  clear hA0
  refine (Q.spillwaylaw2_FixOrder.calls 1100 a n b m c z true W hG (pure a n b m c z hn hm hz) rfl).mono fun e W' ⟨he, bel⟩ => ?_
  subst he
  exact ⟨_, rfl, _, _, _, [], _, [], hW', trodAll_mk1 (shut_bool Tryd.underlying4 _), (trodAll_cons_mk (Below.trod laidOut (by kernel_rfl) (of_decide_eq_true (by kernel_rfl)) k0 bel lt0) (trodAll_cons_mk (Below.trod laidOut (by kernel_rfl) (of_decide_eq_true (by kernel_rfl)) k1 bel lt1) (trodAll_cons_mk (Below.trod laidOut (by kernel_rfl) (of_decide_eq_true (by kernel_rfl)) k2 bel lt2) trodAll_mk0))), rfl, bel.frame _, fun h => by cases h⟩

theorem reads (os : Os) {H : Type} (enc : TypeId × Value → H) : ∃ places, DataW.whole enc Tryd.prog ((laidWorld os).forCall (fun _ _ => 0) ⟨#[], #[.agg #[.bool false, .int .i64 0], .agg #[.bool false, .int .i64 0], .agg #[.bool false, .int .i64 0]], []⟩).memory Tryd.f5.params.toList Rows.fixOrderSpec.vars false #[Value.agg #[.bool false, .int .i64 0], Value.agg #[.bool false, .int .i64 0], Value.agg #[.bool false, .int .i64 0]].toList 8 = some ([.agg [.lit (.bool false), .lit (.int .i64 0)], .agg [.lit (.bool false), .lit (.int .i64 0)], .agg [.lit (.bool false), .lit (.int .i64 0)]], [], places) :=
  ⟨[], by kernel_rfl⟩
set_option maxRecDepth 100000 in
theorem lifted (os : Os) (started : os.Started) (H : Type) (enc : TypeId × Value → H) (F : Stop.Interp) :
    ReturnsInHanded {} Tryd.checked os 5 .any ((OpenSpec.ofChange Rows.fixOrderSpec).preRow enc Tryd.prog Tryd.f5 Rows.fixOrderRow.domain false Rows.fixOrderRow.laid) (((OpenSpec.ofChange Rows.fixOrderSpec).at F).post enc Tryd.prog Tryd.f5 false true false false) := by
  obtain ⟨places, hx⟩ := reads os enc
  refine returnsInHanded_of_row (C := Tryd.checked) (s := OpenSpec.ofChange Rows.fixOrderSpec) own started (by kernel_rfl) Tryd.func5
    (witness_row_atRef (enc := enc) (C := Tryd.checked) false (laidWorld os) #[.agg #[.bool false, .int .i64 0], .agg #[.bool false, .int .i64 0], .agg #[.bool false, .int .i64 0]] rfl (by kernel_rfl) (by kernel_rfl) (by kernel_rfl)
      (OpenSpec.preRow_of_cond 8 hx (by kernel_rfl) (fun k hk => by cases hk) (by kernel_rfl) (laid_met os _))) ?_
  intro W base args ds gs before hval hW _ _ _ hL hS _
  exact contract H enc W base args ds gs before hval hW (laidW hL hS)
theorem said : Rows.FixOrderSaid :=
  OpenClaim.holds_of_cond 5 Tryd.f5 rfl rfl rfl rfl rfl rfl rfl ⟨rfl, rfl, rfl, rfl, rfl⟩ rfl rfl rfl rfl rfl (by kernel_rfl) Tryd.func5 (by kernel_rfl)
    (of_decide_eq_true (by kernel_rfl)) (by unfold Func.isWrapper; first | (rw [if_pos (by decide +kernel)]; kernel_rfl) | (rw [if_neg (by decide +kernel)]; exact ⟨rfl, rfl⟩))
    (fun os started H enc _ F => by rw [OpenClaim.pre_eq_preRow]; exact lifted os started H enc F)
theorem plain (f : FuncId) (fn : Func) (hf : Tryd.pinned.checked.prog.funcNamed "spillway/spillwaylaw2.FixOrder" = some f) (hfn : Tryd.pinned.checked.prog.funcs[f]? = some fn) :
    true = Tryd.pinned.checked.prog.looks [] ∧ ∀ (j : Nat) t, fn.params[j]? = some t → Tryd.pinned.checked.prog.wantsStandIn t = false := by
  obtain rfl : f = 5 := Option.some.inj ((show Tryd.prog.funcNamed "spillway/spillwaylaw2.FixOrder" = some 5 by kernel_rfl).symm.trans hf) |>.symm
  obtain rfl : fn = Tryd.f5 := (Option.some.inj (Tryd.func5.symm.trans hfn)).symm
  refine ⟨by kernel_rfl, fun j t ht => ?_⟩
  rw [Tryd.params5] at ht
  obtain rfl : t = 25 := by simpa using Array.mem_of_getElem? ht
  exact (show Tryd.prog.wantsStandIn 25 = false by kernel_rfl)
theorem card : Rows.FixOrderCardSaid :=
  Claim7.holds_tied_plain_at .later [] _ _ _ _ said (fun _ h => by cases h) (by kernel_rfl) (fun _ h => by cases h) fixOrder_row_tie rfl ⟨rfl, rfl⟩ (by kernel_rfl) rfl plain (by kernel_rfl)
#print axioms card
end Go.Proofs.YtjaolddgnijgiaaDoor.fixOrder
namespace Go.Proofs.YtjaolddgnijgiaaDoor
/-- The card, under a short name, for the claim. -/
theorem fixOrderCard_holds : Rows.FixOrderCardSaid := fixOrder.card
end Go.Proofs.YtjaolddgnijgiaaDoor
