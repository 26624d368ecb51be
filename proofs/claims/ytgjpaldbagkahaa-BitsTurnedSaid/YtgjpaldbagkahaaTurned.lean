import Derived.Test.YtgjpaldbagkahaaPrint4
import Derived.Test.YtgjpaldbagkahaaExt2
import Derived.Test.YtgjpaldbagkahaaPureC
import Derived.ChangeKeysEq
namespace Go.Proofs.Ytgjpaldbagkahaa.Print
open Go.RowKit Go.Proofs.YtgjpaldbagkahaaX Go.Proofs.YtgjpaldbagkahaaW.PrintWords Go.Proofs.YtgjpaldbagkahaaW.PrintLast Go.Proofs.YtgjpaldbagkahaaW.PrintMore
attribute [local go_sem] max2_int min2_int max_two min_two max_three min_three max_four min_four
set_option linter.unusedVariables false
set_option linter.unusedSimpArgs false
theorem under38 : Try.prog.underlying 38 = some (.array 4 5) := by kernel_rfl
theorem plain5 : Try.prog.plainKey 5 = true := by kernel_rfl
theorem cells5 : Try.prog.cellsOf 5 = 1 := by kernel_rfl
theorem eq4 (w : World) (b0 b1 b2 b3 : Int) : (Op.equalIn 10000 38 (.agg #[.int .u8 b0, .int .u8 b1, .int .u8 b2, .int .u8 b3]) (.agg #[.int .u8 0, .int .u8 0, .int .u8 0, .int .u8 0])).run Try.prog w = .ok (decide (b0 = 0 ∧ b1 = 0 ∧ b2 = 0 ∧ b3 = 0)) w := by
  obtain ⟨i, hi, _⟩ := Option.map_eq_some_iff.1 info5
  rw [show (10000 : Nat) = 9998 + 1 + 1 from rfl, run_equalIn_array w (9998 + 1) _ _ under38 hi, cells5, show List.range 4 = [0, 1, 2, 3] from rfl]
  have pa : ∀ (xs : Array Value) (off : Nat) (a : Value), xs[off]? = some a → (part 5 xs off).run Try.prog w = .ok a w := fun xs off a h => run_part_plain w plain5 h
  have eqi : ∀ x y : Int, (Op.equalIn (9998 + 1) 5 (.int .u8 x) (.int .u8 y)).run Try.prog w = .ok (x == y) w := fun x y => run_equalIn_int w 9998 5 .u8 .u8 x y Try.underlying5
  have step : ∀ (xs ys : Array Value) (i : Nat) (is : List Nat) (x y : Int), xs[i * 1]? = some (.int .u8 x) → ys[i * 1]? = some (.int .u8 y) → (Op.eqItems (9998 + 1) 5 1 xs ys (i :: is)).run Try.prog w = if x = y then (Op.eqItems (9998 + 1) 5 1 xs ys is).run Try.prog w else .ok false w := by
    intro xs ys i is x y hx hy
    simp only [Op.eqItems, Sem.run_bind, pa _ _ _ hx, pa _ _ _ hy, Result.andThen_ok, eqi]
    by_cases c : x = y
    · rw [if_pos c]
      simp [c]
    · rw [if_neg c]
      simp [c]
  rw [step _ _ 0 _ b0 0 rfl rfl, step _ _ 1 _ b1 0 rfl rfl, step _ _ 2 _ b2 0 rfl rfl, step _ _ 3 _ b3 0 rfl rfl]
  by_cases c0 : b0 = 0 <;> by_cases c1 : b1 = 0 <;> by_cases c2 : b2 = 0 <;> by_cases c3 : b3 = 0 <;> simp [c0, c1, c2, c3, Op.eqItems]
def turn1 (l : List Int) (k : Int) (bs : List Int) (i : Int) : List Int := l.set (k + i).toNat (Go.bits .xor .u8 (rd l (k + i)) (rd bs i))
def turnN (l : List Int) (k : Int) (bs : List Int) : Nat → List Int
  | 0 => l
  | n + 1 => turn1 (turnN l k bs n) k bs n
theorem turnN_len (l : List Int) (k : Int) (bs : List Int) : ∀ n, (turnN l k bs n).length = l.length
  | 0 => rfl
  | n + 1 => by
    unfold turnN turn1
    rw [List.length_set]
    exact turnN_len l k bs n
theorem cell4 {w' : World} {g : Nat} {b0 b1 b2 b3 : Int} {t : TypeId} (h : w'.heap[g]? = some (.cells #[.int .u8 b0, .int .u8 b1, .int .u8 b2, .int .u8 b3] t (0, 0))) (i : Nat) (hi : i < 4) :
    w'.cell? ⟨g, i, none⟩ = some (.int .u8 (rd [b0, b1, b2, b3] i)) := by
  unfold World.cell?
  rw [h]
  match i, hi with
  | 0, _ => rfl
  | 1, _ => rfl
  | 2, _ => rfl
  | 3, _ => rfl
theorem sum_callsN (k : Nat) (A0 : Option Addr) (c0 n : Nat) (l : List Int) (r : Int) (w : World) (hn : l.length = n) (hr0 : Kd.C (Kd.int .u8) w A0 n l) (hc0 : n ≤ c0) (h : bits_Sum.f k l = some r) :
    Calls Try.prog 12 #[.slice A0 n c0] w fun e w' => e = .returned (.int .u32 r) ∧ Drawn0 w w' := by
  subst hn
  exact bits_Sum.calls k A0 c0 l r w hr0 hc0 h
theorem heap_drawn {w w' : World} (h : Drawn0 w w') : w'.heap = w.heap := by
  obtain ⟨n, rfl⟩ := h
  rfl
theorem R_drawn {α : Type} {d : Kd α} {e base : Nat} {ok : Nat → Prop} {v : Value} {xs : List α} {w w' : World} (h : d.R e w base ok v xs) (hd : Drawn0 w w') : d.R e w' base ok v xs := by
  obtain ⟨n, rfl⟩ := hd
  exact Kd.R_drewN h n
set_option maxRecDepth 100000 in
theorem spillwaylaw1_BitsTurned.calls (A0 : Option Addr) (c0 : Nat) (l0 : List Int) (a1 : Int) (b0 b1 b2 b3 : Int) (sum : List Int → Int) (w : World) (hr0 : Kd.C (Kd.int .u8) w A0 l0.length l0) (hc0 : l0.length ≤ c0)
    (h1 : 0 ≤ a1) (h2 : a1 ≤ 65535)
    (hsum : ∀ y : List Int, y.length ≤ 300 → bits_Sum.f 4000 y = some (sum y))
    (hres : ∀ k : Int, 0 ≤ k → k + 4 ≤ l0.length → ((sum l0 == sum (turnN l0 k [b0, b1, b2, b3] 4)) == (decide (b0 = 0) && (decide (b1 = 0) && (decide (b2 = 0) && decide (b3 = 0))))) = true) :
    Calls Try.prog 5 #[.slice A0 l0.length c0, .int .u16 a1, .agg #[.int .u8 b0, .int .u8 b1, .int .u8 b2, .int .u8 b3]] w fun e w' => e = .returned (.bool true) ∧ Below w.heap.size w w' := by
  have HR0 := Aside0.mk hr0
  have HC0 := Aside0.mk hc0
  clear hr0 hc0
  have HB := Aside0.mk (Below.refl w.heap.size w)
  go_enter Try.func5, Try.ntmps5
  go_wp2_with (fail)
  refine (spillwaylaw1_known.calls true _ rfl).mono ?_
  rintro e w1 ⟨rfl, hb⟩
  have n0 := Aside0.mk (below_step (by repeat (first | (with_reducible first | exact HB.out | apply below_alloc | apply pw_below_drewN | apply below_drew1) | exact HB.out)) hb)
  have HG : Aside0 (w1.heap[w.heap.size]? = some (.cells #[.int .u8 b0, .int .u8 b1, .int .u8 b2, .int .u8 b3] 38 (0, 0))) := ⟨by
    rw [hb.block _ (by show _ < (w.heap.push _).size; simp)]
    show (w.heap.push _)[_]? = _
    simp⟩
  have HGL : Aside0 (w.heap.size < w1.heap.size) := ⟨Nat.lt_of_lt_of_le (by show _ < (w.heap.push _).size; simp) hb.size⟩
  clear hb HB
  have HB1 := n0
  clear n0
  have HR1 := Aside0.mk (Kd.C_below HR0.out HB1.out)
  clear HR0
  have HB := Aside0.mk (Below.refl w1.heap.size w1)
  by_cases cl : 4 ≤ (l0.length : Int) ∧ (l0.length : Int) ≤ 300
  case neg =>
    by_cases c4 : (l0.length : Int) < 4
    · have d4 : decide ((l0.length : Int) < 4) = true := decide_eq_true c4
      go_wp2
      go_ret
      exact ⟨rfl, HB1.out⟩
    · have d4 : decide ((l0.length : Int) < 4) = false := decide_eq_false c4
      have d5 : decide (300 < (l0.length : Int)) = true := decide_eq_true (by omega)
      go_wp2
      go_ret
      exact ⟨rfl, HB1.out⟩
  obtain ⟨cl4, cl300⟩ := cl
  have d4 : decide ((l0.length : Int) < 4) = false := decide_eq_false (by omega)
  have d5 : decide (300 < (l0.length : Int)) = false := decide_eq_false (by omega)
  have CL4 := Aside0.mk cl4
  have CL300 := Aside0.mk cl300
  obtain ⟨K, hK⟩ : ∃ K : Int, Int.tmod a1 ((l0.length : Int) - 3) = K := ⟨_, rfl⟩
  have hK0 : Aside0 (0 ≤ K ∧ K + 4 ≤ (l0.length : Int)) := ⟨by
    have z1 := Int.tmod_nonneg ((l0.length : Int) - 3) h1
    have z2 := Int.tmod_lt_of_pos a1 (show 0 < (l0.length : Int) - 3 by omega)
    rw [hK] at z1 z2
    omega⟩
  have e1 : wrap64 ((l0.length : Int) - 3) = (l0.length : Int) - 3 := Pure.wrap_id (by omega) (by omega)
  have e2 : wrap64 a1 = a1 := Pure.wrap_id (by omega) (by omega)
  have e3 : wrap64 K = K := Pure.wrap_id (by have := hK0.out; omega) (by have := hK0.out; omega)
  have e4 : (l0.length : Int) - 3 ≠ 0 := by omega
  clear cl4 cl300
  go_wp2_with (first | ((with_reducible refine gate_builtin (b := .append) (xs := #[.const (.slice none 0 0), .tmp 26]) rfl ?_); (try (refine gate_guard (by rfl) ?_; dsimp only)); at_builtin; refine Kd.R_append_rows (Kd.int .u8) (w0 := w1) w1.heap.size rfl (.const (.slice none 0 0)) (.tmp 26) 22 5 (.int .u8 0) 1 rfl Try.underlying22 info5 rfl (by decide) (by omega) (.slice none 0 0) ([] : List Int) l0 _ _ _ (fun _ => True) (fun _ => False) rfl rfl ?aO ?aR (fun _ _ h => h) (fun _ h => h.elim) ?aF ?aB ?aS ?aL ?_; (case aR => exact HR1.out); (case aB => exact HB.out); (case aF => exact (fun _ _ => trivial)); (case aO => exact ((Kd.R_nil _ _ _ _ (fun _ => True)))); (case aS => exact (Nat.le_refl _)); (case aL => have := CL300.out; simp only [List.length_nil]; omega); intro v228 w24 ho hb hg hat; rw [List.nil_append] at ho; have n0_ := Aside0.mk (hb); have n1_ := Aside0.mk (ho); clear HB; have HB := n0_; have HO8 := n1_; clear n0_ n1_; clear ho hb hg hat))
  obtain ⟨g8, c8, e8, hg8, _, _⟩ := Kd.R_form HO8.out (by have := CL4.out; omega)
  subst e8
  clear d4 d5 e1 e2 e4 hK e3
  go_loopg [9] 4 (fun kq v9 w' => ∃ i : Nat, v9 = .int .i64 (i : Int) ∧ Aside0 (i + kq = 4) ∧ Aside0 ((Kd.int .u8).R 5 w' w1.heap.size (fun _ => True) (.slice (some ⟨g8, 0, none⟩) l0.length c8) (turnN l0 K [b0, b1, b2, b3] i)) ∧ Aside0 (Below w1.heap.size w1 w'))
  case atStart => exact ⟨0, rfl, ⟨rfl⟩, HO8, HB⟩
  case round =>
    obtain ⟨i, rfl, HI, HO, HB⟩ := hrel
    cases gk with
    | succ k1 =>
      have hi := HI.out
      have hk := hK0.out
      have hl3 := CL300.out
      have z0 : i < 4 := by omega
      have z1 : 0 ≤ K + (i : Int) := by omega
      have z2 : K + (i : Int) < (l0.length : Int) := by omega
      have z3 : 0 ≤ (i : Int) := by omega
      have z4 : (i : Int) < 4 := by omega
      have z5 : K + (i : Int) ≤ 9223372036854775807 := by omega
      have z6 : (i : Int) + 1 ≤ 9223372036854775807 := by omega
      have z7 : -9223372036854775808 ≤ K + (i : Int) := by omega
      have z8 : -9223372036854775808 ≤ (i : Int) + 1 := by omega
      have c4 : decide ((i : Int) < 4) = true := decide_eq_true z4
      have hx5 := cell4 ((HB.out.block _ HGL.out).trans HG.out) i z0
      obtain ⟨hx8, hf8⟩ := Kd.R_celln (0 : Int) HO.out (K + (i : Int)) z1 z2
      have p1 : (0 ≤ K + (i : Int)) = True := eq_true z1
      have q1 : (K + (i : Int) < (l0.length : Int)) = True := eq_true z2
      have p2 : (0 ≤ (i : Int)) = True := eq_true z3
      have q2 : ((i : Int) < 4) = True := eq_true z4
      have e5 : wrap64 (K + (i : Int)) = K + (i : Int) := Pure.wrap_id z7 z5
      have e6 : wrap64 ((i : Int) + 1) = (i : Int) + 1 := Pure.wrap_id z8 z6
      clear z0 z1 z2 z3 z4 z5 z6 z7 z8
      clear hi hk hl3
      go_wp2_with (fail)
      have hf9 : wr.drew.frozen? ⟨g8, (K + (i : Int)).toNat, none⟩ = false := hf8
      have HOd := Kd.R_drew HO.out
      have HP := Kd.R_putn HOd (K + (i : Int)) (Go.bits .xor .u8 (rdOf 0 (turnN l0 K [b0, b1, b2, b3] i) (K + (i : Int))) (rd [b0, b1, b2, b3] (i : Int)))
      have HQ : Aside0 ((Kd.int .u8).R 5 (wr.drew.setCell ⟨g8, (K + (i : Int)).toNat, none⟩ (.int .u8 (Go.bits .xor .u8 (rdOf 0 (turnN l0 K [b0, b1, b2, b3] i) (K + (i : Int))) (rd [b0, b1, b2, b3] (i : Int))))) w1.heap.size (fun _ => True) (.slice (some ⟨g8, 0, none⟩) l0.length c8) (turnN l0 K [b0, b1, b2, b3] (i + 1))) := ⟨HP⟩
      have HBd : Aside0 (Below w1.heap.size w1 (wr.drew.setCell ⟨g8, (K + (i : Int)).toNat, none⟩ (.int .u8 (Go.bits .xor .u8 (rdOf 0 (turnN l0 K [b0, b1, b2, b3] i) (K + (i : Int))) (rd [b0, b1, b2, b3] (i : Int)))))) := ⟨below_set (below_drew1 HB.out) hg8⟩
      clear HP HOd
      refine start_ (n := 12) (S := fun w' => w'.cell? ⟨g8, (K + (i : Int)).toNat, none⟩ = some (.int .u8 (rdOf 0 (turnN l0 K [b0, b1, b2, b3] i) (K + (i : Int)))) ∧ w'.cell? ⟨w.heap.size, i, none⟩ = some (.int .u8 (rd [b0, b1, b2, b3] (i : Int)))) (ds := [11]) #[false, false, false, false, false, false, false, false, false, false, false, false] (by kernel_rfl) rfl rfl (⟨hx8, hx5⟩) (fun hHeld => ?_)
      refine pure_ (i := 0) (N := some 32) (v := ?_) (a' := ?_) #[true, false, false, false, false, false, false, false, false, false, false, false] rfl rfl (by kernel_rfl) (fun _ _ _ h => h) (Or.inl ⟨by rfl, ?_⟩) ?_ ?_
      rotate_left
      · intro w'
        go_simp
        with_reducible rfl
      rotate_left
      · simp only [Act.put, List.setIfInBounds_toArray, List.set_cons_zero, List.set_cons_succ, i64_w, i32_w]
        rfl
      refine pure_ (i := 1) (N := some 33) (v := ?_) (a' := ?_) #[true, true, false, false, false, false, false, false, false, false, false, false] rfl rfl (by kernel_rfl) (fun _ _ _ h => h) (Or.inl ⟨by rfl, ?_⟩) ?_ ?_
      rotate_left
      · intro w'
        go_simp
        with_reducible rfl
      rotate_left
      · simp only [Act.put, List.setIfInBounds_toArray, List.set_cons_zero, List.set_cons_succ, i64_w, i32_w]
        rfl
      refine pure_ (i := 2) (N := some 34) (v := ?_) (a' := ?_) #[true, true, true, false, false, false, false, false, false, false, false, false] rfl rfl (by kernel_rfl) (fun _ _ _ h => h) (Or.inl ⟨by rfl, ?_⟩) ?_ ?_
      rotate_left
      · intro w'
        go_simp
        with_reducible rfl
      rotate_left
      · simp only [Act.put, List.setIfInBounds_toArray, List.set_cons_zero, List.set_cons_succ, i64_w, i32_w]
        rfl
      refine pure_ (i := 3) (N := some 35) (v := ?_) (a' := ?_) #[true, true, true, true, false, false, false, false, false, false, false, false] rfl rfl (by kernel_rfl) (fun _ _ _ h => h) (Or.inl ⟨by rfl, ?_⟩) ?_ ?_
      rotate_left
      · intro w'
        go_simp
        with_reducible rfl
      rotate_left
      · simp only [Act.put, List.setIfInBounds_toArray, List.set_cons_zero, List.set_cons_succ, i64_w, i32_w]
        rfl
      refine pure_ (i := 4) (N := some 36) (v := ?_) (a' := ?_) #[true, true, true, true, true, false, false, false, false, false, false, false] rfl rfl (by kernel_rfl) (fun _ _ _ h => h) (Or.inl ⟨by rfl, ?_⟩) ?_ ?_
      rotate_left
      · intro w'
        go_simp
        with_reducible rfl
      rotate_left
      · simp only [Act.put, List.setIfInBounds_toArray, List.set_cons_zero, List.set_cons_succ, i64_w, i32_w]
        rfl
      refine take_ (i := 5) (N := some 37) (v := ?_) (a' := ?_) #[true, true, true, true, true, true, false, false, false, false, false, false] rfl rfl (by kernel_rfl) (fun _ _ _ h => h) (Or.inl ⟨by rfl, ?_⟩) hHeld ?_ ?_
      rotate_left
      · intro w' s0
        obtain ⟨s1, s2⟩ := s0
        go_simp
        with_reducible rfl
      rotate_left
      · simp only [Act.put, List.setIfInBounds_toArray, List.set_cons_zero, List.set_cons_succ, i64_w, i32_w]
        rfl
      refine pure_ (i := 6) (N := some 38) (v := ?_) (a' := ?_) #[true, true, true, true, true, true, true, false, false, false, false, false] rfl rfl (by kernel_rfl) (fun _ _ _ h => h) (Or.inl ⟨by rfl, ?_⟩) ?_ ?_
      rotate_left
      · intro w'
        go_simp
        with_reducible rfl
      rotate_left
      · simp only [Act.put, List.setIfInBounds_toArray, List.set_cons_zero, List.set_cons_succ, i64_w, i32_w]
        rfl
      refine pure_ (i := 7) (N := some 39) (v := ?_) (a' := ?_) #[true, true, true, true, true, true, true, true, false, false, false, false] rfl rfl (by kernel_rfl) (fun _ _ _ h => h) (Or.inl ⟨by rfl, ?_⟩) ?_ ?_
      rotate_left
      · intro w'
        go_simp
        with_reducible rfl
      rotate_left
      · simp only [Act.put, List.setIfInBounds_toArray, List.set_cons_zero, List.set_cons_succ, i64_w, i32_w]
        rfl
      refine take_ (i := 8) (N := some 40) (v := ?_) (a' := ?_) #[true, true, true, true, true, true, true, true, true, false, false, false] rfl rfl (by kernel_rfl) (fun _ _ _ h => h) (Or.inl ⟨by rfl, ?_⟩) hHeld ?_ ?_
      rotate_left
      · intro w' s0
        obtain ⟨s1, s2⟩ := s0
        go_simp
        with_reducible rfl
      rotate_left
      · simp only [Act.put, List.setIfInBounds_toArray, List.set_cons_zero, List.set_cons_succ, i64_w, i32_w]
        rfl
      refine pure_ (i := 9) (N := some 41) (v := ?_) (a' := ?_) #[true, true, true, true, true, true, true, true, true, true, false, false] rfl rfl (by kernel_rfl) (fun _ _ _ h => h) (Or.inl ⟨by rfl, ?_⟩) ?_ ?_
      rotate_left
      · intro w'
        go_simp
        with_reducible rfl
      rotate_left
      · simp only [Act.put, List.setIfInBounds_toArray, List.set_cons_zero, List.set_cons_succ, i64_w, i32_w]
        rfl
      refine pure_ (i := 10) (N := some 42) (v := ?_) (a' := ?_) #[true, true, true, true, true, true, true, true, true, true, true, false] rfl rfl (by kernel_rfl) (fun _ _ _ h => h) (Or.inl ⟨by rfl, ?_⟩) ?_ ?_
      rotate_left
      · intro w'
        go_simp
        with_reducible rfl
      rotate_left
      · simp only [Act.put, List.setIfInBounds_toArray, List.set_cons_zero, List.set_cons_succ, i64_w, i32_w]
        rfl
      refine last_ (i := 11) (N := none) #[true, true, true, true, true, true, true, true, true, true, true, true] rfl rfl (by kernel_rfl) (by decide) (fun Kz hKz => ?_)
      refine skip_ (w1 := wr.drew.setCell ⟨g8, (K + (i : Int)).toNat, none⟩ (.int .u8 (Go.bits .xor .u8 (rdOf 0 (turnN l0 K [b0, b1, b2, b3] i) (K + (i : Int))) (rd [b0, b1, b2, b3] (i : Int))))) rfl rfl ?hrun ?_
      case hrun =>
        obtain ⟨s1, s2⟩ := hHeld
        first | (go_simp; done) | (go_simp; rfl)
      refine hKz.out _ _ ?_
      clear hKz Kz
      refine done_ (by kernel_rfl) ?_
      go_wp2
      go_roundg k1
      case measure => omega
      case rel => exact ⟨i + 1, (by first | rfl | (simp; exact e6) | (simp [e6])), ⟨by have := HI.out; omega⟩, HQ, HBd⟩
    | zero =>
      have hi := HI.out
      obtain rfl : i = 4 := by omega
      clear hi
      have c4 : decide (((4 : Nat) : Int) < 4) = false := by decide
      have HGr := Aside0.mk ((HB.out.block _ HGL.out).trans HG.out)
      have HL := Aside0.mk (turnN_len l0 K [b0, b1, b2, b3] 4)
      go_wp2_with (fail)
      have HOd := Aside0.mk (Kd.R_drew HO.out)
      have HBd := Aside0.mk (below_drew1 HB.out)
      have HRd := Aside0.mk (Kd.C_below HR1.out HBd.out)
      refine start_ (n := 10) (S := fun w' => w'.heap[w.heap.size]? = some (.cells #[.int .u8 b0, .int .u8 b1, .int .u8 b2, .int .u8 b3] 38 (0, 0))) (ds := []) #[false, false, false, false, false, false, false, false, false, false] (by kernel_rfl) rfl rfl (HGr.out) (fun hHeld => ?_)
      refine pure_ (i := 0) (N := some 43) (v := ?_) (a' := ?_) #[true, false, false, false, false, false, false, false, false, false] rfl rfl (by kernel_rfl) (fun _ _ _ h => h) (Or.inl ⟨by rfl, ?_⟩) ?_ ?_
      rotate_left
      · intro w'
        go_simp
        with_reducible rfl
      rotate_left
      · simp only [Act.put, List.setIfInBounds_toArray, List.set_cons_zero, List.set_cons_succ, i64_w, i32_w]
        rfl
      refine pure_ (i := 2) (N := some 45) (v := ?_) (a' := ?_) #[true, false, true, false, false, false, false, false, false, false] rfl rfl (by kernel_rfl) (fun _ _ _ h => h) (Or.inl ⟨by rfl, ?_⟩) ?_ ?_
      rotate_left
      · intro w'
        go_simp
        with_reducible rfl
      rotate_left
      · simp only [Act.put, List.setIfInBounds_toArray, List.set_cons_zero, List.set_cons_succ, i64_w, i32_w]
        rfl
      refine take_ (i := 5) (N := some 48) (v := ?_) (a' := ?_) #[true, false, true, false, false, true, false, false, false, false] rfl rfl (by kernel_rfl) (fun _ _ _ h => h) (Or.inl ⟨by rfl, ?_⟩) hHeld ?_ ?_
      rotate_left
      · intro w' s0
        have q0 : w'.cell? ⟨w.heap.size, 0, none⟩ = some (.int .u8 b0) := cell4 s0 0 (by decide)
        have q1 : w'.cell? ⟨w.heap.size, 1, none⟩ = some (.int .u8 b1) := cell4 s0 1 (by decide)
        have q2 : w'.cell? ⟨w.heap.size, 2, none⟩ = some (.int .u8 b2) := cell4 s0 2 (by decide)
        have q3 : w'.cell? ⟨w.heap.size, 3, none⟩ = some (.int .u8 b3) := cell4 s0 3 (by decide)
        go_simp
        with_reducible rfl
      rotate_left
      · simp only [Act.put, List.setIfInBounds_toArray, List.set_cons_zero, List.set_cons_succ, i64_w, i32_w]
        rfl
      refine pure_ (i := 6) (N := some 49) (v := ?_) (a' := ?_) #[true, false, true, false, false, true, true, false, false, false] rfl rfl (by kernel_rfl) (fun _ _ _ h => h) (Or.inl ⟨by rfl, ?_⟩) ?_ ?_
      rotate_left
      · intro w'
        go_simp
        with_reducible rfl
      rotate_left
      · simp only [Act.put, List.setIfInBounds_toArray, List.set_cons_zero, List.set_cons_succ, i64_w, i32_w]
        rfl
      refine pure_ (i := 7) (N := some 50) (v := ?_) (a' := ?_) #[true, false, true, false, false, true, true, true, false, false] rfl rfl (by kernel_rfl) (fun _ _ _ h => h) (Or.inl ⟨by rfl, ?_⟩) ?_ ?_
      rotate_left
      · intro w'
        have q0 := eq4 w' b0 b1 b2 b3
        go_simp
        with_reducible rfl
      rotate_left
      · simp only [Act.put, List.setIfInBounds_toArray, List.set_cons_zero, List.set_cons_succ, i64_w, i32_w]
        rfl
      refine one_ (i := 1) (N := some 44) #[true, true, true, false, false, true, true, true, false, false] rfl rfl (by kernel_rfl) (by decide) (fun Kz hKz => ?_)
      refine goes_ Try.func12 (by kernel_rfl) rfl #[.slice A0 l0.length c0] (by rfl) rfl rfl (by (try simp only [List.map_toArray, List.map_cons, List.map_nil]); first | done | rfl) ?_
      refine (sum_callsN 4000 _ _ _ (l0) (sum (l0)) _ ?side0 ?side1 ?side2 (hsum (l0) ?side3)).mono ?_
      case side0 => exact rfl
      case side1 => exact HRd.out
      case side2 => exact HC0.out
      case side3 => have := CL300.out; omega
      rintro e wq ⟨rfl, hd⟩
      refine ⟨_, rfl, ?_⟩
      have n0 := Aside0.mk (below_step HBd.out (drawn_below hd))
      have n1 := Aside0.mk (R_drawn HOd.out hd)
      have n2 := Aside0.mk (Kd.C_below HRd.out (drawn_below hd))
      have n3 : Aside0 (wq.heap[w.heap.size]? = some (.cells #[.int .u8 b0, .int .u8 b1, .int .u8 b2, .int .u8 b3] 38 (0, 0))) := ⟨(heap_drawn hd).symm ▸ hHeld⟩
      have HBd := n0
      have HOd := n1
      have HRd := n2
      have n4 := n3.out
      refine hKz.out _ _ n4 (fun hHeld => ?_)
      refine norm_ (a' := ?_) ?_ ?_
      rotate_left
      · show Act.put _ (some 44) _ = _
        simp only [Act.put, List.setIfInBounds_toArray, List.set_cons_zero, List.set_cons_succ, i64_w, i32_w]
        rfl
      refine one_ (i := 3) (N := some 46) #[true, true, true, true, false, true, true, true, false, false] rfl rfl (by kernel_rfl) (by decide) (fun Kz hKz => ?_)
      refine goes_ Try.func12 (by kernel_rfl) rfl #[.slice (some ⟨g8, 0, none⟩) l0.length c8] (by rfl) rfl rfl (by (try simp only [List.map_toArray, List.map_cons, List.map_nil]); first | done | rfl) ?_
      refine (sum_callsN 4000 _ _ _ (turnN l0 K [b0, b1, b2, b3] 4) (sum (turnN l0 K [b0, b1, b2, b3] 4)) _ ?side0 ?side1 ?side2 (hsum (turnN l0 K [b0, b1, b2, b3] 4) ?side3)).mono ?_
      case side0 => exact HL.out
      case side1 => exact (by have z := (Kd.R_reads' HOd.out).2.2; rw [HL.out] at z; exact z)
      case side2 => exact (Kd.R_reads' HOd.out).2.1
      case side3 => have := CL300.out; have := HL.out; omega
      rintro e wq ⟨rfl, hd⟩
      refine ⟨_, rfl, ?_⟩
      have n0 := Aside0.mk (below_step HBd.out (drawn_below hd))
      have n1 := Aside0.mk (R_drawn HOd.out hd)
      have n2 := Aside0.mk (Kd.C_below HRd.out (drawn_below hd))
      have n3 : Aside0 (wq.heap[w.heap.size]? = some (.cells #[.int .u8 b0, .int .u8 b1, .int .u8 b2, .int .u8 b3] 38 (0, 0))) := ⟨(heap_drawn hd).symm ▸ hHeld⟩
      have HBd := n0
      have HOd := n1
      have HRd := n2
      have n4 := n3.out
      refine hKz.out _ _ n4 (fun hHeld => ?_)
      refine norm_ (a' := ?_) ?_ ?_
      rotate_left
      · show Act.put _ (some 46) _ = _
        simp only [Act.put, List.setIfInBounds_toArray, List.set_cons_zero, List.set_cons_succ, i64_w, i32_w]
        rfl
      refine pure_ (i := 4) (N := some 47) (v := ?_) (a' := ?_) #[true, true, true, true, true, true, true, true, false, false] rfl rfl (by kernel_rfl) (fun _ _ _ h => h) (Or.inl ⟨by rfl, ?_⟩) ?_ ?_
      rotate_left
      · intro w'
        go_simp
        with_reducible rfl
      rotate_left
      · simp only [Act.put, List.setIfInBounds_toArray, List.set_cons_zero, List.set_cons_succ, i64_w, i32_w]
        rfl
      refine pure_ (i := 8) (N := some 51) (v := ?_) (a' := ?_) #[true, true, true, true, true, true, true, true, true, false] rfl rfl (by kernel_rfl) (fun _ _ _ h => h) (Or.inl ⟨by rfl, ?_⟩) ?_ ?_
      rotate_left
      · intro w'
        go_simp
        with_reducible rfl
      rotate_left
      · simp only [Act.put, List.setIfInBounds_toArray, List.set_cons_zero, List.set_cons_succ, i64_w, i32_w]
        rfl
      refine pure_ (i := 9) (N := some 6) (v := ?_) (a' := ?_) #[true, true, true, true, true, true, true, true, true, true] rfl rfl (by kernel_rfl) (fun _ _ _ h => h) (Or.inl ⟨by rfl, ?_⟩) ?_ ?_
      rotate_left
      · intro w'
        go_simp
        with_reducible rfl
      rotate_left
      · simp only [Act.put, List.setIfInBounds_toArray, List.set_cons_zero, List.set_cons_succ, i64_w, i32_w]
        rfl
      refine done_ (by kernel_rfl) ?_
      go_wp2
      go_ret
      refine ⟨?_, below_step HB1.out HBd.out⟩
      show Ending.returned (Value.bool ((sum l0 == sum (turnN l0 K [b0, b1, b2, b3] 4)) == (decide (b0 = 0) && (decide (b1 = 0) && (decide (b2 = 0) && decide (b3 = 0)))))) = _
      rw [hres K hK0.out.1 hK0.out.2]
end Go.Proofs.Ytgjpaldbagkahaa.Print
