/- A part of the proof of LexTells: what the functions that the law reaches come to. -/
import Derived.Test.YtnjobjogddjelaaGreatDoorC01
import Derived.Test.YtnjobjogddjelaaGreatDoorC04
import Derived.Test.YtnjobjogddjelaaGreatDoorC05
set_option linter.unusedVariables false
set_option linter.unusedSimpArgs false
section
namespace Go.Proofs.YtnjobjogddjelaaGreatDoor.Print
open Go.RowKit Go.Proofs.YtnjobjogddjelaaGreatDoorX Go.Proofs.YtnjobjogddjelaaGreatDoorW.PrintWords Go.Proofs.YtnjobjogddjelaaGreatDoorW.PrintLast Go.Proofs.YtnjobjogddjelaaGreatDoorW.PrintMore
attribute [local go_sem] max2_int min2_int max_two min_two max_three min_three max_four min_four

/-! ### spillwaylaw7_known: function 8 -/
def spillwaylaw7_known.f (k : Nat)  : Option (Bool) := (lex_Scan.f k (⟨#[114, 97, 116, 101, 40, 120, 91, 53, 116, 93, 41, 32, 62, 61, 32, 49, 46, 53]⟩ : ByteArray)).bind fun bt226 => ((lex_Scan.f k (⟨#[97, 32, 36]⟩ : ByteArray)).bind fun bt231 => (if bt226.2.2 = 0 then (if bt226.2.1 = 0 then (if (bt226.1.length : Int) = 10 then (if 4 < (bt226.1.length : Int) then (if ((rd_T36 bt226.1 4).f0) = 3 then (if ((rd_T36 bt226.1 4).f4) = 5 then (if 7 < (bt226.1.length : Int) then (if ((rd_T36 bt226.1 7).f2).toList = ([62, 61] : List UInt8) then (if 8 < (bt226.1.length : Int) then (if ((rd_T36 bt226.1 8).f3.f1) = 1500000 then (if 9 < (bt226.1.length : Int) then (if ((rd_T36 bt226.1 9).f0) = 0 then (if bt231.2.2 = 70 then (if bt231.2.1 = 2 then ((lex_Print.f k bt226.1).bind fun t241 => (some (t241.toList == ([114, 97, 116, 101, 32, 40, 32, 120, 32, 91, 32, 53, 116, 32, 93, 32, 41, 32, 62, 61, 32, 49, 46, 53] : List UInt8)))) else (none)) else (none)) else (none)) else (none)) else (none)) else (none)) else (none)) else (none)) else (none)) else (none)) else (none)) else (none)) else (none)) else (none)))
theorem spillwaylaw7_known.mono : ∀ k, LeO (spillwaylaw7_known.f k ) (spillwaylaw7_known.f (k + 1) ) := by
 intro  k
 unfold spillwaylaw7_known.f
 repeat' first
   | (with_reducible exact lex_Print.mono _ _)
   | (with_reducible exact lex_Scan.mono _ _)
   | (with_reducible exact LeO.refl _)
   | (with_reducible exact LeO.none _)
   | (with_reducible refine LeO.ite ?_ ?_)
   | (with_reducible refine LeO.bind ?_ (fun _ => ?_))
   | exact lex_Print.mono _ _
   | exact lex_Scan.mono _ _
   | exact LeO.none _
   | refine LeO.ite ?_ ?_
   | refine LeO.bind ?_ (fun _ => ?_)
set_option maxHeartbeats 8000000 in
set_option maxRecDepth 100000 in
theorem spillwaylaw7_known.calls (k : Nat)  (r : Bool) (w : World) (hg_ : LaidW w) (h : spillwaylaw7_known.f k  = some r) :
  Calls Tryz.prog 8 #[] w fun e w' => e = .returned (.bool r) ∧ Below w.heap.size w w' := by
 have HLW := Aside0.mk hg_
 clear hg_
 have HB := Aside0.mk (Below.refl w.heap.size w)
 have H : ((lex_Scan.f k (⟨#[114, 97, 116, 101, 40, 120, 91, 53, 116, 93, 41, 32, 62, 61, 32, 49, 46, 53]⟩ : ByteArray)).bind fun bt226 => ((lex_Scan.f k (⟨#[97, 32, 36]⟩ : ByteArray)).bind fun bt231 => (if bt226.2.2 = 0 then (if bt226.2.1 = 0 then (if (bt226.1.length : Int) = 10 then (if 4 < (bt226.1.length : Int) then (if ((rd_T36 bt226.1 4).f0) = 3 then (if ((rd_T36 bt226.1 4).f4) = 5 then (if 7 < (bt226.1.length : Int) then (if ((rd_T36 bt226.1 7).f2).toList = ([62, 61] : List UInt8) then (if 8 < (bt226.1.length : Int) then (if ((rd_T36 bt226.1 8).f3.f1) = 1500000 then (if 9 < (bt226.1.length : Int) then (if ((rd_T36 bt226.1 9).f0) = 0 then (if bt231.2.2 = 70 then (if bt231.2.1 = 2 then ((lex_Print.f k bt226.1).bind fun t241 => (some (t241.toList == ([114, 97, 116, 101, 32, 40, 32, 120, 32, 91, 32, 53, 116, 32, 93, 32, 41, 32, 62, 61, 32, 49, 46, 53] : List UInt8)))) else (none)) else (none)) else (none)) else (none)) else (none)) else (none)) else (none)) else (none)) else (none)) else (none)) else (none)) else (none)) else (none)) else (none)))) = some r := h
 clear h
 replace H := Option.bind_eq_some_iff.mp H
 obtain ⟨⟨t226, t227, t228⟩, A10, H⟩ := H
 replace H : ((lex_Scan.f k (⟨#[97, 32, 36]⟩ : ByteArray)).bind fun bt231 => (if t228 = 0 then (if t227 = 0 then (if (t226.length : Int) = 10 then (if 4 < (t226.length : Int) then (if ((rd_T36 t226 4).f0) = 3 then (if ((rd_T36 t226 4).f4) = 5 then (if 7 < (t226.length : Int) then (if ((rd_T36 t226 7).f2).toList = ([62, 61] : List UInt8) then (if 8 < (t226.length : Int) then (if ((rd_T36 t226 8).f3.f1) = 1500000 then (if 9 < (t226.length : Int) then (if ((rd_T36 t226 9).f0) = 0 then (if bt231.2.2 = 70 then (if bt231.2.1 = 2 then ((lex_Print.f k t226).bind fun t241 => (some (t241.toList == ([114, 97, 116, 101, 32, 40, 32, 120, 32, 91, 32, 53, 116, 32, 93, 32, 41, 32, 62, 61, 32, 49, 46, 53] : List UInt8)))) else (none)) else (none)) else (none)) else (none)) else (none)) else (none)) else (none)) else (none)) else (none)) else (none)) else (none)) else (none)) else (none)) else (none))) = some r := H
 have A1 := Aside0.mk A10
 clear A10
 replace H := Option.bind_eq_some_iff.mp H
 obtain ⟨⟨t231, t232, t233⟩, A20, H⟩ := H
 replace H : (if t228 = 0 then (if t227 = 0 then (if (t226.length : Int) = 10 then (if 4 < (t226.length : Int) then (if ((rd_T36 t226 4).f0) = 3 then (if ((rd_T36 t226 4).f4) = 5 then (if 7 < (t226.length : Int) then (if ((rd_T36 t226 7).f2).toList = ([62, 61] : List UInt8) then (if 8 < (t226.length : Int) then (if ((rd_T36 t226 8).f3.f1) = 1500000 then (if 9 < (t226.length : Int) then (if ((rd_T36 t226 9).f0) = 0 then (if t233 = 70 then (if t232 = 2 then ((lex_Print.f k t226).bind fun t241 => (some (t241.toList == ([114, 97, 116, 101, 32, 40, 32, 120, 32, 91, 32, 53, 116, 32, 93, 32, 41, 32, 62, 61, 32, 49, 46, 53] : List UInt8)))) else (none)) else (none)) else (none)) else (none)) else (none)) else (none)) else (none)) else (none)) else (none)) else (none)) else (none)) else (none)) else (none)) else (none)) = some r := H
 have A2 := Aside0.mk A20
 clear A20
 by_cases c3 : t228 = 0
 ·rw [if_pos c3] at H
  have c3b0 : (t228 == 0) = true := beq_iff_eq.mpr c3
  have c3b1 : (t228 != 0) = false := bne_eq_false_iff_eq.mpr c3
  clear c3
  by_cases c4 : t227 = 0
  ·rw [if_pos c4] at H
   have c4b0 : (t227 == 0) = true := beq_iff_eq.mpr c4
   have c4b1 : (t227 != 0) = false := bne_eq_false_iff_eq.mpr c4
   clear c4
   by_cases c5 : (t226.length : Int) = 10
   ·rw [if_pos c5] at H
    have c5b0 : ((t226.length : Int) == 10) = true := beq_iff_eq.mpr c5
    have c5b1 : ((t226.length : Int) != 10) = false := bne_eq_false_iff_eq.mpr c5
    clear c5
    by_cases c6 : 4 < (t226.length : Int)
    ·rw [if_pos c6] at H
     have c6b0 : decide (4 < (t226.length : Int)) = true := decide_eq_true c6
     have c6b1 : decide (4 < t226.length) = true := decide_eq_true (by omega)
     clear c6
     by_cases c7 : ((rd_T36 t226 4).f0) = 3
     ·rw [if_pos c7] at H
      have c7b0 : (((rd_T36 t226 4).f0) == 3) = true := beq_iff_eq.mpr c7
      have c7b1 : (((rd_T36 t226 4).f0) != 3) = false := bne_eq_false_iff_eq.mpr c7
      clear c7
      by_cases c8 : ((rd_T36 t226 4).f4) = 5
      ·rw [if_pos c8] at H
       have c8b0 : (((rd_T36 t226 4).f4) == 5) = true := beq_iff_eq.mpr c8
       have c8b1 : (((rd_T36 t226 4).f4) != 5) = false := bne_eq_false_iff_eq.mpr c8
       clear c8
       by_cases c9 : 7 < (t226.length : Int)
       ·rw [if_pos c9] at H
        have c9b0 : decide (7 < (t226.length : Int)) = true := decide_eq_true c9
        have c9b1 : decide (7 < t226.length) = true := decide_eq_true (by omega)
        clear c9
        by_cases c10 : ((rd_T36 t226 7).f2).toList = ([62, 61] : List UInt8)
        ·rw [if_pos c10] at H
         have c10b0 : (((rd_T36 t226 7).f2).toList == ([62, 61] : List UInt8)) = true := beq_iff_eq.mpr c10
         have c10b1 : (((rd_T36 t226 7).f2).toList != ([62, 61] : List UInt8)) = false := bne_eq_false_iff_eq.mpr c10
         clear c10
         by_cases c11 : 8 < (t226.length : Int)
         ·rw [if_pos c11] at H
          have c11b0 : decide (8 < (t226.length : Int)) = true := decide_eq_true c11
          have c11b1 : decide (8 < t226.length) = true := decide_eq_true (by omega)
          clear c11
          by_cases c12 : ((rd_T36 t226 8).f3.f1) = 1500000
          ·rw [if_pos c12] at H
           have c12b0 : (((rd_T36 t226 8).f3.f1) == 1500000) = true := beq_iff_eq.mpr c12
           have c12b1 : (((rd_T36 t226 8).f3.f1) != 1500000) = false := bne_eq_false_iff_eq.mpr c12
           clear c12
           by_cases c13 : 9 < (t226.length : Int)
           ·rw [if_pos c13] at H
            have c13b0 : decide (9 < (t226.length : Int)) = true := decide_eq_true c13
            have c13b1 : decide (9 < t226.length) = true := decide_eq_true (by omega)
            clear c13
            by_cases c14 : ((rd_T36 t226 9).f0) = 0
            ·rw [if_pos c14] at H
             have c14b0 : (((rd_T36 t226 9).f0) == 0) = true := beq_iff_eq.mpr c14
             have c14b1 : (((rd_T36 t226 9).f0) != 0) = false := bne_eq_false_iff_eq.mpr c14
             clear c14
             by_cases c15 : t233 = 70
             ·rw [if_pos c15] at H
              have c15b0 : (t233 == 70) = true := beq_iff_eq.mpr c15
              have c15b1 : (t233 != 70) = false := bne_eq_false_iff_eq.mpr c15
              clear c15
              by_cases c16 : t232 = 2
              ·rw [if_pos c16] at H
               have c16b0 : (t232 == 2) = true := beq_iff_eq.mpr c16
               have c16b1 : (t232 != 2) = false := bne_eq_false_iff_eq.mpr c16
               clear c16
               replace H := Option.bind_eq_some_iff.mp H
               obtain ⟨t241, A170, H⟩ := H
               replace H : (some (t241.toList == ([114, 97, 116, 101, 32, 40, 32, 120, 32, 91, 32, 53, 116, 32, 93, 32, 41, 32, 62, 61, 32, 49, 46, 53] : List UInt8))) = some r := H
               have A17 := Aside0.mk A170
               clear A170
               obtain rfl := Option.some.inj H
               go_enter Tryz.func8, Tryz.ntmps8
               go_wp2_with (first | ((with_reducible refine gate_callee (f := 9) rfl ?_); refine goesL_ (some 8) rfl rfl Tryz.func9 (by kernel_rfl) rfl #[.string (⟨#[114, 97, 116, 101, 40, 120, 91, 53, 116, 93, 41, 32, 62, 61, 32, 49, 46, 53]⟩ : ByteArray)] rfl (by (try simp only [List.map_toArray, List.map_cons, List.map_nil]); first | done | rfl | (simp only [List.length_drop, List.length_take]; rfl)) ?_; (with_reducible refine (lex_Scan.calls k (⟨#[114, 97, 116, 101, 40, 120, 91, 53, 116, 93, 41, 32, 62, 61, 32, 49, 46, 53]⟩ : ByteArray) t226 t227 t228 _ ?side1 A1.out).mono ?_); (case side1 => exact LaidW.below HLW.out (by repeat (first | (with_reducible first | exact HB.out | apply below_alloc | apply pw_below_drewN | apply below_drew1) | exact HB.out | (refine below_set ?_ (Aside0.out ?hge); (case hge => assumption))))); rintro e w18 ⟨v229, rfl, ho0, hb⟩; refine ⟨_, rfl, ?_⟩; have n0_ := Aside0.mk (Kd.R_lower ho0 (below_size (by repeat (first | (with_reducible first | exact HB.out | apply below_alloc | apply pw_below_drewN | apply below_drew1) | exact HB.out)))); have n1_ := Aside0.mk (below_step (by repeat (first | (with_reducible first | exact HB.out | apply below_alloc | apply pw_below_drewN | apply below_drew1) | exact HB.out)) hb); clear HB; have HO230 := n0_; have HB := n1_; clear n0_ n1_; (try clear hb); (try clear hb2); (try clear hk); (try clear hi); (try clear ho0)) | ((with_reducible refine gate_callee (f := 9) rfl ?_); refine goesL_ (some 13) rfl rfl Tryz.func9 (by kernel_rfl) rfl #[.string (⟨#[97, 32, 36]⟩ : ByteArray)] rfl (by (try simp only [List.map_toArray, List.map_cons, List.map_nil]); first | done | rfl | (simp only [List.length_drop, List.length_take]; rfl)) ?_; (with_reducible refine (lex_Scan.calls k (⟨#[97, 32, 36]⟩ : ByteArray) t231 t232 t233 _ ?side1 A2.out).mono ?_); (case side1 => exact LaidW.below HLW.out (by repeat (first | (with_reducible first | exact HB.out | apply below_alloc | apply pw_below_drewN | apply below_drew1) | exact HB.out | (refine below_set ?_ (Aside0.out ?hge); (case hge => assumption))))); rintro e w19 ⟨v234, rfl, ho0, hb⟩; refine ⟨_, rfl, ?_⟩; have n0_ := Aside0.mk (Kd.R_elder' (by (with_reducible repeat (first | apply Kd.R_alloc | apply Kd.R_drewN | apply Kd.R_drew)); exact HO230.out) (Kd.R_base ho0) hb); have n1_ := Aside0.mk (Kd.R_lower (Kd.R_new' ho0 (Kd.R_lt (by (with_reducible repeat (first | apply Kd.R_alloc | apply Kd.R_drewN | apply Kd.R_drew)); exact HO230.out))) (below_size (by repeat (first | (with_reducible first | exact HB.out | apply below_alloc | apply pw_below_drewN | apply below_drew1) | exact HB.out)))); have n2_ := Aside0.mk (below_step (by repeat (first | (with_reducible first | exact HB.out | apply below_alloc | apply pw_below_drewN | apply below_drew1) | exact HB.out)) hb); clear HO230; clear HB; have HO230 := n0_; have HO235 := n1_; have HB := n2_; clear n0_ n1_ n2_; (try clear hb); (try clear hb2); (try clear hk); (try clear hi); (try clear ho0); obtain ⟨Ao20, co20, eo20⟩ := Kd.R_slice HO230.out; subst eo20; have p236 : 0 ≤ (4 : Int) := (by omega); have q236 : 4 < (t226.length : Int) := of_decide_eq_true (by first | (with_reducible assumption) | assumption); obtain ⟨ad236, e236, hx236_0, hx236_1, hx236_2, hx236_3, hx236_4, hx236_5⟩ := at_T36 (Kd.R_reads' HO230.out).2.2 4 p236 q236; cases e236; (try simp only [show (4 : Int).toNat = 4 from rfl, Nat.reduceMul, Nat.reduceEqDiff, Go.Addr.add, ↓reduceIte] at hx236_0); (try simp only [show (4 : Int).toNat = 4 from rfl, Nat.reduceMul, Nat.reduceEqDiff, Go.Addr.add, ↓reduceIte] at hx236_1); (try simp only [show (4 : Int).toNat = 4 from rfl, Nat.reduceMul, Nat.reduceEqDiff, Go.Addr.add, ↓reduceIte] at hx236_2); (try simp only [show (4 : Int).toNat = 4 from rfl, Nat.reduceMul, Nat.reduceEqDiff, Go.Addr.add, ↓reduceIte] at hx236_3); (try simp only [show (4 : Int).toNat = 4 from rfl, Nat.reduceMul, Nat.reduceEqDiff, Go.Addr.add, ↓reduceIte] at hx236_4); (try simp only [show (4 : Int).toNat = 4 from rfl, Nat.reduceMul, Nat.reduceEqDiff, Go.Addr.add, ↓reduceIte] at hx236_5); have qi236 : (4 < t226.length) = True := eq_true (by omega); (try rw [show ((4 : Int)).toNat = 4 from rfl] at hx236_0); (try rw [show 4 * 6 = 24 from rfl] at hx236_0); (try rw [show ((4 : Int)).toNat = 4 from rfl] at hx236_1); (try rw [show 4 * 6 = 24 from rfl] at hx236_1); (try rw [show ((4 : Int)).toNat = 4 from rfl] at hx236_2); (try rw [show 4 * 6 = 24 from rfl] at hx236_2); (try rw [show ((4 : Int)).toNat = 4 from rfl] at hx236_3); (try rw [show 4 * 6 = 24 from rfl] at hx236_3); (try rw [show ((4 : Int)).toNat = 4 from rfl] at hx236_4); (try rw [show 4 * 6 = 24 from rfl] at hx236_4); (try rw [show ((4 : Int)).toNat = 4 from rfl] at hx236_5); (try rw [show 4 * 6 = 24 from rfl] at hx236_5); replace p236 := eq_true p236; replace q236 := eq_true q236; have p237 : 0 ≤ (4 : Int) := (by omega); have q237 : 4 < (t226.length : Int) := of_decide_eq_true (by first | (with_reducible assumption) | assumption); obtain ⟨ad237, e237, hx237_0, hx237_1, hx237_2, hx237_3, hx237_4, hx237_5⟩ := at_T36 (Kd.R_reads' HO230.out).2.2 4 p237 q237; obtain rfl : ad236 = ad237 := (by injection e237); (try simp only [show (4 : Int).toNat = 4 from rfl, Nat.reduceMul, Nat.reduceEqDiff, Go.Addr.add, ↓reduceIte] at hx237_0); (try simp only [show (4 : Int).toNat = 4 from rfl, Nat.reduceMul, Nat.reduceEqDiff, Go.Addr.add, ↓reduceIte] at hx237_1); (try simp only [show (4 : Int).toNat = 4 from rfl, Nat.reduceMul, Nat.reduceEqDiff, Go.Addr.add, ↓reduceIte] at hx237_2); (try simp only [show (4 : Int).toNat = 4 from rfl, Nat.reduceMul, Nat.reduceEqDiff, Go.Addr.add, ↓reduceIte] at hx237_3); (try simp only [show (4 : Int).toNat = 4 from rfl, Nat.reduceMul, Nat.reduceEqDiff, Go.Addr.add, ↓reduceIte] at hx237_4); (try simp only [show (4 : Int).toNat = 4 from rfl, Nat.reduceMul, Nat.reduceEqDiff, Go.Addr.add, ↓reduceIte] at hx237_5); have qi237 : (4 < t226.length) = True := eq_true (by omega); (try rw [show ((4 : Int)).toNat = 4 from rfl] at hx237_0); (try rw [show 4 * 6 = 24 from rfl] at hx237_0); (try rw [show ((4 : Int)).toNat = 4 from rfl] at hx237_1); (try rw [show 4 * 6 = 24 from rfl] at hx237_1); (try rw [show ((4 : Int)).toNat = 4 from rfl] at hx237_2); (try rw [show 4 * 6 = 24 from rfl] at hx237_2); (try rw [show ((4 : Int)).toNat = 4 from rfl] at hx237_3); (try rw [show 4 * 6 = 24 from rfl] at hx237_3); (try rw [show ((4 : Int)).toNat = 4 from rfl] at hx237_4); (try rw [show 4 * 6 = 24 from rfl] at hx237_4); (try rw [show ((4 : Int)).toNat = 4 from rfl] at hx237_5); (try rw [show 4 * 6 = 24 from rfl] at hx237_5); replace p237 := eq_true p237; replace q237 := eq_true q237; have p238 : 0 ≤ (7 : Int) := (by omega); have q238 : 7 < (t226.length : Int) := of_decide_eq_true (by first | (with_reducible assumption) | assumption); obtain ⟨ad238, e238, hx238_0, hx238_1, hx238_2, hx238_3, hx238_4, hx238_5⟩ := at_T36 (Kd.R_reads' HO230.out).2.2 7 p238 q238; obtain rfl : ad236 = ad238 := (by injection e238); (try simp only [show (7 : Int).toNat = 7 from rfl, Nat.reduceMul, Nat.reduceEqDiff, Go.Addr.add, ↓reduceIte] at hx238_0); (try simp only [show (7 : Int).toNat = 7 from rfl, Nat.reduceMul, Nat.reduceEqDiff, Go.Addr.add, ↓reduceIte] at hx238_1); (try simp only [show (7 : Int).toNat = 7 from rfl, Nat.reduceMul, Nat.reduceEqDiff, Go.Addr.add, ↓reduceIte] at hx238_2); (try simp only [show (7 : Int).toNat = 7 from rfl, Nat.reduceMul, Nat.reduceEqDiff, Go.Addr.add, ↓reduceIte] at hx238_3); (try simp only [show (7 : Int).toNat = 7 from rfl, Nat.reduceMul, Nat.reduceEqDiff, Go.Addr.add, ↓reduceIte] at hx238_4); (try simp only [show (7 : Int).toNat = 7 from rfl, Nat.reduceMul, Nat.reduceEqDiff, Go.Addr.add, ↓reduceIte] at hx238_5); have qi238 : (7 < t226.length) = True := eq_true (by omega); (try rw [show ((7 : Int)).toNat = 7 from rfl] at hx238_0); (try rw [show 7 * 6 = 42 from rfl] at hx238_0); (try rw [show ((7 : Int)).toNat = 7 from rfl] at hx238_1); (try rw [show 7 * 6 = 42 from rfl] at hx238_1); (try rw [show ((7 : Int)).toNat = 7 from rfl] at hx238_2); (try rw [show 7 * 6 = 42 from rfl] at hx238_2); (try rw [show ((7 : Int)).toNat = 7 from rfl] at hx238_3); (try rw [show 7 * 6 = 42 from rfl] at hx238_3); (try rw [show ((7 : Int)).toNat = 7 from rfl] at hx238_4); (try rw [show 7 * 6 = 42 from rfl] at hx238_4); (try rw [show ((7 : Int)).toNat = 7 from rfl] at hx238_5); (try rw [show 7 * 6 = 42 from rfl] at hx238_5); replace p238 := eq_true p238; replace q238 := eq_true q238; have p239 : 0 ≤ (8 : Int) := (by omega); have q239 : 8 < (t226.length : Int) := of_decide_eq_true (by first | (with_reducible assumption) | assumption); obtain ⟨ad239, e239, hx239_0, hx239_1, hx239_2, hx239_3, hx239_4, hx239_5⟩ := at_T36 (Kd.R_reads' HO230.out).2.2 8 p239 q239; obtain rfl : ad236 = ad239 := (by injection e239); (try simp only [show (8 : Int).toNat = 8 from rfl, Nat.reduceMul, Nat.reduceEqDiff, Go.Addr.add, ↓reduceIte] at hx239_0); (try simp only [show (8 : Int).toNat = 8 from rfl, Nat.reduceMul, Nat.reduceEqDiff, Go.Addr.add, ↓reduceIte] at hx239_1); (try simp only [show (8 : Int).toNat = 8 from rfl, Nat.reduceMul, Nat.reduceEqDiff, Go.Addr.add, ↓reduceIte] at hx239_2); (try simp only [show (8 : Int).toNat = 8 from rfl, Nat.reduceMul, Nat.reduceEqDiff, Go.Addr.add, ↓reduceIte] at hx239_3); (try simp only [show (8 : Int).toNat = 8 from rfl, Nat.reduceMul, Nat.reduceEqDiff, Go.Addr.add, ↓reduceIte] at hx239_4); (try simp only [show (8 : Int).toNat = 8 from rfl, Nat.reduceMul, Nat.reduceEqDiff, Go.Addr.add, ↓reduceIte] at hx239_5); have qi239 : (8 < t226.length) = True := eq_true (by omega); (try rw [show ((8 : Int)).toNat = 8 from rfl] at hx239_0); (try rw [show 8 * 6 = 48 from rfl] at hx239_0); (try rw [show ((8 : Int)).toNat = 8 from rfl] at hx239_1); (try rw [show 8 * 6 = 48 from rfl] at hx239_1); (try rw [show ((8 : Int)).toNat = 8 from rfl] at hx239_2); (try rw [show 8 * 6 = 48 from rfl] at hx239_2); (try rw [show ((8 : Int)).toNat = 8 from rfl] at hx239_3); (try rw [show 8 * 6 = 48 from rfl] at hx239_3); (try rw [show ((8 : Int)).toNat = 8 from rfl] at hx239_4); (try rw [show 8 * 6 = 48 from rfl] at hx239_4); (try rw [show ((8 : Int)).toNat = 8 from rfl] at hx239_5); (try rw [show 8 * 6 = 48 from rfl] at hx239_5); replace p239 := eq_true p239; replace q239 := eq_true q239; have p240 : 0 ≤ (9 : Int) := (by omega); have q240 : 9 < (t226.length : Int) := of_decide_eq_true (by first | (with_reducible assumption) | assumption); obtain ⟨ad240, e240, hx240_0, hx240_1, hx240_2, hx240_3, hx240_4, hx240_5⟩ := at_T36 (Kd.R_reads' HO230.out).2.2 9 p240 q240; obtain rfl : ad236 = ad240 := (by injection e240); (try simp only [show (9 : Int).toNat = 9 from rfl, Nat.reduceMul, Nat.reduceEqDiff, Go.Addr.add, ↓reduceIte] at hx240_0); (try simp only [show (9 : Int).toNat = 9 from rfl, Nat.reduceMul, Nat.reduceEqDiff, Go.Addr.add, ↓reduceIte] at hx240_1); (try simp only [show (9 : Int).toNat = 9 from rfl, Nat.reduceMul, Nat.reduceEqDiff, Go.Addr.add, ↓reduceIte] at hx240_2); (try simp only [show (9 : Int).toNat = 9 from rfl, Nat.reduceMul, Nat.reduceEqDiff, Go.Addr.add, ↓reduceIte] at hx240_3); (try simp only [show (9 : Int).toNat = 9 from rfl, Nat.reduceMul, Nat.reduceEqDiff, Go.Addr.add, ↓reduceIte] at hx240_4); (try simp only [show (9 : Int).toNat = 9 from rfl, Nat.reduceMul, Nat.reduceEqDiff, Go.Addr.add, ↓reduceIte] at hx240_5); have qi240 : (9 < t226.length) = True := eq_true (by omega); (try rw [show ((9 : Int)).toNat = 9 from rfl] at hx240_0); (try rw [show 9 * 6 = 54 from rfl] at hx240_0); (try rw [show ((9 : Int)).toNat = 9 from rfl] at hx240_1); (try rw [show 9 * 6 = 54 from rfl] at hx240_1); (try rw [show ((9 : Int)).toNat = 9 from rfl] at hx240_2); (try rw [show 9 * 6 = 54 from rfl] at hx240_2); (try rw [show ((9 : Int)).toNat = 9 from rfl] at hx240_3); (try rw [show 9 * 6 = 54 from rfl] at hx240_3); (try rw [show ((9 : Int)).toNat = 9 from rfl] at hx240_4); (try rw [show 9 * 6 = 54 from rfl] at hx240_4); (try rw [show ((9 : Int)).toNat = 9 from rfl] at hx240_5); (try rw [show 9 * 6 = 54 from rfl] at hx240_5); replace p240 := eq_true p240; replace q240 := eq_true q240) | (go_at_call 12; (with_reducible refine (lex_Print.calls k _ _ t226 t241 _ ?side1 ?side2 ?side3 A17.out).mono ?_); (case side1 => repeat (first | exact (Kd.R_reads' HO230.out).2.2 | (with_reducible refine Kd.C_alloc ?_ _) | (with_reducible refine Kd.C_drewN ?_ _) | (with_reducible refine Kd.C_drew ?_))); (case side2 => exact (Kd.R_reads' HO230.out).2.1); (case side3 => exact LaidW.below HLW.out (by repeat (first | (with_reducible first | exact HB.out | apply below_alloc | apply pw_below_drewN | apply below_drew1) | exact HB.out | (refine below_set ?_ (Aside0.out ?hge); (case hge => assumption))))); rintro e w21 ⟨rfl, hb⟩; have n0_ := Aside0.mk (Kd.R_below (by (with_reducible repeat (first | apply Kd.R_alloc | apply Kd.R_drewN | apply Kd.R_drew)); exact HO230.out) hb); have n1_ := Aside0.mk (Kd.R_below (by (with_reducible repeat (first | apply Kd.R_alloc | apply Kd.R_drewN | apply Kd.R_drew)); exact HO235.out) hb); have n2_ := Aside0.mk (below_step (by repeat (first | (with_reducible first | exact HB.out | apply below_alloc | apply pw_below_drewN | apply below_drew1) | exact HB.out)) hb); clear HO230; clear HO235; clear HB; have HO230 := n0_; have HO235 := n1_; have HB := n2_; clear n0_ n1_ n2_; (try clear hb); (try clear hb2); (try clear hk); (try clear hi)))
               go_ret
               exact ⟨by first | rfl | (simp [errW_none, errW_some] <;> rfl) | (simp [*, errW_none, errW_some] <;> rfl), by repeat (first | (with_reducible first | exact HB.out | apply below_alloc | apply pw_below_drewN | apply below_drew1) | exact HB.out)⟩
              ·rw [if_neg c16] at H
               exact absurd H (by simp)
             ·rw [if_neg c15] at H
              exact absurd H (by simp)
            ·rw [if_neg c14] at H
             exact absurd H (by simp)
           ·rw [if_neg c13] at H
            exact absurd H (by simp)
          ·rw [if_neg c12] at H
           exact absurd H (by simp)
         ·rw [if_neg c11] at H
          exact absurd H (by simp)
        ·rw [if_neg c10] at H
         exact absurd H (by simp)
       ·rw [if_neg c9] at H
        exact absurd H (by simp)
      ·rw [if_neg c8] at H
       exact absurd H (by simp)
     ·rw [if_neg c7] at H
      exact absurd H (by simp)
    ·rw [if_neg c6] at H
     exact absurd H (by simp)
   ·rw [if_neg c5] at H
    exact absurd H (by simp)
  ·rw [if_neg c4] at H
   exact absurd H (by simp)
 ·rw [if_neg c3] at H
  exact absurd H (by simp)

end Go.Proofs.YtnjobjogddjelaaGreatDoor.Print
end

section
namespace Go.Proofs.YtnjobjogddjelaaGreatDoor.PureN
open Go.RowKit Go.Proofs.YtnjobjogddjelaaGreatDoor.Print Go.Proofs.YtnjobjogddjelaaGreatDoor.Pure Go.Proofs.YtnjobjogddjelaaGreatDoorW.PrintWords Go.Proofs.YtnjobjogddjelaaGreatDoorW.PrintLast Go.Proofs.YtnjobjogddjelaaGreatDoorW.PrintMore
theorem up_k {α : Type} {f : Nat → Option α} (h : ∀ k, LeO (f k) (f (k + 1))) {k : Nat} {r : α} (e : f k = some r) : ∀ j, f (k + j) = some r
 | 0 => e
 | j + 1 => h (k + j) r (up_k h e j)
theorem known_60 : spillwaylaw7_known.f 60 = some true := by kernel_rfl
theorem known_eq (k : Nat) (hk : 60 ≤ k) : spillwaylaw7_known.f k = some true := by
 have := up_k (f := spillwaylaw7_known.f) spillwaylaw7_known.mono known_60 (k - 60)
 rwa [show 60 + (k - 60) = k by omega] at this
end Go.Proofs.YtnjobjogddjelaaGreatDoor.PureN
end

section
namespace Go.Proofs.YtnjobjogddjelaaGreatDoor.Print
open Go.RowKit Go.Proofs.YtnjobjogddjelaaGreatDoorX Go.Proofs.YtnjobjogddjelaaGreatDoorW.PrintWords Go.Proofs.YtnjobjogddjelaaGreatDoorW.PrintLast Go.Proofs.YtnjobjogddjelaaGreatDoorW.PrintMore
attribute [local go_sem] max2_int min2_int max_two min_two max_three min_three max_four min_four

theorem eqA34 (d : Nat) (w : World) (x0 y0 : Bool) (x1 y1 : Int) :
  (Op.equalIn (d + 2) 34 (.agg #[.bool x0, .int .i64 x1]) (.agg #[.bool y0, .int .i64 y1])).run Tryz.prog w = .ok (x0 == y0 && (x1 == y1)) w := by
 refine eqA_of Tryz.underlying34 (by kernel_rfl) ?_
 refine eqf_cons (by rfl) (by go_simp; rfl) (by go_simp; rfl) (by go_simp) ?_
 exact eqf_last (by rfl) (by go_simp; rfl) (by go_simp; rfl) (by go_simp)
theorem eqA36 (d : Nat) (w : World) (x0 y0 : Int) (x1 y1 : Int) (x2 y2 : ByteArray) (x3 y3 : Bool) (x4 y4 : Int) (x5 y5 : Int) :
  (Op.equalIn (d + 3) 36 (.agg #[.int .i64 x0, .int .i64 x1, .string x2, .bool x3, .int .i64 x4, .int .i64 x5]) (.agg #[.int .i64 y0, .int .i64 y1, .string y2, .bool y3, .int .i64 y4, .int .i64 y5])).run Tryz.prog w = .ok (x0 == y0 && (x1 == y1 && (x2.toList == y2.toList && ((x3 == y3 && (x4 == y4)) && (x5 == y5))))) w := by
 refine eqA_of Tryz.underlying36 (by kernel_rfl) ?_
 refine eqf_cons (by rfl) (by go_simp; rfl) (by go_simp; rfl) (by go_simp) ?_
 refine eqf_cons (by rfl) (by go_simp; rfl) (by go_simp; rfl) (by go_simp) ?_
 refine eqf_cons (by rfl) (by go_simp; rfl) (by go_simp; rfl) (by go_simp) ?_
 refine eqf_cons (by rfl) (by go_simp) (by go_simp) (eqA34 (d + 0) w _ _ _ _) ?_
 exact eqf_last (by rfl) (by go_simp; rfl) (by go_simp; rfl) (by go_simp)
end Go.Proofs.YtnjobjogddjelaaGreatDoor.Print
end

section
namespace Go.Proofs.YtnjobjogddjelaaGreatDoor.Print
open Go.RowKit Go.Proofs.YtnjobjogddjelaaGreatDoorX Go.Proofs.YtnjobjogddjelaaGreatDoorW.PrintWords Go.Proofs.YtnjobjogddjelaaGreatDoorW.PrintLast Go.Proofs.YtnjobjogddjelaaGreatDoorW.PrintMore
attribute [local go_sem] max2_int min2_int max_two min_two max_three min_three max_four min_four

attribute [local go_sem high] eqA36
/-! ### spillwaylaw7_same: function 11 -/
def spillwaylaw7_same.l0 : Nat → List (S36) → List (S36) → Bool → Int → Option (Bool)
 | 0, _, _, _, _ => none
 | k + 1, x0, x1, x2, x7 => if x7 < (x0.length : Int) then (if 0 ≤ x7 then (if x7 < (x1.length : Int) then (if x2 = true then (if (!(((rd_T36 x0 x7).f0) == ((rd_T36 x1 x7).f0)) || (!(((rd_T36 x0 x7).f1) == ((rd_T36 x1 x7).f1)) || (!((((rd_T36 x0 x7).f2).toList) == (((rd_T36 x1 x7).f2).toList)) || ((!(((rd_T36 x0 x7).f3.f0) == ((rd_T36 x1 x7).f3.f0)) || (!(((rd_T36 x0 x7).f3.f1) == ((rd_T36 x1 x7).f3.f1)))) || (!(((rd_T36 x0 x7).f4) == ((rd_T36 x1 x7).f4))))))) = true then (none) else (spillwaylaw7_same.l0 k x0 x1 x2 (wrap64 (x7 + 1)))) else (if (!(((rd_T36 x0 x7).f0) == ((rd_T36 x1 x7).f0)) || (!((((rd_T36 x0 x7).f2).toList) == (((rd_T36 x1 x7).f2).toList)) || ((!(((rd_T36 x0 x7).f3.f0) == ((rd_T36 x1 x7).f3.f0)) || (!(((rd_T36 x0 x7).f3.f1) == ((rd_T36 x1 x7).f3.f1)))) || (!(((rd_T36 x0 x7).f4) == ((rd_T36 x1 x7).f4)))))) = true then (none) else (spillwaylaw7_same.l0 k x0 x1 x2 (wrap64 (x7 + 1))))) else (none)) else (none)) else (some true)
def spillwaylaw7_same.f (k : Nat) (l0 : List (S36)) (l1 : List (S36)) (a2 : Bool) : Option (Bool) := if (l0.length : Int) = (l1.length : Int) then (spillwaylaw7_same.l0 k l0 l1 a2 0) else (none)
theorem spillwaylaw7_same.mono_l : ∀ k, (∀ y0 y1 y2 y3, LeO (spillwaylaw7_same.l0 k y0 y1 y2 y3) (spillwaylaw7_same.l0 (k + 1) y0 y1 y2 y3))
 | 0 => fun _ _ _ _ r h => by simp [spillwaylaw7_same.l0] at h
 | k + 1 => by
  have ih0 := spillwaylaw7_same.mono_l k
  ·intro y0 y1 y2 y3
   unfold spillwaylaw7_same.l0
   repeat' first
   | (with_reducible exact ih0 _ _ _ _)
   | (with_reducible exact LeO.refl _)
   | (with_reducible exact LeO.none _)
   | (with_reducible refine LeO.ite ?_ ?_)
   | (with_reducible refine LeO.bind ?_ (fun _ => ?_))
   | exact ih0 _ _ _ _
   | exact LeO.none _
   | refine LeO.ite ?_ ?_
   | refine LeO.bind ?_ (fun _ => ?_)
theorem spillwaylaw7_same.mono : ∀ a0 a1 a2 k, LeO (spillwaylaw7_same.f k a0 a1 a2) (spillwaylaw7_same.f (k + 1) a0 a1 a2) := by
 intro a0 a1 a2 k
 have ih0 := spillwaylaw7_same.mono_l k
 unfold spillwaylaw7_same.f
 repeat' first
   | (with_reducible exact ih0 _ _ _ _)
   | (with_reducible exact LeO.refl _)
   | (with_reducible exact LeO.none _)
   | (with_reducible refine LeO.ite ?_ ?_)
   | (with_reducible refine LeO.bind ?_ (fun _ => ?_))
   | exact ih0 _ _ _ _
   | exact LeO.none _
   | refine LeO.ite ?_ ?_
   | refine LeO.bind ?_ (fun _ => ?_)
def spillwaylaw7_same.T6 : Bool × List (List Nat × List Nat) := (true, [([], []), ([], []), ([0, 1], [0, 1]), ([2], [2]), ([], []), ([], []), ([4, 5], [4, 5]), ([6], [6]), ([], []), ([], []), ([8, 3, 0, 1, 2, 3, 8, 9], [3, 8]), ([9, 7, 10, 0, 1, 2, 3, 4, 5, 6, 7, 8, 9, 10], [7, 9])])
def spillwaylaw7_same.B6 : List Nat := [0, 0, 3, 7, 0, 0, 48, 112, 0, 0, 783, 2047]
theorem spillwaylaw7_same.tab6 : rtab .any (opsOf Tryz.f11 6) = spillwaylaw7_same.T6 := by kernel_rfl
theorem spillwaylaw7_same.bits6 : waitsOk spillwaylaw7_same.T6.2 spillwaylaw7_same.B6 = true := by kernel_rfl
set_option maxHeartbeats 8000000 in
set_option maxRecDepth 100000 in
theorem spillwaylaw7_same.calls (k : Nat) (A0 : Option Addr) (c0 : Nat) (l0 : List (S36)) (A1 : Option Addr) (c1 : Nat) (l1 : List (S36)) (a2 : Bool) (r : Bool) (w : World) (hr0 : Kd.C k36 w A0 l0.length l0) (hc0 : l0.length ≤ c0) (hr1 : Kd.C k36 w A1 l1.length l1) (hc1 : l1.length ≤ c1) (h : spillwaylaw7_same.f k l0 l1 a2 = some r) :
  Calls Tryz.prog 11 #[.slice A0 l0.length c0, .slice A1 l1.length c1, .bool a2] w fun e w' => e = .returned (.bool r) ∧ Below w.heap.size w w' := by
 have hu36 := Tryz.underlying36
 have HR0 := Aside0.mk hr0
 have HC0 := Aside0.mk hc0
 clear hr0 hc0
 have HR1 := Aside0.mk hr1
 have HC1 := Aside0.mk hc1
 clear hr1 hc1
 have HB := Aside0.mk (Below.refl w.heap.size w)
 have H : (if (l0.length : Int) = (l1.length : Int) then (spillwaylaw7_same.l0 k l0 l1 a2 0) else (none)) = some r := h
 clear h
 by_cases c4 : (l0.length : Int) = (l1.length : Int)
 ·rw [if_pos c4] at H
  have c4b0 : ((l0.length : Int) == (l1.length : Int)) = true := beq_iff_eq.mpr c4
  have c4b1 : ((l0.length : Int) != (l1.length : Int)) = false := bne_eq_false_iff_eq.mpr c4
  have c4b2 : (l0.length == l1.length) = true := by first | simpa using c4 | (simp at c4 ⊢; omega)
  clear c4
  have H' := Aside0.mk H
  clear H
  go_enter Tryz.func11, Tryz.ntmps11
  go_wp2
  go_loopg [7] k (fun kq v7 w' => ∃ (x7_1 : Int), v7 = .int .i64 x7_1 ∧ Aside0 (spillwaylaw7_same.l0 kq l0 l1 a2 x7_1 = some r) ∧ Aside0 (kq ≤ k) ∧ Aside0 (Below w.heap.size w w'))
  case atStart => exact ⟨(0), (by first | rfl | (simp; done) | (simp [*]; done)), H', ⟨Nat.le_refl _⟩, ⟨by repeat (first | (with_reducible first | exact HB.out | apply below_alloc | apply pw_below_drewN | apply below_drew1) | exact HB.out)⟩⟩
  case round =>
   clear H'
   try clear c1
   try clear p2
   try clear c4
   try clear c4b0
   try clear c4b1
   try clear c4b2
   obtain ⟨x7_1, rfl, HA, HK1, HB⟩ := hrel
   cases gk with
   | zero => exact absurd HA.out (by simp [spillwaylaw7_same.l0])
   | succ k1 =>
    have H := HA.out
    clear HA
    simp only [spillwaylaw7_same.l0] at H
    by_cases c5 : x7_1 < (l0.length : Int)
    ·rw [if_pos c5] at H
     have c5b0 : decide (x7_1 < (l0.length : Int)) = true := decide_eq_true c5
     clear c5
     by_cases c6 : 0 ≤ x7_1
     ·rw [if_pos c6] at H
      have c6b0 : decide (0 ≤ x7_1) = true := decide_eq_true c6
      clear c6
      by_cases c7 : x7_1 < (l1.length : Int)
      ·rw [if_pos c7] at H
       have c7b0 : decide (x7_1 < (l1.length : Int)) = true := decide_eq_true c7
       clear c7
       by_cases c8 : a2 = true
       ·subst c8
        have H1 : (if (!(((rd_T36 l0 x7_1).f0) == ((rd_T36 l1 x7_1).f0)) || (!(((rd_T36 l0 x7_1).f1) == ((rd_T36 l1 x7_1).f1)) || (!((((rd_T36 l0 x7_1).f2).toList) == (((rd_T36 l1 x7_1).f2).toList)) || ((!(((rd_T36 l0 x7_1).f3.f0) == ((rd_T36 l1 x7_1).f3.f0)) || (!(((rd_T36 l0 x7_1).f3.f1) == ((rd_T36 l1 x7_1).f3.f1)))) || (!(((rd_T36 l0 x7_1).f4) == ((rd_T36 l1 x7_1).f4))))))) = true then (none) else (spillwaylaw7_same.l0 k1 l0 l1 true (wrap64 (x7_1 + 1)))) = some r := by rw [if_pos rfl] at H; exact H
        clear H
        have H := H1
        clear H1
        by_cases c9 : (!(((rd_T36 l0 x7_1).f0) == ((rd_T36 l1 x7_1).f0)) || (!(((rd_T36 l0 x7_1).f1) == ((rd_T36 l1 x7_1).f1)) || (!((((rd_T36 l0 x7_1).f2).toList) == (((rd_T36 l1 x7_1).f2).toList)) || ((!(((rd_T36 l0 x7_1).f3.f0) == ((rd_T36 l1 x7_1).f3.f0)) || (!(((rd_T36 l0 x7_1).f3.f1) == ((rd_T36 l1 x7_1).f3.f1)))) || (!(((rd_T36 l0 x7_1).f4) == ((rd_T36 l1 x7_1).f4))))))) = true
        ·rw [if_pos c9] at H
         exact absurd H (by simp)
        ·rw [if_neg c9] at H
         have c9b0 : (!(((rd_T36 l0 x7_1).f0) == ((rd_T36 l1 x7_1).f0)) || (!(((rd_T36 l0 x7_1).f1) == ((rd_T36 l1 x7_1).f1)) || (!((((rd_T36 l0 x7_1).f2).toList) == (((rd_T36 l1 x7_1).f2).toList)) || ((!(((rd_T36 l0 x7_1).f3.f0) == ((rd_T36 l1 x7_1).f3.f0)) || (!(((rd_T36 l0 x7_1).f3.f1) == ((rd_T36 l1 x7_1).f3.f1)))) || (!(((rd_T36 l0 x7_1).f4) == ((rd_T36 l1 x7_1).f4))))))) = false := by simpa using c9
         clear c9
         have H' := Aside0.mk H
         clear H
         try go_wp2
         have n0_ := Aside0.mk (below_drew1 HB.out)
         clear HB
         have HB := n0_
         clear n0_
         have p318 : 0 ≤ (x7_1 : Int) := of_decide_eq_true (by first | (with_reducible assumption) | assumption)
         have q318 : x7_1 < (l0.length : Int) := of_decide_eq_true (by first | (with_reducible assumption) | assumption)
         obtain ⟨ad318, e318, hx318_0, hx318_1, hx318_2, hx318_3, hx318_4, hx318_5⟩ := at_T36 HR0.out x7_1 p318 q318
         have hw318_5 := hx318_5
         have hw318_4 := hx318_4
         have hw318_3 := hx318_3
         have hw318_2 := hx318_2
         have hw318_1 := hx318_1
         have hw318_0 := hx318_0
         cases e318
         replace hx318_0 := (HB.out.cell (World.block_lt_of_cell? w _ hx318_0)).trans hx318_0
         replace hx318_1 := (HB.out.cell (World.block_lt_of_cell? w _ hx318_1)).trans hx318_1
         replace hx318_2 := (HB.out.cell (World.block_lt_of_cell? w _ hx318_2)).trans hx318_2
         replace hx318_3 := (HB.out.cell (World.block_lt_of_cell? w _ hx318_3)).trans hx318_3
         replace hx318_4 := (HB.out.cell (World.block_lt_of_cell? w _ hx318_4)).trans hx318_4
         replace hx318_5 := (HB.out.cell (World.block_lt_of_cell? w _ hx318_5)).trans hx318_5
         replace p318 := eq_true p318
         replace q318 := eq_true q318
         have p319 : 0 ≤ (x7_1 : Int) := of_decide_eq_true (by first | (with_reducible assumption) | assumption)
         have q319 : x7_1 < (l1.length : Int) := of_decide_eq_true (by first | (with_reducible assumption) | assumption)
         obtain ⟨ad319, e319, hx319_0, hx319_1, hx319_2, hx319_3, hx319_4, hx319_5⟩ := at_T36 HR1.out x7_1 p319 q319
         have hw319_5 := hx319_5
         have hw319_4 := hx319_4
         have hw319_3 := hx319_3
         have hw319_2 := hx319_2
         have hw319_1 := hx319_1
         have hw319_0 := hx319_0
         cases e319
         replace hx319_0 := (HB.out.cell (World.block_lt_of_cell? w _ hx319_0)).trans hx319_0
         replace hx319_1 := (HB.out.cell (World.block_lt_of_cell? w _ hx319_1)).trans hx319_1
         replace hx319_2 := (HB.out.cell (World.block_lt_of_cell? w _ hx319_2)).trans hx319_2
         replace hx319_3 := (HB.out.cell (World.block_lt_of_cell? w _ hx319_3)).trans hx319_3
         replace hx319_4 := (HB.out.cell (World.block_lt_of_cell? w _ hx319_4)).trans hx319_4
         replace hx319_5 := (HB.out.cell (World.block_lt_of_cell? w _ hx319_5)).trans hx319_5
         replace p319 := eq_true p319
         replace q319 := eq_true q319
         refine start_ (n := 12) (S := fun w' => True) (ds := []) #[false, false, false, false, false, false, false, false, false, false, false, false] (by kernel_rfl) rfl rfl trivial (fun hHeld => ?_); refine with_tabW spillwaylaw7_same.tab6 spillwaylaw7_same.bits6 (fun HT_ HW_ => ?_)
         generalize wr.drew = w10 at HB hx318_0 hx318_1 hx318_2 hx318_3 hx318_4 hx318_5 hx319_0 hx319_1 hx319_2 hx319_3 hx319_4 hx319_5 hHeld ⊢
         refine pure_ (i := 0) (N := some 21) (v := ?_) (a' := ?_) #[true, false, false, false, false, false, false, false, false, false, false, false] rfl rfl (any_of HT_.out (by kernel_rfl)) (fun _ _ _ h => h) (Or.inl ⟨by rfl, ?_⟩) ?_ ?_
         rotate_left
         ·intro w'
          go_simp
          with_reducible rfl
         rotate_left
         ·simp only [Act.put, List.setIfInBounds_toArray, List.set_cons_zero, List.set_cons_succ, i64_w, i32_w]
          rfl
         refine pure_ (i := 1) (N := some 22) (v := ?_) (a' := ?_) #[true, true, false, false, false, false, false, false, false, false, false, false] rfl rfl (any_of HT_.out (by kernel_rfl)) (fun _ _ _ h => h) (Or.inl ⟨by rfl, ?_⟩) ?_ ?_
         rotate_left
         ·intro w'
          go_simp
          with_reducible rfl
         rotate_left
         ·simp only [Act.put, List.setIfInBounds_toArray, List.set_cons_zero, List.set_cons_succ, i64_w, i32_w]
          rfl
         refine pure_ (i := 4) (N := some 25) (v := ?_) (a' := ?_) #[true, true, false, false, true, false, false, false, false, false, false, false] rfl rfl (any_of HT_.out (by kernel_rfl)) (fun _ _ _ h => h) (Or.inl ⟨by rfl, ?_⟩) ?_ ?_
         rotate_left
         ·intro w'
          go_simp
          with_reducible rfl
         rotate_left
         ·simp only [Act.put, List.setIfInBounds_toArray, List.set_cons_zero, List.set_cons_succ, i64_w, i32_w]
          rfl
         refine pure_ (i := 5) (N := some 26) (v := ?_) (a' := ?_) #[true, true, false, false, true, true, false, false, false, false, false, false] rfl rfl (any_of HT_.out (by kernel_rfl)) (fun _ _ _ h => h) (Or.inl ⟨by rfl, ?_⟩) ?_ ?_
         rotate_left
         ·intro w'
          go_simp
          with_reducible rfl
         rotate_left
         ·simp only [Act.put, List.setIfInBounds_toArray, List.set_cons_zero, List.set_cons_succ, i64_w, i32_w]
          rfl
         refine inv_at [2, 3, 6, 7, 8, 9, 10, 11] (fun a0_ b a w' => ∃ (gb320 : Nat) (gb321 : Nat) (m8_ : Value) (m9_ : Value), a = putSel a0_ b [(2, 23, .pointer (some (ad318.add ((x7_1).toNat * 6)))), (3, 24, .agg #[.int .i64 ((rd_T36 l0 x7_1).f0), .int .i64 ((rd_T36 l0 x7_1).f1), .string ((rd_T36 l0 x7_1).f2), .bool ((rd_T36 l0 x7_1).f3.f0), .int .i64 ((rd_T36 l0 x7_1).f3.f1), .int .i64 ((rd_T36 l0 x7_1).f4)]), (6, 27, .pointer (some (ad319.add ((x7_1).toNat * 6)))), (7, 28, .agg #[.int .i64 ((rd_T36 l1 x7_1).f0), .int .i64 ((rd_T36 l1 x7_1).f1), .string ((rd_T36 l1 x7_1).f2), .bool ((rd_T36 l1 x7_1).f3.f0), .int .i64 ((rd_T36 l1 x7_1).f3.f1), .int .i64 ((rd_T36 l1 x7_1).f4)]), (8, 8, m8_), (9, 9, m9_)] ∧ (Below w.heap.size w w') ∧ (b 8 = true → b 9 = true → gb321 ≠ gb320) ∧ (b 8 = true → b 9 = true → gb320 ≠ gb321) ∧ (b 8 = true → b 10 = false → w'.heap[gb320]? = some (.cells #[.int .i64 0, .int .i64 0, .string (⟨#[]⟩ : ByteArray), .bool false, .int .i64 0, .int .i64 0] 36 (0, 0))) ∧ (b 8 = true → w.heap.size ≤ gb320) ∧ (b 8 = true → w.heap.size ≤ gb320) ∧ (b 9 = true → b 11 = false → w'.heap[gb321]? = some (.cells #[.int .i64 0, .int .i64 0, .string (⟨#[]⟩ : ByteArray), .bool false, .int .i64 0, .int .i64 0] 36 (0, 0))) ∧ (b 9 = true → w.heap.size ≤ gb321) ∧ (b 9 = true → w.heap.size ≤ gb321) ∧ (b 10 = true → w'.heap[gb320]? = some (.cells #[.int .i64 ((rd_T36 l0 x7_1).f0), .int .i64 ((rd_T36 l0 x7_1).f1), .string ((rd_T36 l0 x7_1).f2), .bool ((rd_T36 l0 x7_1).f3.f0), .int .i64 ((rd_T36 l0 x7_1).f3.f1), .int .i64 ((rd_T36 l0 x7_1).f4)] 36 (0, 0))) ∧ (b 11 = true → w'.heap[gb321]? = some (.cells #[.int .i64 ((rd_T36 l1 x7_1).f0), .int .i64 ((rd_T36 l1 x7_1).f1), .string ((rd_T36 l1 x7_1).f2), .bool ((rd_T36 l1 x7_1).f3.f0), .int .i64 ((rd_T36 l1 x7_1).f3.f1), .int .i64 ((rd_T36 l1 x7_1).f4)] 36 (0, 0))) ∧ (b 8 = true → (m8_ : Value) = .pointer (some ⟨gb320, 0, none⟩)) ∧ (b 9 = true → (m9_ : Value) = .pointer (some ⟨gb321, 0, none⟩))) HT_.out HW_.out (by kernel_rfl) (by kernel_rfl) ?_ ?_ ?_
         ·exact ⟨0, 0, .bool false, .bool false, by simp only [putSel, Bool.false_eq_true, if_false], HB.out, fun h_ => absurd h_ (by decide), fun h_ => absurd h_ (by decide), fun h_ => absurd h_ (by decide), fun h_ => absurd h_ (by decide), fun h_ => absurd h_ (by decide), fun h_ => absurd h_ (by decide), fun h_ => absurd h_ (by decide), fun h_ => absurd h_ (by decide), fun h_ => absurd h_ (by decide), fun h_ => absurd h_ (by decide), fun h_ => absurd h_ (by decide), fun h_ => absurd h_ (by decide)⟩
         ·skip
          clear HB
          refine steps_cons ?_ ?_
          ·rintro b a w' ⟨gb320, gb321, m8_, m9_, ha, Q_HB, Q_NB321_320, Q_NB320_321, Q_BK320, Q_GW320, Q_GE320, Q_BK321, Q_GW321, Q_GE321, Q_BK320_e10, Q_BK321_e11, Q_X8_, Q_X9_⟩ hb_ hon hoff
           refine ⟨_, rfl, fun K hK => ?_⟩
           have e21 : a.tmps[21]? = some (.slice (some ad318) l0.length c0) := by rw [ha]; exact (putSel_off rfl).trans rfl
           have e22 : a.tmps[22]? = some (.int .i64 x7_1) := by rw [ha]; exact (putSel_off rfl).trans rfl
           replace ha := Aside0.mk ha
           have HB := Aside0.mk Q_HB
           have hs0_ : w'.cell? (ad318.add ((x7_1).toNat * 6)) = some (.int .i64 ((rd_T36 l0 x7_1).f0)) := ((HB.out.cell (World.block_lt_of_cell? w _ hw318_0)).trans hw318_0)
           have hs1_ : w'.cell? ⟨(ad318.add ((x7_1).toNat * 6)).block, (ad318.add ((x7_1).toNat * 6)).off + 1, none⟩ = some (.int .i64 ((rd_T36 l0 x7_1).f1)) := ((HB.out.cell (World.block_lt_of_cell? w _ hw318_1)).trans hw318_1)
           have hs2_ : w'.cell? ⟨(ad318.add ((x7_1).toNat * 6)).block, (ad318.add ((x7_1).toNat * 6)).off + 2, none⟩ = some (.string ((rd_T36 l0 x7_1).f2)) := ((HB.out.cell (World.block_lt_of_cell? w _ hw318_2)).trans hw318_2)
           have hs3_ : w'.cell? ⟨(ad318.add ((x7_1).toNat * 6)).block, (ad318.add ((x7_1).toNat * 6)).off + 3, none⟩ = some (.bool ((rd_T36 l0 x7_1).f3.f0)) := ((HB.out.cell (World.block_lt_of_cell? w _ hw318_3)).trans hw318_3)
           have hs4_ : w'.cell? ⟨(ad318.add ((x7_1).toNat * 6)).block, (ad318.add ((x7_1).toNat * 6)).off + 4, none⟩ = some (.int .i64 ((rd_T36 l0 x7_1).f3.f1)) := ((HB.out.cell (World.block_lt_of_cell? w _ hw318_4)).trans hw318_4)
           have hs5_ : w'.cell? ⟨(ad318.add ((x7_1).toNat * 6)).block, (ad318.add ((x7_1).toNat * 6)).off + 5, none⟩ = some (.int .i64 ((rd_T36 l0 x7_1).f4)) := ((HB.out.cell (World.block_lt_of_cell? w _ hw318_5)).trans hw318_5)
           refine value_ (w1 := w') (v := .pointer (some (ad318.add ((x7_1).toNat * 6)))) (by rfl) rfl ?_ ?_
           ·go_simp
            (try simp only [i64_w])
            try rfl
           refine hK.out _ _ ⟨gb320, gb321, m8_, m9_, (by rw [ha.out]; exact putSel_upk 0 hb_ rfl rfl rfl), Q_HB, Q_NB321_320, Q_NB320_321, Q_BK320, Q_GW320, Q_GE320, Q_BK321, Q_GW321, Q_GE321, fun h0_ => absurd ((hoff 10 (by kernel_rfl)).symm.trans h0_) (by decide), fun h0_ => absurd ((hoff 11 (by kernel_rfl)).symm.trans h0_) (by decide), Q_X8_, Q_X9_⟩
          refine steps_cons ?_ ?_
          ·rintro b a w' ⟨gb320, gb321, m8_, m9_, ha, Q_HB, Q_NB321_320, Q_NB320_321, Q_BK320, Q_GW320, Q_GE320, Q_BK321, Q_GW321, Q_GE321, Q_BK320_e10, Q_BK321_e11, Q_X8_, Q_X9_⟩ hb_ hon hoff
           refine ⟨_, rfl, fun K hK => ?_⟩
           have e23 : a.tmps[23]? = some (.pointer (some (ad318.add ((x7_1).toNat * 6)))) := by rw [ha]; exact putSel_on (e := (2, 23, .pointer (some (ad318.add ((x7_1).toNat * 6))))) 0 rfl rfl (hon 2 (by kernel_rfl)) rfl
           replace ha := Aside0.mk ha
           have HB := Aside0.mk Q_HB
           have hs0_ : w'.cell? (ad318.add ((x7_1).toNat * 6)) = some (.int .i64 ((rd_T36 l0 x7_1).f0)) := ((HB.out.cell (World.block_lt_of_cell? w _ hw318_0)).trans hw318_0)
           have hs1_ : w'.cell? ⟨(ad318.add ((x7_1).toNat * 6)).block, (ad318.add ((x7_1).toNat * 6)).off + 1, none⟩ = some (.int .i64 ((rd_T36 l0 x7_1).f1)) := ((HB.out.cell (World.block_lt_of_cell? w _ hw318_1)).trans hw318_1)
           have hs2_ : w'.cell? ⟨(ad318.add ((x7_1).toNat * 6)).block, (ad318.add ((x7_1).toNat * 6)).off + 2, none⟩ = some (.string ((rd_T36 l0 x7_1).f2)) := ((HB.out.cell (World.block_lt_of_cell? w _ hw318_2)).trans hw318_2)
           have hs3_ : w'.cell? ⟨(ad318.add ((x7_1).toNat * 6)).block, (ad318.add ((x7_1).toNat * 6)).off + 3, none⟩ = some (.bool ((rd_T36 l0 x7_1).f3.f0)) := ((HB.out.cell (World.block_lt_of_cell? w _ hw318_3)).trans hw318_3)
           have hs4_ : w'.cell? ⟨(ad318.add ((x7_1).toNat * 6)).block, (ad318.add ((x7_1).toNat * 6)).off + 4, none⟩ = some (.int .i64 ((rd_T36 l0 x7_1).f3.f1)) := ((HB.out.cell (World.block_lt_of_cell? w _ hw318_4)).trans hw318_4)
           have hs5_ : w'.cell? ⟨(ad318.add ((x7_1).toNat * 6)).block, (ad318.add ((x7_1).toNat * 6)).off + 5, none⟩ = some (.int .i64 ((rd_T36 l0 x7_1).f4)) := ((HB.out.cell (World.block_lt_of_cell? w _ hw318_5)).trans hw318_5)
           refine value_ (w1 := w') (v := .agg #[.int .i64 ((rd_T36 l0 x7_1).f0), .int .i64 ((rd_T36 l0 x7_1).f1), .string ((rd_T36 l0 x7_1).f2), .bool ((rd_T36 l0 x7_1).f3.f0), .int .i64 ((rd_T36 l0 x7_1).f3.f1), .int .i64 ((rd_T36 l0 x7_1).f4)]) (by rfl) rfl ?_ ?_
           ·go_simp
            (try simp only [i64_w])
            try rfl
           refine hK.out _ _ ⟨gb320, gb321, m8_, m9_, (by rw [ha.out]; exact putSel_upk 1 hb_ rfl rfl rfl), Q_HB, Q_NB321_320, Q_NB320_321, Q_BK320, Q_GW320, Q_GE320, Q_BK321, Q_GW321, Q_GE321, fun h0_ => absurd ((hoff 10 (by kernel_rfl)).symm.trans h0_) (by decide), fun h0_ => absurd ((hoff 11 (by kernel_rfl)).symm.trans h0_) (by decide), Q_X8_, Q_X9_⟩
          refine steps_cons ?_ ?_
          ·rintro b a w' ⟨gb320, gb321, m8_, m9_, ha, Q_HB, Q_NB321_320, Q_NB320_321, Q_BK320, Q_GW320, Q_GE320, Q_BK321, Q_GW321, Q_GE321, Q_BK320_e10, Q_BK321_e11, Q_X8_, Q_X9_⟩ hb_ hon hoff
           refine ⟨_, rfl, fun K hK => ?_⟩
           have e25 : a.tmps[25]? = some (.slice (some ad319) l1.length c1) := by rw [ha]; exact (putSel_off rfl).trans rfl
           have e26 : a.tmps[26]? = some (.int .i64 x7_1) := by rw [ha]; exact (putSel_off rfl).trans rfl
           replace ha := Aside0.mk ha
           have HB := Aside0.mk Q_HB
           have hs6_ : w'.cell? (ad319.add ((x7_1).toNat * 6)) = some (.int .i64 ((rd_T36 l1 x7_1).f0)) := ((HB.out.cell (World.block_lt_of_cell? w _ hw319_0)).trans hw319_0)
           have hs7_ : w'.cell? ⟨(ad319.add ((x7_1).toNat * 6)).block, (ad319.add ((x7_1).toNat * 6)).off + 1, none⟩ = some (.int .i64 ((rd_T36 l1 x7_1).f1)) := ((HB.out.cell (World.block_lt_of_cell? w _ hw319_1)).trans hw319_1)
           have hs8_ : w'.cell? ⟨(ad319.add ((x7_1).toNat * 6)).block, (ad319.add ((x7_1).toNat * 6)).off + 2, none⟩ = some (.string ((rd_T36 l1 x7_1).f2)) := ((HB.out.cell (World.block_lt_of_cell? w _ hw319_2)).trans hw319_2)
           have hs9_ : w'.cell? ⟨(ad319.add ((x7_1).toNat * 6)).block, (ad319.add ((x7_1).toNat * 6)).off + 3, none⟩ = some (.bool ((rd_T36 l1 x7_1).f3.f0)) := ((HB.out.cell (World.block_lt_of_cell? w _ hw319_3)).trans hw319_3)
           have hs10_ : w'.cell? ⟨(ad319.add ((x7_1).toNat * 6)).block, (ad319.add ((x7_1).toNat * 6)).off + 4, none⟩ = some (.int .i64 ((rd_T36 l1 x7_1).f3.f1)) := ((HB.out.cell (World.block_lt_of_cell? w _ hw319_4)).trans hw319_4)
           have hs11_ : w'.cell? ⟨(ad319.add ((x7_1).toNat * 6)).block, (ad319.add ((x7_1).toNat * 6)).off + 5, none⟩ = some (.int .i64 ((rd_T36 l1 x7_1).f4)) := ((HB.out.cell (World.block_lt_of_cell? w _ hw319_5)).trans hw319_5)
           refine value_ (w1 := w') (v := .pointer (some (ad319.add ((x7_1).toNat * 6)))) (by rfl) rfl ?_ ?_
           ·go_simp
            (try simp only [i64_w])
            try rfl
           refine hK.out _ _ ⟨gb320, gb321, m8_, m9_, (by rw [ha.out]; exact putSel_upk 2 hb_ rfl rfl rfl), Q_HB, Q_NB321_320, Q_NB320_321, Q_BK320, Q_GW320, Q_GE320, Q_BK321, Q_GW321, Q_GE321, Q_BK320_e10, fun h0_ => absurd ((hoff 11 (by kernel_rfl)).symm.trans h0_) (by decide), Q_X8_, Q_X9_⟩
          refine steps_cons ?_ ?_
          ·rintro b a w' ⟨gb320, gb321, m8_, m9_, ha, Q_HB, Q_NB321_320, Q_NB320_321, Q_BK320, Q_GW320, Q_GE320, Q_BK321, Q_GW321, Q_GE321, Q_BK320_e10, Q_BK321_e11, Q_X8_, Q_X9_⟩ hb_ hon hoff
           refine ⟨_, rfl, fun K hK => ?_⟩
           have e27 : a.tmps[27]? = some (.pointer (some (ad319.add ((x7_1).toNat * 6)))) := by rw [ha]; exact putSel_on (e := (6, 27, .pointer (some (ad319.add ((x7_1).toNat * 6))))) 2 rfl rfl (hon 6 (by kernel_rfl)) rfl
           replace ha := Aside0.mk ha
           have HB := Aside0.mk Q_HB
           have hs6_ : w'.cell? (ad319.add ((x7_1).toNat * 6)) = some (.int .i64 ((rd_T36 l1 x7_1).f0)) := ((HB.out.cell (World.block_lt_of_cell? w _ hw319_0)).trans hw319_0)
           have hs7_ : w'.cell? ⟨(ad319.add ((x7_1).toNat * 6)).block, (ad319.add ((x7_1).toNat * 6)).off + 1, none⟩ = some (.int .i64 ((rd_T36 l1 x7_1).f1)) := ((HB.out.cell (World.block_lt_of_cell? w _ hw319_1)).trans hw319_1)
           have hs8_ : w'.cell? ⟨(ad319.add ((x7_1).toNat * 6)).block, (ad319.add ((x7_1).toNat * 6)).off + 2, none⟩ = some (.string ((rd_T36 l1 x7_1).f2)) := ((HB.out.cell (World.block_lt_of_cell? w _ hw319_2)).trans hw319_2)
           have hs9_ : w'.cell? ⟨(ad319.add ((x7_1).toNat * 6)).block, (ad319.add ((x7_1).toNat * 6)).off + 3, none⟩ = some (.bool ((rd_T36 l1 x7_1).f3.f0)) := ((HB.out.cell (World.block_lt_of_cell? w _ hw319_3)).trans hw319_3)
           have hs10_ : w'.cell? ⟨(ad319.add ((x7_1).toNat * 6)).block, (ad319.add ((x7_1).toNat * 6)).off + 4, none⟩ = some (.int .i64 ((rd_T36 l1 x7_1).f3.f1)) := ((HB.out.cell (World.block_lt_of_cell? w _ hw319_4)).trans hw319_4)
           have hs11_ : w'.cell? ⟨(ad319.add ((x7_1).toNat * 6)).block, (ad319.add ((x7_1).toNat * 6)).off + 5, none⟩ = some (.int .i64 ((rd_T36 l1 x7_1).f4)) := ((HB.out.cell (World.block_lt_of_cell? w _ hw319_5)).trans hw319_5)
           refine value_ (w1 := w') (v := .agg #[.int .i64 ((rd_T36 l1 x7_1).f0), .int .i64 ((rd_T36 l1 x7_1).f1), .string ((rd_T36 l1 x7_1).f2), .bool ((rd_T36 l1 x7_1).f3.f0), .int .i64 ((rd_T36 l1 x7_1).f3.f1), .int .i64 ((rd_T36 l1 x7_1).f4)]) (by rfl) rfl ?_ ?_
           ·go_simp
            (try simp only [i64_w])
            try rfl
           refine hK.out _ _ ⟨gb320, gb321, m8_, m9_, (by rw [ha.out]; exact putSel_upk 3 hb_ rfl rfl rfl), Q_HB, Q_NB321_320, Q_NB320_321, Q_BK320, Q_GW320, Q_GE320, Q_BK321, Q_GW321, Q_GE321, Q_BK320_e10, fun h0_ => absurd ((hoff 11 (by kernel_rfl)).symm.trans h0_) (by decide), Q_X8_, Q_X9_⟩
          refine steps_cons ?_ ?_
          ·rintro b a w' ⟨gb320, gb321, m8_, m9_, ha, Q_HB, Q_NB321_320, Q_NB320_321, Q_BK320, Q_GW320, Q_GE320, Q_BK321, Q_GW321, Q_GE321, Q_BK320_e10, Q_BK321_e11, Q_X8_, Q_X9_⟩ hb_ hon hoff
           refine ⟨_, rfl, fun K hK => ?_⟩
           replace ha := Aside0.mk ha
           have HB := Aside0.mk Q_HB
           refine box_step ?hg (N := 8) ?hd (cs := #[.int .i64 0, .int .i64 0, .string (⟨#[]⟩ : ByteArray), .bool false, .int .i64 0, .int .i64 0]) (t := 36) ?hr ?_; (case hd => rfl); (case hg => rfl); (case hr => first | (go_simp; done) | (go_simp; rfl))
           intro gb320 hg w11 hbox hb
           have n0_ := Aside0.mk (below_step (by repeat (first | (with_reducible first | exact HB.out | apply below_alloc | apply pw_below_drewN | apply below_drew1) | exact HB.out)) hb)
           have n1_ := Aside0.mk (hbox)
           have n2_ := Aside0.mk ((by rw [hg]; exact (below_size (by repeat (first | (with_reducible first | exact HB.out | apply below_alloc | apply pw_below_drewN | apply below_drew1) | exact HB.out))) : w.heap.size ≤ gb320))
           have n3_ := Aside0.mk ((by rw [hg]; exact (below_size (by repeat (first | (with_reducible first | exact HB.out | apply below_alloc | apply pw_below_drewN | apply below_drew1) | exact HB.out))) : w.heap.size ≤ gb320))
           have z_NB321_320 := fun (h0_ : up b 8 8 = true) (h1_ : up b 8 9 = true) => (show gb321 ≠ gb320 from ((by rw [hg]; cases h9_ : b 11 with | false => exact Nat.ne_of_lt (blk_lt (Q_BK321 h1_ h9_)) | true => exact Nat.ne_of_lt (blk_lt (Q_BK321_e11 h9_)) : gb321 ≠ gb320)))
           have z_NB320_321 := fun (h0_ : up b 8 8 = true) (h1_ : up b 8 9 = true) => (show gb320 ≠ gb321 from ((by rw [hg]; cases h9_ : b 11 with | false => exact Nat.ne_of_gt (blk_lt (Q_BK321 h1_ h9_)) | true => exact Nat.ne_of_gt (blk_lt (Q_BK321_e11 h9_)) : gb320 ≠ gb321)))
           have z_BK321 := fun (h0_ : b 9 = true) (h1_ : b 11 = false) => (show w11.heap[gb321]? = some (.cells #[.int .i64 0, .int .i64 0, .string (⟨#[]⟩ : ByteArray), .bool false, .int .i64 0, .int .i64 0] 36 (0, 0)) from by first | exact (blk_below (g := gb321) (o := .cells #[.int .i64 0, .int .i64 0, .string (⟨#[]⟩ : ByteArray), .bool false, .int .i64 0, .int .i64 0] 36 (0, 0)) (by (with_reducible repeat (first | refine blk_drewN ?_ _ | refine blk_drew ?_ | refine blk_alloc ?_ _)); exact (Q_BK321 h0_ h1_)) hb))
           clear HB
           have HB := n0_
           have BK320 := n1_
           have GW320 := n2_
           have GE320 := n3_
           clear n0_ n1_ n2_ n3_
           clear hb hbox hg
           refine hK.out _ _ ⟨gb320, gb321, (.pointer (some ⟨gb320, 0, none⟩)), m9_, (by rw [ha.out]; exact putSel_upk 4 hb_ rfl rfl rfl), (by repeat (first | (with_reducible first | exact HB.out | apply below_alloc | apply pw_below_drewN | apply below_drew1 | refine below_set ?_ GE320.out) | exact HB.out)), @z_NB321_320, @z_NB320_321, fun _ _ => (by (with_reducible repeat (first | refine blk_drewN ?_ _ | refine blk_drew ?_ | refine blk_alloc ?_ _)); exact BK320.out), fun _ => GW320.out, fun _ => GE320.out, z_BK321, Q_GW321, Q_GE321, fun h0_ => absurd ((hoff 10 (by kernel_rfl)).symm.trans h0_) (by decide), fun h0_ => absurd ((hoff 11 (by kernel_rfl)).symm.trans h0_) (by decide), fun _ => rfl, Q_X9_⟩
          refine steps_cons ?_ ?_
          ·rintro b a w' ⟨gb320, gb321, m8_, m9_, ha, Q_HB, Q_NB321_320, Q_NB320_321, Q_BK320, Q_GW320, Q_GE320, Q_BK321, Q_GW321, Q_GE321, Q_BK320_e10, Q_BK321_e11, Q_X8_, Q_X9_⟩ hb_ hon hoff
           refine ⟨_, rfl, fun K hK => ?_⟩
           replace ha := Aside0.mk ha
           have HB := Aside0.mk Q_HB
           refine box_step ?hg (N := 9) ?hd (cs := #[.int .i64 0, .int .i64 0, .string (⟨#[]⟩ : ByteArray), .bool false, .int .i64 0, .int .i64 0]) (t := 36) ?hr ?_; (case hd => rfl); (case hg => rfl); (case hr => first | (go_simp; done) | (go_simp; rfl))
           intro gb321 hg w11 hbox hb
           have n0_ := Aside0.mk (below_step (by repeat (first | (with_reducible first | exact HB.out | apply below_alloc | apply pw_below_drewN | apply below_drew1) | exact HB.out)) hb)
           have n1_ := Aside0.mk (hbox)
           have n2_ := Aside0.mk ((by rw [hg]; exact (below_size (by repeat (first | (with_reducible first | exact HB.out | apply below_alloc | apply pw_below_drewN | apply below_drew1) | exact HB.out))) : w.heap.size ≤ gb321))
           have n3_ := Aside0.mk ((by rw [hg]; exact (below_size (by repeat (first | (with_reducible first | exact HB.out | apply below_alloc | apply pw_below_drewN | apply below_drew1) | exact HB.out))) : w.heap.size ≤ gb321))
           have z_NB321_320 := fun (h0_ : up b 9 8 = true) (h1_ : up b 9 9 = true) => (show gb321 ≠ gb320 from ((by rw [hg]; cases h9_ : b 10 with | false => exact Nat.ne_of_gt (blk_lt (Q_BK320 h0_ h9_)) | true => exact Nat.ne_of_gt (blk_lt (Q_BK320_e10 h9_)) : gb321 ≠ gb320)))
           have z_NB320_321 := fun (h0_ : up b 9 8 = true) (h1_ : up b 9 9 = true) => (show gb320 ≠ gb321 from ((by rw [hg]; cases h9_ : b 10 with | false => exact Nat.ne_of_lt (blk_lt (Q_BK320 h0_ h9_)) | true => exact Nat.ne_of_lt (blk_lt (Q_BK320_e10 h9_)) : gb320 ≠ gb321)))
           have z_BK320 := fun (h0_ : b 8 = true) (h1_ : b 10 = false) => (show w11.heap[gb320]? = some (.cells #[.int .i64 0, .int .i64 0, .string (⟨#[]⟩ : ByteArray), .bool false, .int .i64 0, .int .i64 0] 36 (0, 0)) from by first | exact (blk_below (g := gb320) (o := .cells #[.int .i64 0, .int .i64 0, .string (⟨#[]⟩ : ByteArray), .bool false, .int .i64 0, .int .i64 0] 36 (0, 0)) (by (with_reducible repeat (first | refine blk_drewN ?_ _ | refine blk_drew ?_ | refine blk_alloc ?_ _)); exact (Q_BK320 h0_ h1_)) hb))
           clear HB
           have HB := n0_
           have BK321 := n1_
           have GW321 := n2_
           have GE321 := n3_
           clear n0_ n1_ n2_ n3_
           clear hb hbox hg
           refine hK.out _ _ ⟨gb320, gb321, m8_, (.pointer (some ⟨gb321, 0, none⟩)), (by rw [ha.out]; exact putSel_upk 5 hb_ rfl rfl rfl), (by repeat (first | (with_reducible first | exact HB.out | apply below_alloc | apply pw_below_drewN | apply below_drew1 | refine below_set ?_ GE321.out) | exact HB.out)), @z_NB321_320, @z_NB320_321, z_BK320, Q_GW320, Q_GE320, fun _ _ => (by (with_reducible repeat (first | refine blk_drewN ?_ _ | refine blk_drew ?_ | refine blk_alloc ?_ _)); exact BK321.out), fun _ => GW321.out, fun _ => GE321.out, fun h0_ => absurd ((hoff 10 (by kernel_rfl)).symm.trans h0_) (by decide), fun h0_ => absurd ((hoff 11 (by kernel_rfl)).symm.trans h0_) (by decide), Q_X8_, fun _ => rfl⟩
          refine steps_cons ?_ ?_
          ·rintro b a w' ⟨gb320, gb321, m8_, m9_, ha, Q_HB, Q_NB321_320, Q_NB320_321, Q_BK320, Q_GW320, Q_GE320, Q_BK321, Q_GW321, Q_GE321, Q_BK320_e10, Q_BK321_e11, Q_X8_, Q_X9_⟩ hb_ hon hoff
           refine ⟨_, rfl, fun K hK => ?_⟩
           have e8 : a.tmps[8]? = some (m8_) := by rw [ha]; exact putSel_on (e := (8, 8, m8_)) 4 rfl rfl (hon 8 (by kernel_rfl)) rfl
           rw [Q_X8_ (hon 8 (by kernel_rfl))] at e8
           have e24 : a.tmps[24]? = some (.agg #[.int .i64 ((rd_T36 l0 x7_1).f0), .int .i64 ((rd_T36 l0 x7_1).f1), .string ((rd_T36 l0 x7_1).f2), .bool ((rd_T36 l0 x7_1).f3.f0), .int .i64 ((rd_T36 l0 x7_1).f3.f1), .int .i64 ((rd_T36 l0 x7_1).f4)]) := by rw [ha]; exact putSel_on (e := (3, 24, .agg #[.int .i64 ((rd_T36 l0 x7_1).f0), .int .i64 ((rd_T36 l0 x7_1).f1), .string ((rd_T36 l0 x7_1).f2), .bool ((rd_T36 l0 x7_1).f3.f0), .int .i64 ((rd_T36 l0 x7_1).f3.f1), .int .i64 ((rd_T36 l0 x7_1).f4)])) 1 rfl rfl (hon 3 (by kernel_rfl)) rfl
           replace ha := Aside0.mk ha
           have HB := Aside0.mk Q_HB
           have NB321_320 := Aside0.mk (Q_NB321_320 (hon 8 (by kernel_rfl)) (hon 9 (by kernel_rfl)))
           have NB320_321 := Aside0.mk (Q_NB320_321 (hon 8 (by kernel_rfl)) (hon 9 (by kernel_rfl)))
           have BK320 := Aside0.mk (Q_BK320 (hon 8 (by kernel_rfl)) hb_)
           have GW320 := Aside0.mk (Q_GW320 (hon 8 (by kernel_rfl)))
           have GE320 := Aside0.mk (Q_GE320 (hon 8 (by kernel_rfl)))
           have BK321 := Aside0.mk (Q_BK321 (hon 9 (by kernel_rfl)) (hoff 11 (by kernel_rfl)))
           have GW321 := Aside0.mk (Q_GW321 (hon 9 (by kernel_rfl)))
           have GE321 := Aside0.mk (Q_GE321 (hon 9 (by kernel_rfl)))
           have hs14 : w'.cell? ⟨gb320, 0, none⟩ = some (.int .i64 0) := (blk_cell BK320.out 0).trans rfl
           have hfs14 := blk_frozen BK320.out 0
           have hns14_1 := NB321_320.out
           have hms14_1 := NB320_321.out
           have hs15 : w'.cell? ⟨gb320, 1, none⟩ = some (.int .i64 0) := (blk_cell BK320.out 1).trans rfl
           have hfs15 := blk_frozen BK320.out 1
           have hns15_1 := NB321_320.out
           have hms15_1 := NB320_321.out
           have hs16 : w'.cell? ⟨gb320, 2, none⟩ = some (.string (⟨#[]⟩ : ByteArray)) := (blk_cell BK320.out 2).trans rfl
           have hfs16 := blk_frozen BK320.out 2
           have hns16_1 := NB321_320.out
           have hms16_1 := NB320_321.out
           have hs17 : w'.cell? ⟨gb320, 3, none⟩ = some (.bool false) := (blk_cell BK320.out 3).trans rfl
           have hfs17 := blk_frozen BK320.out 3
           have hns17_1 := NB321_320.out
           have hms17_1 := NB320_321.out
           have hs18 : w'.cell? ⟨gb320, 4, none⟩ = some (.int .i64 0) := (blk_cell BK320.out 4).trans rfl
           have hfs18 := blk_frozen BK320.out 4
           have hns18_1 := NB321_320.out
           have hms18_1 := NB320_321.out
           have hs19 : w'.cell? ⟨gb320, 5, none⟩ = some (.int .i64 0) := (blk_cell BK320.out 5).trans rfl
           have hfs19 := blk_frozen BK320.out 5
           have hns19_1 := NB321_320.out
           have hms19_1 := NB320_321.out
           refine skip_ (w1 := ?_) (by rfl) rfl ?_ ?_
           rotate_left
           ·go_simp
            rfl
           refine hK.out _ _ ⟨gb320, gb321, m8_, m9_, (by rw [ha.out]; exact putSel_none (v := undef) rfl), (by repeat (first | (with_reducible first | exact HB.out | apply below_alloc | apply pw_below_drewN | apply below_drew1 | refine below_set ?_ GE320.out | refine below_set ?_ GE321.out) | exact HB.out)), fun _ _ => NB321_320.out, fun _ _ => NB320_321.out, fun _ h1_ => absurd ((up_self b 10).symm.trans h1_) (by decide), fun _ => GW320.out, fun _ => GE320.out, fun _ _ => (by (with_reducible repeat (first | refine blk_drewN ?_ _ | refine blk_drew ?_ | refine blk_alloc ?_ _)); refine blk_far ?_ NB321_320.out _; (with_reducible repeat (first | refine blk_drewN ?_ _ | refine blk_drew ?_ | refine blk_alloc ?_ _)); refine blk_far ?_ NB321_320.out _; (with_reducible repeat (first | refine blk_drewN ?_ _ | refine blk_drew ?_ | refine blk_alloc ?_ _)); refine blk_far ?_ NB321_320.out _; (with_reducible repeat (first | refine blk_drewN ?_ _ | refine blk_drew ?_ | refine blk_alloc ?_ _)); refine blk_far ?_ NB321_320.out _; (with_reducible repeat (first | refine blk_drewN ?_ _ | refine blk_drew ?_ | refine blk_alloc ?_ _)); refine blk_far ?_ NB321_320.out _; (with_reducible repeat (first | refine blk_drewN ?_ _ | refine blk_drew ?_ | refine blk_alloc ?_ _)); refine blk_far ?_ NB321_320.out _; (with_reducible repeat (first | refine blk_drewN ?_ _ | refine blk_drew ?_ | refine blk_alloc ?_ _)); exact BK321.out), fun _ => GW321.out, fun _ => GE321.out, fun _ => (by (with_reducible repeat (first | refine blk_drewN ?_ _ | refine blk_drew ?_ | refine blk_alloc ?_ _)); refine blk_put (cs := #[.int .i64 ((rd_T36 l0 x7_1).f0), .int .i64 ((rd_T36 l0 x7_1).f1), .string ((rd_T36 l0 x7_1).f2), .bool ((rd_T36 l0 x7_1).f3.f0), .int .i64 ((rd_T36 l0 x7_1).f3.f1), .int .i64 0]) ?_ 5 _ rfl; (with_reducible repeat (first | refine blk_drewN ?_ _ | refine blk_drew ?_ | refine blk_alloc ?_ _)); refine blk_put (cs := #[.int .i64 ((rd_T36 l0 x7_1).f0), .int .i64 ((rd_T36 l0 x7_1).f1), .string ((rd_T36 l0 x7_1).f2), .bool ((rd_T36 l0 x7_1).f3.f0), .int .i64 0, .int .i64 0]) ?_ 4 _ rfl; (with_reducible repeat (first | refine blk_drewN ?_ _ | refine blk_drew ?_ | refine blk_alloc ?_ _)); refine blk_put (cs := #[.int .i64 ((rd_T36 l0 x7_1).f0), .int .i64 ((rd_T36 l0 x7_1).f1), .string ((rd_T36 l0 x7_1).f2), .bool false, .int .i64 0, .int .i64 0]) ?_ 3 _ rfl; (with_reducible repeat (first | refine blk_drewN ?_ _ | refine blk_drew ?_ | refine blk_alloc ?_ _)); refine blk_put (cs := #[.int .i64 ((rd_T36 l0 x7_1).f0), .int .i64 ((rd_T36 l0 x7_1).f1), .string (⟨#[]⟩ : ByteArray), .bool false, .int .i64 0, .int .i64 0]) ?_ 2 _ rfl; (with_reducible repeat (first | refine blk_drewN ?_ _ | refine blk_drew ?_ | refine blk_alloc ?_ _)); refine blk_put (cs := #[.int .i64 ((rd_T36 l0 x7_1).f0), .int .i64 0, .string (⟨#[]⟩ : ByteArray), .bool false, .int .i64 0, .int .i64 0]) ?_ 1 _ rfl; (with_reducible repeat (first | refine blk_drewN ?_ _ | refine blk_drew ?_ | refine blk_alloc ?_ _)); refine blk_put (cs := #[.int .i64 0, .int .i64 0, .string (⟨#[]⟩ : ByteArray), .bool false, .int .i64 0, .int .i64 0]) ?_ 0 _ rfl; (with_reducible repeat (first | refine blk_drewN ?_ _ | refine blk_drew ?_ | refine blk_alloc ?_ _)); exact BK320.out), fun h0_ => absurd ((hoff 11 (by kernel_rfl)).symm.trans h0_) (by decide), Q_X8_, Q_X9_⟩
          refine steps_cons ?_ ?_
          ·rintro b a w' ⟨gb320, gb321, m8_, m9_, ha, Q_HB, Q_NB321_320, Q_NB320_321, Q_BK320, Q_GW320, Q_GE320, Q_BK321, Q_GW321, Q_GE321, Q_BK320_e10, Q_BK321_e11, Q_X8_, Q_X9_⟩ hb_ hon hoff
           refine ⟨_, rfl, fun K hK => ?_⟩
           have e9 : a.tmps[9]? = some (m9_) := by rw [ha]; exact putSel_on (e := (9, 9, m9_)) 5 rfl rfl (hon 9 (by kernel_rfl)) rfl
           rw [Q_X9_ (hon 9 (by kernel_rfl))] at e9
           have e28 : a.tmps[28]? = some (.agg #[.int .i64 ((rd_T36 l1 x7_1).f0), .int .i64 ((rd_T36 l1 x7_1).f1), .string ((rd_T36 l1 x7_1).f2), .bool ((rd_T36 l1 x7_1).f3.f0), .int .i64 ((rd_T36 l1 x7_1).f3.f1), .int .i64 ((rd_T36 l1 x7_1).f4)]) := by rw [ha]; exact putSel_on (e := (7, 28, .agg #[.int .i64 ((rd_T36 l1 x7_1).f0), .int .i64 ((rd_T36 l1 x7_1).f1), .string ((rd_T36 l1 x7_1).f2), .bool ((rd_T36 l1 x7_1).f3.f0), .int .i64 ((rd_T36 l1 x7_1).f3.f1), .int .i64 ((rd_T36 l1 x7_1).f4)])) 3 rfl rfl (hon 7 (by kernel_rfl)) rfl
           replace ha := Aside0.mk ha
           have HB := Aside0.mk Q_HB
           have NB321_320 := Aside0.mk (Q_NB321_320 (hon 8 (by kernel_rfl)) (hon 9 (by kernel_rfl)))
           have NB320_321 := Aside0.mk (Q_NB320_321 (hon 8 (by kernel_rfl)) (hon 9 (by kernel_rfl)))
           have GW320 := Aside0.mk (Q_GW320 (hon 8 (by kernel_rfl)))
           have GE320 := Aside0.mk (Q_GE320 (hon 8 (by kernel_rfl)))
           have BK321 := Aside0.mk (Q_BK321 (hon 9 (by kernel_rfl)) hb_)
           have GW321 := Aside0.mk (Q_GW321 (hon 9 (by kernel_rfl)))
           have GE321 := Aside0.mk (Q_GE321 (hon 9 (by kernel_rfl)))
           have BK320 := Aside0.mk (Q_BK320_e10 (hon 10 (by kernel_rfl)))
           have hs20 : w'.cell? ⟨gb321, 0, none⟩ = some (.int .i64 0) := (blk_cell BK321.out 0).trans rfl
           have hfs20 := blk_frozen BK321.out 0
           have hns20_0 := NB320_321.out
           have hms20_0 := NB321_320.out
           have hs21 : w'.cell? ⟨gb321, 1, none⟩ = some (.int .i64 0) := (blk_cell BK321.out 1).trans rfl
           have hfs21 := blk_frozen BK321.out 1
           have hns21_0 := NB320_321.out
           have hms21_0 := NB321_320.out
           have hs22 : w'.cell? ⟨gb321, 2, none⟩ = some (.string (⟨#[]⟩ : ByteArray)) := (blk_cell BK321.out 2).trans rfl
           have hfs22 := blk_frozen BK321.out 2
           have hns22_0 := NB320_321.out
           have hms22_0 := NB321_320.out
           have hs23 : w'.cell? ⟨gb321, 3, none⟩ = some (.bool false) := (blk_cell BK321.out 3).trans rfl
           have hfs23 := blk_frozen BK321.out 3
           have hns23_0 := NB320_321.out
           have hms23_0 := NB321_320.out
           have hs24 : w'.cell? ⟨gb321, 4, none⟩ = some (.int .i64 0) := (blk_cell BK321.out 4).trans rfl
           have hfs24 := blk_frozen BK321.out 4
           have hns24_0 := NB320_321.out
           have hms24_0 := NB321_320.out
           have hs25 : w'.cell? ⟨gb321, 5, none⟩ = some (.int .i64 0) := (blk_cell BK321.out 5).trans rfl
           have hfs25 := blk_frozen BK321.out 5
           have hns25_0 := NB320_321.out
           have hms25_0 := NB321_320.out
           refine skip_ (w1 := ?_) (by rfl) rfl ?_ ?_
           rotate_left
           ·go_simp
            rfl
           refine hK.out _ _ ⟨gb320, gb321, m8_, m9_, (by rw [ha.out]; exact putSel_none (v := undef) rfl), (by repeat (first | (with_reducible first | exact HB.out | apply below_alloc | apply pw_below_drewN | apply below_drew1 | refine below_set ?_ GE320.out | refine below_set ?_ GE321.out) | exact HB.out)), fun _ _ => NB321_320.out, fun _ _ => NB320_321.out, fun _ h1_ => absurd ((hon 10 (by kernel_rfl)).symm.trans h1_) (by decide), fun _ => GW320.out, fun _ => GE320.out, fun _ h1_ => absurd ((up_self b 11).symm.trans h1_) (by decide), fun _ => GW321.out, fun _ => GE321.out, fun _ => (by (with_reducible repeat (first | refine blk_drewN ?_ _ | refine blk_drew ?_ | refine blk_alloc ?_ _)); refine blk_far ?_ NB320_321.out _; (with_reducible repeat (first | refine blk_drewN ?_ _ | refine blk_drew ?_ | refine blk_alloc ?_ _)); refine blk_far ?_ NB320_321.out _; (with_reducible repeat (first | refine blk_drewN ?_ _ | refine blk_drew ?_ | refine blk_alloc ?_ _)); refine blk_far ?_ NB320_321.out _; (with_reducible repeat (first | refine blk_drewN ?_ _ | refine blk_drew ?_ | refine blk_alloc ?_ _)); refine blk_far ?_ NB320_321.out _; (with_reducible repeat (first | refine blk_drewN ?_ _ | refine blk_drew ?_ | refine blk_alloc ?_ _)); refine blk_far ?_ NB320_321.out _; (with_reducible repeat (first | refine blk_drewN ?_ _ | refine blk_drew ?_ | refine blk_alloc ?_ _)); refine blk_far ?_ NB320_321.out _; (with_reducible repeat (first | refine blk_drewN ?_ _ | refine blk_drew ?_ | refine blk_alloc ?_ _)); exact BK320.out), fun _ => (by (with_reducible repeat (first | refine blk_drewN ?_ _ | refine blk_drew ?_ | refine blk_alloc ?_ _)); refine blk_put (cs := #[.int .i64 ((rd_T36 l1 x7_1).f0), .int .i64 ((rd_T36 l1 x7_1).f1), .string ((rd_T36 l1 x7_1).f2), .bool ((rd_T36 l1 x7_1).f3.f0), .int .i64 ((rd_T36 l1 x7_1).f3.f1), .int .i64 0]) ?_ 5 _ rfl; (with_reducible repeat (first | refine blk_drewN ?_ _ | refine blk_drew ?_ | refine blk_alloc ?_ _)); refine blk_put (cs := #[.int .i64 ((rd_T36 l1 x7_1).f0), .int .i64 ((rd_T36 l1 x7_1).f1), .string ((rd_T36 l1 x7_1).f2), .bool ((rd_T36 l1 x7_1).f3.f0), .int .i64 0, .int .i64 0]) ?_ 4 _ rfl; (with_reducible repeat (first | refine blk_drewN ?_ _ | refine blk_drew ?_ | refine blk_alloc ?_ _)); refine blk_put (cs := #[.int .i64 ((rd_T36 l1 x7_1).f0), .int .i64 ((rd_T36 l1 x7_1).f1), .string ((rd_T36 l1 x7_1).f2), .bool false, .int .i64 0, .int .i64 0]) ?_ 3 _ rfl; (with_reducible repeat (first | refine blk_drewN ?_ _ | refine blk_drew ?_ | refine blk_alloc ?_ _)); refine blk_put (cs := #[.int .i64 ((rd_T36 l1 x7_1).f0), .int .i64 ((rd_T36 l1 x7_1).f1), .string (⟨#[]⟩ : ByteArray), .bool false, .int .i64 0, .int .i64 0]) ?_ 2 _ rfl; (with_reducible repeat (first | refine blk_drewN ?_ _ | refine blk_drew ?_ | refine blk_alloc ?_ _)); refine blk_put (cs := #[.int .i64 ((rd_T36 l1 x7_1).f0), .int .i64 0, .string (⟨#[]⟩ : ByteArray), .bool false, .int .i64 0, .int .i64 0]) ?_ 1 _ rfl; (with_reducible repeat (first | refine blk_drewN ?_ _ | refine blk_drew ?_ | refine blk_alloc ?_ _)); refine blk_put (cs := #[.int .i64 0, .int .i64 0, .string (⟨#[]⟩ : ByteArray), .bool false, .int .i64 0, .int .i64 0]) ?_ 0 _ rfl; (with_reducible repeat (first | refine blk_drewN ?_ _ | refine blk_drew ?_ | refine blk_alloc ?_ _)); exact BK321.out), Q_X8_, Q_X9_⟩
          exact steps_nil
         rintro b a w25 hall ⟨gb320, gb321, m8_, m9_, ha, Q_HB, Q_NB321_320, Q_NB320_321, Q_BK320, Q_GW320, Q_GE320, Q_BK321, Q_GW321, Q_GE321, Q_BK320_e10, Q_BK321_e11, Q_X8_, Q_X9_⟩
         clear HB
         have hb2_ := hall 2 (by kernel_rfl)
         have hb3_ := hall 3 (by kernel_rfl)
         have hb6_ := hall 6 (by kernel_rfl)
         have hb7_ := hall 7 (by kernel_rfl)
         have hb8_ := hall 8 (by kernel_rfl)
         have hb9_ := hall 9 (by kernel_rfl)
         have hb10_ := hall 10 (by kernel_rfl)
         have hb11_ := hall 11 (by kernel_rfl)
         subst ha
         obtain rfl := Q_X8_ hb8_
         obtain rfl := Q_X9_ hb9_
         simp only [putSel, hb2_, hb3_, hb6_, hb7_, hb8_, hb9_, hb10_, hb11_, if_true, Act.put, List.setIfInBounds_toArray, List.set_cons_zero, List.set_cons_succ]
         have HB := Aside0.mk Q_HB
         clear Q_HB
         have NB321_320 := Aside0.mk (Q_NB321_320 hb8_ hb9_)
         clear Q_NB321_320
         have NB320_321 := Aside0.mk (Q_NB320_321 hb8_ hb9_)
         clear Q_NB320_321
         clear Q_BK320
         have GW320 := Aside0.mk (Q_GW320 hb8_)
         clear Q_GW320
         have GE320 := Aside0.mk (Q_GE320 hb8_)
         clear Q_GE320
         clear Q_BK321
         have GW321 := Aside0.mk (Q_GW321 hb9_)
         clear Q_GW321
         have GE321 := Aside0.mk (Q_GE321 hb9_)
         clear Q_GE321
         have BK320 := Aside0.mk (Q_BK320_e10 hb10_)
         clear Q_BK320_e10
         have BK321 := Aside0.mk (Q_BK321_e11 hb11_)
         clear Q_BK321_e11
         clear hall hb2_ hb3_ hb6_ hb7_ hb8_ hb9_ hb10_ hb11_
         have hnb26 := NB320_321.out
         have hnc26 := NB321_320.out
         have hcz27_0 : w25.cell? ⟨gb320, 0, none⟩ = some (.int .i64 ((rd_T36 l0 x7_1).f0)) := (blk_cell BK320.out 0).trans rfl
         have hcz27_1 : w25.cell? ⟨gb320, 1, none⟩ = some (.int .i64 ((rd_T36 l0 x7_1).f1)) := (blk_cell BK320.out 1).trans rfl
         have hcz27_2 : w25.cell? ⟨gb320, 2, none⟩ = some (.string ((rd_T36 l0 x7_1).f2)) := (blk_cell BK320.out 2).trans rfl
         have hcz27_3 : w25.cell? ⟨gb320, 3, none⟩ = some (.bool ((rd_T36 l0 x7_1).f3.f0)) := (blk_cell BK320.out 3).trans rfl
         have hcz27_4 : w25.cell? ⟨gb320, 4, none⟩ = some (.int .i64 ((rd_T36 l0 x7_1).f3.f1)) := (blk_cell BK320.out 4).trans rfl
         have hcz27_5 : w25.cell? ⟨gb320, 5, none⟩ = some (.int .i64 ((rd_T36 l0 x7_1).f4)) := (blk_cell BK320.out 5).trans rfl
         have hfz27_0 := blk_frozen BK320.out 0
         have hfz27_1 := blk_frozen BK320.out 1
         have hfz27_2 := blk_frozen BK320.out 2
         have hfz27_3 := blk_frozen BK320.out 3
         have hfz27_4 := blk_frozen BK320.out 4
         have hfz27_5 := blk_frozen BK320.out 5
         have hcz28_0 : w25.cell? ⟨gb321, 0, none⟩ = some (.int .i64 ((rd_T36 l1 x7_1).f0)) := (blk_cell BK321.out 0).trans rfl
         have hcz28_1 : w25.cell? ⟨gb321, 1, none⟩ = some (.int .i64 ((rd_T36 l1 x7_1).f1)) := (blk_cell BK321.out 1).trans rfl
         have hcz28_2 : w25.cell? ⟨gb321, 2, none⟩ = some (.string ((rd_T36 l1 x7_1).f2)) := (blk_cell BK321.out 2).trans rfl
         have hcz28_3 : w25.cell? ⟨gb321, 3, none⟩ = some (.bool ((rd_T36 l1 x7_1).f3.f0)) := (blk_cell BK321.out 3).trans rfl
         have hcz28_4 : w25.cell? ⟨gb321, 4, none⟩ = some (.int .i64 ((rd_T36 l1 x7_1).f3.f1)) := (blk_cell BK321.out 4).trans rfl
         have hcz28_5 : w25.cell? ⟨gb321, 5, none⟩ = some (.int .i64 ((rd_T36 l1 x7_1).f4)) := (blk_cell BK321.out 5).trans rfl
         have hfz28_0 := blk_frozen BK321.out 0
         have hfz28_1 := blk_frozen BK321.out 1
         have hfz28_2 := blk_frozen BK321.out 2
         have hfz28_3 := blk_frozen BK321.out 3
         have hfz28_4 := blk_frozen BK321.out 4
         have hfz28_5 := blk_frozen BK321.out 5
         try go_wp2
         go_roundg k1
         case measure => have := HK1.out; omega
         case rel => exact ⟨(wrap64 (x7_1 + 1)), (by first | rfl | (simp; done) | (simp [*]; done)), H', ⟨by have := HK1.out; omega⟩, ⟨by repeat (first | (with_reducible first | exact HB.out | apply below_alloc | apply pw_below_drewN | apply below_drew1 | refine below_set ?_ GE320.out | refine below_set ?_ GE321.out) | exact HB.out)⟩⟩
       ·replace c8 := Bool.eq_false_iff.mpr c8
        subst c8
        have H1 : (if (!(((rd_T36 l0 x7_1).f0) == ((rd_T36 l1 x7_1).f0)) || (!((((rd_T36 l0 x7_1).f2).toList) == (((rd_T36 l1 x7_1).f2).toList)) || ((!(((rd_T36 l0 x7_1).f3.f0) == ((rd_T36 l1 x7_1).f3.f0)) || (!(((rd_T36 l0 x7_1).f3.f1) == ((rd_T36 l1 x7_1).f3.f1)))) || (!(((rd_T36 l0 x7_1).f4) == ((rd_T36 l1 x7_1).f4)))))) = true then (none) else (spillwaylaw7_same.l0 k1 l0 l1 false (wrap64 (x7_1 + 1)))) = some r := by rw [if_neg (show ¬ (false = true) by decide)] at H; exact H
        clear H
        have H := H1
        clear H1
        by_cases c29 : (!(((rd_T36 l0 x7_1).f0) == ((rd_T36 l1 x7_1).f0)) || (!((((rd_T36 l0 x7_1).f2).toList) == (((rd_T36 l1 x7_1).f2).toList)) || ((!(((rd_T36 l0 x7_1).f3.f0) == ((rd_T36 l1 x7_1).f3.f0)) || (!(((rd_T36 l0 x7_1).f3.f1) == ((rd_T36 l1 x7_1).f3.f1)))) || (!(((rd_T36 l0 x7_1).f4) == ((rd_T36 l1 x7_1).f4)))))) = true
        ·rw [if_pos c29] at H
         exact absurd H (by simp)
        ·rw [if_neg c29] at H
         have c29b0 : (!(((rd_T36 l0 x7_1).f0) == ((rd_T36 l1 x7_1).f0)) || (!((((rd_T36 l0 x7_1).f2).toList) == (((rd_T36 l1 x7_1).f2).toList)) || ((!(((rd_T36 l0 x7_1).f3.f0) == ((rd_T36 l1 x7_1).f3.f0)) || (!(((rd_T36 l0 x7_1).f3.f1) == ((rd_T36 l1 x7_1).f3.f1)))) || (!(((rd_T36 l0 x7_1).f4) == ((rd_T36 l1 x7_1).f4)))))) = false := by simpa using c29
         clear c29
         have H' := Aside0.mk H
         clear H
         try go_wp2
         have n0_ := Aside0.mk (below_drew1 HB.out)
         clear HB
         have HB := n0_
         clear n0_
         have p318 : 0 ≤ (x7_1 : Int) := of_decide_eq_true (by first | (with_reducible assumption) | assumption)
         have q318 : x7_1 < (l0.length : Int) := of_decide_eq_true (by first | (with_reducible assumption) | assumption)
         obtain ⟨ad318, e318, hx318_0, hx318_1, hx318_2, hx318_3, hx318_4, hx318_5⟩ := at_T36 HR0.out x7_1 p318 q318
         have hw318_5 := hx318_5
         have hw318_4 := hx318_4
         have hw318_3 := hx318_3
         have hw318_2 := hx318_2
         have hw318_1 := hx318_1
         have hw318_0 := hx318_0
         cases e318
         replace hx318_0 := (HB.out.cell (World.block_lt_of_cell? w _ hx318_0)).trans hx318_0
         replace hx318_1 := (HB.out.cell (World.block_lt_of_cell? w _ hx318_1)).trans hx318_1
         replace hx318_2 := (HB.out.cell (World.block_lt_of_cell? w _ hx318_2)).trans hx318_2
         replace hx318_3 := (HB.out.cell (World.block_lt_of_cell? w _ hx318_3)).trans hx318_3
         replace hx318_4 := (HB.out.cell (World.block_lt_of_cell? w _ hx318_4)).trans hx318_4
         replace hx318_5 := (HB.out.cell (World.block_lt_of_cell? w _ hx318_5)).trans hx318_5
         replace p318 := eq_true p318
         replace q318 := eq_true q318
         have p319 : 0 ≤ (x7_1 : Int) := of_decide_eq_true (by first | (with_reducible assumption) | assumption)
         have q319 : x7_1 < (l1.length : Int) := of_decide_eq_true (by first | (with_reducible assumption) | assumption)
         obtain ⟨ad319, e319, hx319_0, hx319_1, hx319_2, hx319_3, hx319_4, hx319_5⟩ := at_T36 HR1.out x7_1 p319 q319
         have hw319_5 := hx319_5
         have hw319_4 := hx319_4
         have hw319_3 := hx319_3
         have hw319_2 := hx319_2
         have hw319_1 := hx319_1
         have hw319_0 := hx319_0
         cases e319
         replace hx319_0 := (HB.out.cell (World.block_lt_of_cell? w _ hx319_0)).trans hx319_0
         replace hx319_1 := (HB.out.cell (World.block_lt_of_cell? w _ hx319_1)).trans hx319_1
         replace hx319_2 := (HB.out.cell (World.block_lt_of_cell? w _ hx319_2)).trans hx319_2
         replace hx319_3 := (HB.out.cell (World.block_lt_of_cell? w _ hx319_3)).trans hx319_3
         replace hx319_4 := (HB.out.cell (World.block_lt_of_cell? w _ hx319_4)).trans hx319_4
         replace hx319_5 := (HB.out.cell (World.block_lt_of_cell? w _ hx319_5)).trans hx319_5
         replace p319 := eq_true p319
         replace q319 := eq_true q319
         refine start_ (n := 12) (S := fun w' => True) (ds := []) #[false, false, false, false, false, false, false, false, false, false, false, false] (by kernel_rfl) rfl rfl trivial (fun hHeld => ?_); refine with_tabW spillwaylaw7_same.tab6 spillwaylaw7_same.bits6 (fun HT_ HW_ => ?_)
         generalize wr.drew = w30 at HB hx318_0 hx318_1 hx318_2 hx318_3 hx318_4 hx318_5 hx319_0 hx319_1 hx319_2 hx319_3 hx319_4 hx319_5 hHeld ⊢
         refine pure_ (i := 0) (N := some 21) (v := ?_) (a' := ?_) #[true, false, false, false, false, false, false, false, false, false, false, false] rfl rfl (any_of HT_.out (by kernel_rfl)) (fun _ _ _ h => h) (Or.inl ⟨by rfl, ?_⟩) ?_ ?_
         rotate_left
         ·intro w'
          go_simp
          with_reducible rfl
         rotate_left
         ·simp only [Act.put, List.setIfInBounds_toArray, List.set_cons_zero, List.set_cons_succ, i64_w, i32_w]
          rfl
         refine pure_ (i := 1) (N := some 22) (v := ?_) (a' := ?_) #[true, true, false, false, false, false, false, false, false, false, false, false] rfl rfl (any_of HT_.out (by kernel_rfl)) (fun _ _ _ h => h) (Or.inl ⟨by rfl, ?_⟩) ?_ ?_
         rotate_left
         ·intro w'
          go_simp
          with_reducible rfl
         rotate_left
         ·simp only [Act.put, List.setIfInBounds_toArray, List.set_cons_zero, List.set_cons_succ, i64_w, i32_w]
          rfl
         refine pure_ (i := 4) (N := some 25) (v := ?_) (a' := ?_) #[true, true, false, false, true, false, false, false, false, false, false, false] rfl rfl (any_of HT_.out (by kernel_rfl)) (fun _ _ _ h => h) (Or.inl ⟨by rfl, ?_⟩) ?_ ?_
         rotate_left
         ·intro w'
          go_simp
          with_reducible rfl
         rotate_left
         ·simp only [Act.put, List.setIfInBounds_toArray, List.set_cons_zero, List.set_cons_succ, i64_w, i32_w]
          rfl
         refine pure_ (i := 5) (N := some 26) (v := ?_) (a' := ?_) #[true, true, false, false, true, true, false, false, false, false, false, false] rfl rfl (any_of HT_.out (by kernel_rfl)) (fun _ _ _ h => h) (Or.inl ⟨by rfl, ?_⟩) ?_ ?_
         rotate_left
         ·intro w'
          go_simp
          with_reducible rfl
         rotate_left
         ·simp only [Act.put, List.setIfInBounds_toArray, List.set_cons_zero, List.set_cons_succ, i64_w, i32_w]
          rfl
         refine inv_at [2, 3, 6, 7, 8, 9, 10, 11] (fun a0_ b a w' => ∃ (gb320 : Nat) (gb321 : Nat) (m8_ : Value) (m9_ : Value), a = putSel a0_ b [(2, 23, .pointer (some (ad318.add ((x7_1).toNat * 6)))), (3, 24, .agg #[.int .i64 ((rd_T36 l0 x7_1).f0), .int .i64 ((rd_T36 l0 x7_1).f1), .string ((rd_T36 l0 x7_1).f2), .bool ((rd_T36 l0 x7_1).f3.f0), .int .i64 ((rd_T36 l0 x7_1).f3.f1), .int .i64 ((rd_T36 l0 x7_1).f4)]), (6, 27, .pointer (some (ad319.add ((x7_1).toNat * 6)))), (7, 28, .agg #[.int .i64 ((rd_T36 l1 x7_1).f0), .int .i64 ((rd_T36 l1 x7_1).f1), .string ((rd_T36 l1 x7_1).f2), .bool ((rd_T36 l1 x7_1).f3.f0), .int .i64 ((rd_T36 l1 x7_1).f3.f1), .int .i64 ((rd_T36 l1 x7_1).f4)]), (8, 8, m8_), (9, 9, m9_)] ∧ (Below w.heap.size w w') ∧ (b 8 = true → b 9 = true → gb321 ≠ gb320) ∧ (b 8 = true → b 9 = true → gb320 ≠ gb321) ∧ (b 8 = true → b 10 = false → w'.heap[gb320]? = some (.cells #[.int .i64 0, .int .i64 0, .string (⟨#[]⟩ : ByteArray), .bool false, .int .i64 0, .int .i64 0] 36 (0, 0))) ∧ (b 8 = true → w.heap.size ≤ gb320) ∧ (b 8 = true → w.heap.size ≤ gb320) ∧ (b 9 = true → b 11 = false → w'.heap[gb321]? = some (.cells #[.int .i64 0, .int .i64 0, .string (⟨#[]⟩ : ByteArray), .bool false, .int .i64 0, .int .i64 0] 36 (0, 0))) ∧ (b 9 = true → w.heap.size ≤ gb321) ∧ (b 9 = true → w.heap.size ≤ gb321) ∧ (b 10 = true → w'.heap[gb320]? = some (.cells #[.int .i64 ((rd_T36 l0 x7_1).f0), .int .i64 ((rd_T36 l0 x7_1).f1), .string ((rd_T36 l0 x7_1).f2), .bool ((rd_T36 l0 x7_1).f3.f0), .int .i64 ((rd_T36 l0 x7_1).f3.f1), .int .i64 ((rd_T36 l0 x7_1).f4)] 36 (0, 0))) ∧ (b 11 = true → w'.heap[gb321]? = some (.cells #[.int .i64 ((rd_T36 l1 x7_1).f0), .int .i64 ((rd_T36 l1 x7_1).f1), .string ((rd_T36 l1 x7_1).f2), .bool ((rd_T36 l1 x7_1).f3.f0), .int .i64 ((rd_T36 l1 x7_1).f3.f1), .int .i64 ((rd_T36 l1 x7_1).f4)] 36 (0, 0))) ∧ (b 8 = true → (m8_ : Value) = .pointer (some ⟨gb320, 0, none⟩)) ∧ (b 9 = true → (m9_ : Value) = .pointer (some ⟨gb321, 0, none⟩))) HT_.out HW_.out (by kernel_rfl) (by kernel_rfl) ?_ ?_ ?_
         ·exact ⟨0, 0, .bool false, .bool false, by simp only [putSel, Bool.false_eq_true, if_false], HB.out, fun h_ => absurd h_ (by decide), fun h_ => absurd h_ (by decide), fun h_ => absurd h_ (by decide), fun h_ => absurd h_ (by decide), fun h_ => absurd h_ (by decide), fun h_ => absurd h_ (by decide), fun h_ => absurd h_ (by decide), fun h_ => absurd h_ (by decide), fun h_ => absurd h_ (by decide), fun h_ => absurd h_ (by decide), fun h_ => absurd h_ (by decide), fun h_ => absurd h_ (by decide)⟩
         ·skip
          clear HB
          refine steps_cons ?_ ?_
          ·rintro b a w' ⟨gb320, gb321, m8_, m9_, ha, Q_HB, Q_NB321_320, Q_NB320_321, Q_BK320, Q_GW320, Q_GE320, Q_BK321, Q_GW321, Q_GE321, Q_BK320_e10, Q_BK321_e11, Q_X8_, Q_X9_⟩ hb_ hon hoff
           refine ⟨_, rfl, fun K hK => ?_⟩
           have e21 : a.tmps[21]? = some (.slice (some ad318) l0.length c0) := by rw [ha]; exact (putSel_off rfl).trans rfl
           have e22 : a.tmps[22]? = some (.int .i64 x7_1) := by rw [ha]; exact (putSel_off rfl).trans rfl
           replace ha := Aside0.mk ha
           have HB := Aside0.mk Q_HB
           have hs0_ : w'.cell? (ad318.add ((x7_1).toNat * 6)) = some (.int .i64 ((rd_T36 l0 x7_1).f0)) := ((HB.out.cell (World.block_lt_of_cell? w _ hw318_0)).trans hw318_0)
           have hs1_ : w'.cell? ⟨(ad318.add ((x7_1).toNat * 6)).block, (ad318.add ((x7_1).toNat * 6)).off + 1, none⟩ = some (.int .i64 ((rd_T36 l0 x7_1).f1)) := ((HB.out.cell (World.block_lt_of_cell? w _ hw318_1)).trans hw318_1)
           have hs2_ : w'.cell? ⟨(ad318.add ((x7_1).toNat * 6)).block, (ad318.add ((x7_1).toNat * 6)).off + 2, none⟩ = some (.string ((rd_T36 l0 x7_1).f2)) := ((HB.out.cell (World.block_lt_of_cell? w _ hw318_2)).trans hw318_2)
           have hs3_ : w'.cell? ⟨(ad318.add ((x7_1).toNat * 6)).block, (ad318.add ((x7_1).toNat * 6)).off + 3, none⟩ = some (.bool ((rd_T36 l0 x7_1).f3.f0)) := ((HB.out.cell (World.block_lt_of_cell? w _ hw318_3)).trans hw318_3)
           have hs4_ : w'.cell? ⟨(ad318.add ((x7_1).toNat * 6)).block, (ad318.add ((x7_1).toNat * 6)).off + 4, none⟩ = some (.int .i64 ((rd_T36 l0 x7_1).f3.f1)) := ((HB.out.cell (World.block_lt_of_cell? w _ hw318_4)).trans hw318_4)
           have hs5_ : w'.cell? ⟨(ad318.add ((x7_1).toNat * 6)).block, (ad318.add ((x7_1).toNat * 6)).off + 5, none⟩ = some (.int .i64 ((rd_T36 l0 x7_1).f4)) := ((HB.out.cell (World.block_lt_of_cell? w _ hw318_5)).trans hw318_5)
           refine value_ (w1 := w') (v := .pointer (some (ad318.add ((x7_1).toNat * 6)))) (by rfl) rfl ?_ ?_
           ·go_simp
            (try simp only [i64_w])
            try rfl
           refine hK.out _ _ ⟨gb320, gb321, m8_, m9_, (by rw [ha.out]; exact putSel_upk 0 hb_ rfl rfl rfl), Q_HB, Q_NB321_320, Q_NB320_321, Q_BK320, Q_GW320, Q_GE320, Q_BK321, Q_GW321, Q_GE321, fun h0_ => absurd ((hoff 10 (by kernel_rfl)).symm.trans h0_) (by decide), fun h0_ => absurd ((hoff 11 (by kernel_rfl)).symm.trans h0_) (by decide), Q_X8_, Q_X9_⟩
          refine steps_cons ?_ ?_
          ·rintro b a w' ⟨gb320, gb321, m8_, m9_, ha, Q_HB, Q_NB321_320, Q_NB320_321, Q_BK320, Q_GW320, Q_GE320, Q_BK321, Q_GW321, Q_GE321, Q_BK320_e10, Q_BK321_e11, Q_X8_, Q_X9_⟩ hb_ hon hoff
           refine ⟨_, rfl, fun K hK => ?_⟩
           have e23 : a.tmps[23]? = some (.pointer (some (ad318.add ((x7_1).toNat * 6)))) := by rw [ha]; exact putSel_on (e := (2, 23, .pointer (some (ad318.add ((x7_1).toNat * 6))))) 0 rfl rfl (hon 2 (by kernel_rfl)) rfl
           replace ha := Aside0.mk ha
           have HB := Aside0.mk Q_HB
           have hs0_ : w'.cell? (ad318.add ((x7_1).toNat * 6)) = some (.int .i64 ((rd_T36 l0 x7_1).f0)) := ((HB.out.cell (World.block_lt_of_cell? w _ hw318_0)).trans hw318_0)
           have hs1_ : w'.cell? ⟨(ad318.add ((x7_1).toNat * 6)).block, (ad318.add ((x7_1).toNat * 6)).off + 1, none⟩ = some (.int .i64 ((rd_T36 l0 x7_1).f1)) := ((HB.out.cell (World.block_lt_of_cell? w _ hw318_1)).trans hw318_1)
           have hs2_ : w'.cell? ⟨(ad318.add ((x7_1).toNat * 6)).block, (ad318.add ((x7_1).toNat * 6)).off + 2, none⟩ = some (.string ((rd_T36 l0 x7_1).f2)) := ((HB.out.cell (World.block_lt_of_cell? w _ hw318_2)).trans hw318_2)
           have hs3_ : w'.cell? ⟨(ad318.add ((x7_1).toNat * 6)).block, (ad318.add ((x7_1).toNat * 6)).off + 3, none⟩ = some (.bool ((rd_T36 l0 x7_1).f3.f0)) := ((HB.out.cell (World.block_lt_of_cell? w _ hw318_3)).trans hw318_3)
           have hs4_ : w'.cell? ⟨(ad318.add ((x7_1).toNat * 6)).block, (ad318.add ((x7_1).toNat * 6)).off + 4, none⟩ = some (.int .i64 ((rd_T36 l0 x7_1).f3.f1)) := ((HB.out.cell (World.block_lt_of_cell? w _ hw318_4)).trans hw318_4)
           have hs5_ : w'.cell? ⟨(ad318.add ((x7_1).toNat * 6)).block, (ad318.add ((x7_1).toNat * 6)).off + 5, none⟩ = some (.int .i64 ((rd_T36 l0 x7_1).f4)) := ((HB.out.cell (World.block_lt_of_cell? w _ hw318_5)).trans hw318_5)
           refine value_ (w1 := w') (v := .agg #[.int .i64 ((rd_T36 l0 x7_1).f0), .int .i64 ((rd_T36 l0 x7_1).f1), .string ((rd_T36 l0 x7_1).f2), .bool ((rd_T36 l0 x7_1).f3.f0), .int .i64 ((rd_T36 l0 x7_1).f3.f1), .int .i64 ((rd_T36 l0 x7_1).f4)]) (by rfl) rfl ?_ ?_
           ·go_simp
            (try simp only [i64_w])
            try rfl
           refine hK.out _ _ ⟨gb320, gb321, m8_, m9_, (by rw [ha.out]; exact putSel_upk 1 hb_ rfl rfl rfl), Q_HB, Q_NB321_320, Q_NB320_321, Q_BK320, Q_GW320, Q_GE320, Q_BK321, Q_GW321, Q_GE321, fun h0_ => absurd ((hoff 10 (by kernel_rfl)).symm.trans h0_) (by decide), fun h0_ => absurd ((hoff 11 (by kernel_rfl)).symm.trans h0_) (by decide), Q_X8_, Q_X9_⟩
          refine steps_cons ?_ ?_
          ·rintro b a w' ⟨gb320, gb321, m8_, m9_, ha, Q_HB, Q_NB321_320, Q_NB320_321, Q_BK320, Q_GW320, Q_GE320, Q_BK321, Q_GW321, Q_GE321, Q_BK320_e10, Q_BK321_e11, Q_X8_, Q_X9_⟩ hb_ hon hoff
           refine ⟨_, rfl, fun K hK => ?_⟩
           have e25 : a.tmps[25]? = some (.slice (some ad319) l1.length c1) := by rw [ha]; exact (putSel_off rfl).trans rfl
           have e26 : a.tmps[26]? = some (.int .i64 x7_1) := by rw [ha]; exact (putSel_off rfl).trans rfl
           replace ha := Aside0.mk ha
           have HB := Aside0.mk Q_HB
           have hs6_ : w'.cell? (ad319.add ((x7_1).toNat * 6)) = some (.int .i64 ((rd_T36 l1 x7_1).f0)) := ((HB.out.cell (World.block_lt_of_cell? w _ hw319_0)).trans hw319_0)
           have hs7_ : w'.cell? ⟨(ad319.add ((x7_1).toNat * 6)).block, (ad319.add ((x7_1).toNat * 6)).off + 1, none⟩ = some (.int .i64 ((rd_T36 l1 x7_1).f1)) := ((HB.out.cell (World.block_lt_of_cell? w _ hw319_1)).trans hw319_1)
           have hs8_ : w'.cell? ⟨(ad319.add ((x7_1).toNat * 6)).block, (ad319.add ((x7_1).toNat * 6)).off + 2, none⟩ = some (.string ((rd_T36 l1 x7_1).f2)) := ((HB.out.cell (World.block_lt_of_cell? w _ hw319_2)).trans hw319_2)
           have hs9_ : w'.cell? ⟨(ad319.add ((x7_1).toNat * 6)).block, (ad319.add ((x7_1).toNat * 6)).off + 3, none⟩ = some (.bool ((rd_T36 l1 x7_1).f3.f0)) := ((HB.out.cell (World.block_lt_of_cell? w _ hw319_3)).trans hw319_3)
           have hs10_ : w'.cell? ⟨(ad319.add ((x7_1).toNat * 6)).block, (ad319.add ((x7_1).toNat * 6)).off + 4, none⟩ = some (.int .i64 ((rd_T36 l1 x7_1).f3.f1)) := ((HB.out.cell (World.block_lt_of_cell? w _ hw319_4)).trans hw319_4)
           have hs11_ : w'.cell? ⟨(ad319.add ((x7_1).toNat * 6)).block, (ad319.add ((x7_1).toNat * 6)).off + 5, none⟩ = some (.int .i64 ((rd_T36 l1 x7_1).f4)) := ((HB.out.cell (World.block_lt_of_cell? w _ hw319_5)).trans hw319_5)
           refine value_ (w1 := w') (v := .pointer (some (ad319.add ((x7_1).toNat * 6)))) (by rfl) rfl ?_ ?_
           ·go_simp
            (try simp only [i64_w])
            try rfl
           refine hK.out _ _ ⟨gb320, gb321, m8_, m9_, (by rw [ha.out]; exact putSel_upk 2 hb_ rfl rfl rfl), Q_HB, Q_NB321_320, Q_NB320_321, Q_BK320, Q_GW320, Q_GE320, Q_BK321, Q_GW321, Q_GE321, Q_BK320_e10, fun h0_ => absurd ((hoff 11 (by kernel_rfl)).symm.trans h0_) (by decide), Q_X8_, Q_X9_⟩
          refine steps_cons ?_ ?_
          ·rintro b a w' ⟨gb320, gb321, m8_, m9_, ha, Q_HB, Q_NB321_320, Q_NB320_321, Q_BK320, Q_GW320, Q_GE320, Q_BK321, Q_GW321, Q_GE321, Q_BK320_e10, Q_BK321_e11, Q_X8_, Q_X9_⟩ hb_ hon hoff
           refine ⟨_, rfl, fun K hK => ?_⟩
           have e27 : a.tmps[27]? = some (.pointer (some (ad319.add ((x7_1).toNat * 6)))) := by rw [ha]; exact putSel_on (e := (6, 27, .pointer (some (ad319.add ((x7_1).toNat * 6))))) 2 rfl rfl (hon 6 (by kernel_rfl)) rfl
           replace ha := Aside0.mk ha
           have HB := Aside0.mk Q_HB
           have hs6_ : w'.cell? (ad319.add ((x7_1).toNat * 6)) = some (.int .i64 ((rd_T36 l1 x7_1).f0)) := ((HB.out.cell (World.block_lt_of_cell? w _ hw319_0)).trans hw319_0)
           have hs7_ : w'.cell? ⟨(ad319.add ((x7_1).toNat * 6)).block, (ad319.add ((x7_1).toNat * 6)).off + 1, none⟩ = some (.int .i64 ((rd_T36 l1 x7_1).f1)) := ((HB.out.cell (World.block_lt_of_cell? w _ hw319_1)).trans hw319_1)
           have hs8_ : w'.cell? ⟨(ad319.add ((x7_1).toNat * 6)).block, (ad319.add ((x7_1).toNat * 6)).off + 2, none⟩ = some (.string ((rd_T36 l1 x7_1).f2)) := ((HB.out.cell (World.block_lt_of_cell? w _ hw319_2)).trans hw319_2)
           have hs9_ : w'.cell? ⟨(ad319.add ((x7_1).toNat * 6)).block, (ad319.add ((x7_1).toNat * 6)).off + 3, none⟩ = some (.bool ((rd_T36 l1 x7_1).f3.f0)) := ((HB.out.cell (World.block_lt_of_cell? w _ hw319_3)).trans hw319_3)
           have hs10_ : w'.cell? ⟨(ad319.add ((x7_1).toNat * 6)).block, (ad319.add ((x7_1).toNat * 6)).off + 4, none⟩ = some (.int .i64 ((rd_T36 l1 x7_1).f3.f1)) := ((HB.out.cell (World.block_lt_of_cell? w _ hw319_4)).trans hw319_4)
           have hs11_ : w'.cell? ⟨(ad319.add ((x7_1).toNat * 6)).block, (ad319.add ((x7_1).toNat * 6)).off + 5, none⟩ = some (.int .i64 ((rd_T36 l1 x7_1).f4)) := ((HB.out.cell (World.block_lt_of_cell? w _ hw319_5)).trans hw319_5)
           refine value_ (w1 := w') (v := .agg #[.int .i64 ((rd_T36 l1 x7_1).f0), .int .i64 ((rd_T36 l1 x7_1).f1), .string ((rd_T36 l1 x7_1).f2), .bool ((rd_T36 l1 x7_1).f3.f0), .int .i64 ((rd_T36 l1 x7_1).f3.f1), .int .i64 ((rd_T36 l1 x7_1).f4)]) (by rfl) rfl ?_ ?_
           ·go_simp
            (try simp only [i64_w])
            try rfl
           refine hK.out _ _ ⟨gb320, gb321, m8_, m9_, (by rw [ha.out]; exact putSel_upk 3 hb_ rfl rfl rfl), Q_HB, Q_NB321_320, Q_NB320_321, Q_BK320, Q_GW320, Q_GE320, Q_BK321, Q_GW321, Q_GE321, Q_BK320_e10, fun h0_ => absurd ((hoff 11 (by kernel_rfl)).symm.trans h0_) (by decide), Q_X8_, Q_X9_⟩
          refine steps_cons ?_ ?_
          ·rintro b a w' ⟨gb320, gb321, m8_, m9_, ha, Q_HB, Q_NB321_320, Q_NB320_321, Q_BK320, Q_GW320, Q_GE320, Q_BK321, Q_GW321, Q_GE321, Q_BK320_e10, Q_BK321_e11, Q_X8_, Q_X9_⟩ hb_ hon hoff
           refine ⟨_, rfl, fun K hK => ?_⟩
           replace ha := Aside0.mk ha
           have HB := Aside0.mk Q_HB
           refine box_step ?hg (N := 8) ?hd (cs := #[.int .i64 0, .int .i64 0, .string (⟨#[]⟩ : ByteArray), .bool false, .int .i64 0, .int .i64 0]) (t := 36) ?hr ?_; (case hd => rfl); (case hg => rfl); (case hr => first | (go_simp; done) | (go_simp; rfl))
           intro gb320 hg w31 hbox hb
           have n0_ := Aside0.mk (below_step (by repeat (first | (with_reducible first | exact HB.out | apply below_alloc | apply pw_below_drewN | apply below_drew1) | exact HB.out)) hb)
           have n1_ := Aside0.mk (hbox)
           have n2_ := Aside0.mk ((by rw [hg]; exact (below_size (by repeat (first | (with_reducible first | exact HB.out | apply below_alloc | apply pw_below_drewN | apply below_drew1) | exact HB.out))) : w.heap.size ≤ gb320))
           have n3_ := Aside0.mk ((by rw [hg]; exact (below_size (by repeat (first | (with_reducible first | exact HB.out | apply below_alloc | apply pw_below_drewN | apply below_drew1) | exact HB.out))) : w.heap.size ≤ gb320))
           have z_NB321_320 := fun (h0_ : up b 8 8 = true) (h1_ : up b 8 9 = true) => (show gb321 ≠ gb320 from ((by rw [hg]; cases h9_ : b 11 with | false => exact Nat.ne_of_lt (blk_lt (Q_BK321 h1_ h9_)) | true => exact Nat.ne_of_lt (blk_lt (Q_BK321_e11 h9_)) : gb321 ≠ gb320)))
           have z_NB320_321 := fun (h0_ : up b 8 8 = true) (h1_ : up b 8 9 = true) => (show gb320 ≠ gb321 from ((by rw [hg]; cases h9_ : b 11 with | false => exact Nat.ne_of_gt (blk_lt (Q_BK321 h1_ h9_)) | true => exact Nat.ne_of_gt (blk_lt (Q_BK321_e11 h9_)) : gb320 ≠ gb321)))
           have z_BK321 := fun (h0_ : b 9 = true) (h1_ : b 11 = false) => (show w31.heap[gb321]? = some (.cells #[.int .i64 0, .int .i64 0, .string (⟨#[]⟩ : ByteArray), .bool false, .int .i64 0, .int .i64 0] 36 (0, 0)) from by first | exact (blk_below (g := gb321) (o := .cells #[.int .i64 0, .int .i64 0, .string (⟨#[]⟩ : ByteArray), .bool false, .int .i64 0, .int .i64 0] 36 (0, 0)) (by (with_reducible repeat (first | refine blk_drewN ?_ _ | refine blk_drew ?_ | refine blk_alloc ?_ _)); exact (Q_BK321 h0_ h1_)) hb))
           clear HB
           have HB := n0_
           have BK320 := n1_
           have GW320 := n2_
           have GE320 := n3_
           clear n0_ n1_ n2_ n3_
           clear hb hbox hg
           refine hK.out _ _ ⟨gb320, gb321, (.pointer (some ⟨gb320, 0, none⟩)), m9_, (by rw [ha.out]; exact putSel_upk 4 hb_ rfl rfl rfl), (by repeat (first | (with_reducible first | exact HB.out | apply below_alloc | apply pw_below_drewN | apply below_drew1 | refine below_set ?_ GE320.out) | exact HB.out)), @z_NB321_320, @z_NB320_321, fun _ _ => (by (with_reducible repeat (first | refine blk_drewN ?_ _ | refine blk_drew ?_ | refine blk_alloc ?_ _)); exact BK320.out), fun _ => GW320.out, fun _ => GE320.out, z_BK321, Q_GW321, Q_GE321, fun h0_ => absurd ((hoff 10 (by kernel_rfl)).symm.trans h0_) (by decide), fun h0_ => absurd ((hoff 11 (by kernel_rfl)).symm.trans h0_) (by decide), fun _ => rfl, Q_X9_⟩
          refine steps_cons ?_ ?_
          ·rintro b a w' ⟨gb320, gb321, m8_, m9_, ha, Q_HB, Q_NB321_320, Q_NB320_321, Q_BK320, Q_GW320, Q_GE320, Q_BK321, Q_GW321, Q_GE321, Q_BK320_e10, Q_BK321_e11, Q_X8_, Q_X9_⟩ hb_ hon hoff
           refine ⟨_, rfl, fun K hK => ?_⟩
           replace ha := Aside0.mk ha
           have HB := Aside0.mk Q_HB
           refine box_step ?hg (N := 9) ?hd (cs := #[.int .i64 0, .int .i64 0, .string (⟨#[]⟩ : ByteArray), .bool false, .int .i64 0, .int .i64 0]) (t := 36) ?hr ?_; (case hd => rfl); (case hg => rfl); (case hr => first | (go_simp; done) | (go_simp; rfl))
           intro gb321 hg w31 hbox hb
           have n0_ := Aside0.mk (below_step (by repeat (first | (with_reducible first | exact HB.out | apply below_alloc | apply pw_below_drewN | apply below_drew1) | exact HB.out)) hb)
           have n1_ := Aside0.mk (hbox)
           have n2_ := Aside0.mk ((by rw [hg]; exact (below_size (by repeat (first | (with_reducible first | exact HB.out | apply below_alloc | apply pw_below_drewN | apply below_drew1) | exact HB.out))) : w.heap.size ≤ gb321))
           have n3_ := Aside0.mk ((by rw [hg]; exact (below_size (by repeat (first | (with_reducible first | exact HB.out | apply below_alloc | apply pw_below_drewN | apply below_drew1) | exact HB.out))) : w.heap.size ≤ gb321))
           have z_NB321_320 := fun (h0_ : up b 9 8 = true) (h1_ : up b 9 9 = true) => (show gb321 ≠ gb320 from ((by rw [hg]; cases h9_ : b 10 with | false => exact Nat.ne_of_gt (blk_lt (Q_BK320 h0_ h9_)) | true => exact Nat.ne_of_gt (blk_lt (Q_BK320_e10 h9_)) : gb321 ≠ gb320)))
           have z_NB320_321 := fun (h0_ : up b 9 8 = true) (h1_ : up b 9 9 = true) => (show gb320 ≠ gb321 from ((by rw [hg]; cases h9_ : b 10 with | false => exact Nat.ne_of_lt (blk_lt (Q_BK320 h0_ h9_)) | true => exact Nat.ne_of_lt (blk_lt (Q_BK320_e10 h9_)) : gb320 ≠ gb321)))
           have z_BK320 := fun (h0_ : b 8 = true) (h1_ : b 10 = false) => (show w31.heap[gb320]? = some (.cells #[.int .i64 0, .int .i64 0, .string (⟨#[]⟩ : ByteArray), .bool false, .int .i64 0, .int .i64 0] 36 (0, 0)) from by first | exact (blk_below (g := gb320) (o := .cells #[.int .i64 0, .int .i64 0, .string (⟨#[]⟩ : ByteArray), .bool false, .int .i64 0, .int .i64 0] 36 (0, 0)) (by (with_reducible repeat (first | refine blk_drewN ?_ _ | refine blk_drew ?_ | refine blk_alloc ?_ _)); exact (Q_BK320 h0_ h1_)) hb))
           clear HB
           have HB := n0_
           have BK321 := n1_
           have GW321 := n2_
           have GE321 := n3_
           clear n0_ n1_ n2_ n3_
           clear hb hbox hg
           refine hK.out _ _ ⟨gb320, gb321, m8_, (.pointer (some ⟨gb321, 0, none⟩)), (by rw [ha.out]; exact putSel_upk 5 hb_ rfl rfl rfl), (by repeat (first | (with_reducible first | exact HB.out | apply below_alloc | apply pw_below_drewN | apply below_drew1 | refine below_set ?_ GE321.out) | exact HB.out)), @z_NB321_320, @z_NB320_321, z_BK320, Q_GW320, Q_GE320, fun _ _ => (by (with_reducible repeat (first | refine blk_drewN ?_ _ | refine blk_drew ?_ | refine blk_alloc ?_ _)); exact BK321.out), fun _ => GW321.out, fun _ => GE321.out, fun h0_ => absurd ((hoff 10 (by kernel_rfl)).symm.trans h0_) (by decide), fun h0_ => absurd ((hoff 11 (by kernel_rfl)).symm.trans h0_) (by decide), Q_X8_, fun _ => rfl⟩
          refine steps_cons ?_ ?_
          ·rintro b a w' ⟨gb320, gb321, m8_, m9_, ha, Q_HB, Q_NB321_320, Q_NB320_321, Q_BK320, Q_GW320, Q_GE320, Q_BK321, Q_GW321, Q_GE321, Q_BK320_e10, Q_BK321_e11, Q_X8_, Q_X9_⟩ hb_ hon hoff
           refine ⟨_, rfl, fun K hK => ?_⟩
           have e8 : a.tmps[8]? = some (m8_) := by rw [ha]; exact putSel_on (e := (8, 8, m8_)) 4 rfl rfl (hon 8 (by kernel_rfl)) rfl
           rw [Q_X8_ (hon 8 (by kernel_rfl))] at e8
           have e24 : a.tmps[24]? = some (.agg #[.int .i64 ((rd_T36 l0 x7_1).f0), .int .i64 ((rd_T36 l0 x7_1).f1), .string ((rd_T36 l0 x7_1).f2), .bool ((rd_T36 l0 x7_1).f3.f0), .int .i64 ((rd_T36 l0 x7_1).f3.f1), .int .i64 ((rd_T36 l0 x7_1).f4)]) := by rw [ha]; exact putSel_on (e := (3, 24, .agg #[.int .i64 ((rd_T36 l0 x7_1).f0), .int .i64 ((rd_T36 l0 x7_1).f1), .string ((rd_T36 l0 x7_1).f2), .bool ((rd_T36 l0 x7_1).f3.f0), .int .i64 ((rd_T36 l0 x7_1).f3.f1), .int .i64 ((rd_T36 l0 x7_1).f4)])) 1 rfl rfl (hon 3 (by kernel_rfl)) rfl
           replace ha := Aside0.mk ha
           have HB := Aside0.mk Q_HB
           have NB321_320 := Aside0.mk (Q_NB321_320 (hon 8 (by kernel_rfl)) (hon 9 (by kernel_rfl)))
           have NB320_321 := Aside0.mk (Q_NB320_321 (hon 8 (by kernel_rfl)) (hon 9 (by kernel_rfl)))
           have BK320 := Aside0.mk (Q_BK320 (hon 8 (by kernel_rfl)) hb_)
           have GW320 := Aside0.mk (Q_GW320 (hon 8 (by kernel_rfl)))
           have GE320 := Aside0.mk (Q_GE320 (hon 8 (by kernel_rfl)))
           have BK321 := Aside0.mk (Q_BK321 (hon 9 (by kernel_rfl)) (hoff 11 (by kernel_rfl)))
           have GW321 := Aside0.mk (Q_GW321 (hon 9 (by kernel_rfl)))
           have GE321 := Aside0.mk (Q_GE321 (hon 9 (by kernel_rfl)))
           have hs34 : w'.cell? ⟨gb320, 0, none⟩ = some (.int .i64 0) := (blk_cell BK320.out 0).trans rfl
           have hfs34 := blk_frozen BK320.out 0
           have hns34_1 := NB321_320.out
           have hms34_1 := NB320_321.out
           have hs35 : w'.cell? ⟨gb320, 1, none⟩ = some (.int .i64 0) := (blk_cell BK320.out 1).trans rfl
           have hfs35 := blk_frozen BK320.out 1
           have hns35_1 := NB321_320.out
           have hms35_1 := NB320_321.out
           have hs36 : w'.cell? ⟨gb320, 2, none⟩ = some (.string (⟨#[]⟩ : ByteArray)) := (blk_cell BK320.out 2).trans rfl
           have hfs36 := blk_frozen BK320.out 2
           have hns36_1 := NB321_320.out
           have hms36_1 := NB320_321.out
           have hs37 : w'.cell? ⟨gb320, 3, none⟩ = some (.bool false) := (blk_cell BK320.out 3).trans rfl
           have hfs37 := blk_frozen BK320.out 3
           have hns37_1 := NB321_320.out
           have hms37_1 := NB320_321.out
           have hs38 : w'.cell? ⟨gb320, 4, none⟩ = some (.int .i64 0) := (blk_cell BK320.out 4).trans rfl
           have hfs38 := blk_frozen BK320.out 4
           have hns38_1 := NB321_320.out
           have hms38_1 := NB320_321.out
           have hs39 : w'.cell? ⟨gb320, 5, none⟩ = some (.int .i64 0) := (blk_cell BK320.out 5).trans rfl
           have hfs39 := blk_frozen BK320.out 5
           have hns39_1 := NB321_320.out
           have hms39_1 := NB320_321.out
           refine skip_ (w1 := ?_) (by rfl) rfl ?_ ?_
           rotate_left
           ·go_simp
            rfl
           refine hK.out _ _ ⟨gb320, gb321, m8_, m9_, (by rw [ha.out]; exact putSel_none (v := undef) rfl), (by repeat (first | (with_reducible first | exact HB.out | apply below_alloc | apply pw_below_drewN | apply below_drew1 | refine below_set ?_ GE320.out | refine below_set ?_ GE321.out) | exact HB.out)), fun _ _ => NB321_320.out, fun _ _ => NB320_321.out, fun _ h1_ => absurd ((up_self b 10).symm.trans h1_) (by decide), fun _ => GW320.out, fun _ => GE320.out, fun _ _ => (by (with_reducible repeat (first | refine blk_drewN ?_ _ | refine blk_drew ?_ | refine blk_alloc ?_ _)); refine blk_far ?_ NB321_320.out _; (with_reducible repeat (first | refine blk_drewN ?_ _ | refine blk_drew ?_ | refine blk_alloc ?_ _)); refine blk_far ?_ NB321_320.out _; (with_reducible repeat (first | refine blk_drewN ?_ _ | refine blk_drew ?_ | refine blk_alloc ?_ _)); refine blk_far ?_ NB321_320.out _; (with_reducible repeat (first | refine blk_drewN ?_ _ | refine blk_drew ?_ | refine blk_alloc ?_ _)); refine blk_far ?_ NB321_320.out _; (with_reducible repeat (first | refine blk_drewN ?_ _ | refine blk_drew ?_ | refine blk_alloc ?_ _)); refine blk_far ?_ NB321_320.out _; (with_reducible repeat (first | refine blk_drewN ?_ _ | refine blk_drew ?_ | refine blk_alloc ?_ _)); refine blk_far ?_ NB321_320.out _; (with_reducible repeat (first | refine blk_drewN ?_ _ | refine blk_drew ?_ | refine blk_alloc ?_ _)); exact BK321.out), fun _ => GW321.out, fun _ => GE321.out, fun _ => (by (with_reducible repeat (first | refine blk_drewN ?_ _ | refine blk_drew ?_ | refine blk_alloc ?_ _)); refine blk_put (cs := #[.int .i64 ((rd_T36 l0 x7_1).f0), .int .i64 ((rd_T36 l0 x7_1).f1), .string ((rd_T36 l0 x7_1).f2), .bool ((rd_T36 l0 x7_1).f3.f0), .int .i64 ((rd_T36 l0 x7_1).f3.f1), .int .i64 0]) ?_ 5 _ rfl; (with_reducible repeat (first | refine blk_drewN ?_ _ | refine blk_drew ?_ | refine blk_alloc ?_ _)); refine blk_put (cs := #[.int .i64 ((rd_T36 l0 x7_1).f0), .int .i64 ((rd_T36 l0 x7_1).f1), .string ((rd_T36 l0 x7_1).f2), .bool ((rd_T36 l0 x7_1).f3.f0), .int .i64 0, .int .i64 0]) ?_ 4 _ rfl; (with_reducible repeat (first | refine blk_drewN ?_ _ | refine blk_drew ?_ | refine blk_alloc ?_ _)); refine blk_put (cs := #[.int .i64 ((rd_T36 l0 x7_1).f0), .int .i64 ((rd_T36 l0 x7_1).f1), .string ((rd_T36 l0 x7_1).f2), .bool false, .int .i64 0, .int .i64 0]) ?_ 3 _ rfl; (with_reducible repeat (first | refine blk_drewN ?_ _ | refine blk_drew ?_ | refine blk_alloc ?_ _)); refine blk_put (cs := #[.int .i64 ((rd_T36 l0 x7_1).f0), .int .i64 ((rd_T36 l0 x7_1).f1), .string (⟨#[]⟩ : ByteArray), .bool false, .int .i64 0, .int .i64 0]) ?_ 2 _ rfl; (with_reducible repeat (first | refine blk_drewN ?_ _ | refine blk_drew ?_ | refine blk_alloc ?_ _)); refine blk_put (cs := #[.int .i64 ((rd_T36 l0 x7_1).f0), .int .i64 0, .string (⟨#[]⟩ : ByteArray), .bool false, .int .i64 0, .int .i64 0]) ?_ 1 _ rfl; (with_reducible repeat (first | refine blk_drewN ?_ _ | refine blk_drew ?_ | refine blk_alloc ?_ _)); refine blk_put (cs := #[.int .i64 0, .int .i64 0, .string (⟨#[]⟩ : ByteArray), .bool false, .int .i64 0, .int .i64 0]) ?_ 0 _ rfl; (with_reducible repeat (first | refine blk_drewN ?_ _ | refine blk_drew ?_ | refine blk_alloc ?_ _)); exact BK320.out), fun h0_ => absurd ((hoff 11 (by kernel_rfl)).symm.trans h0_) (by decide), Q_X8_, Q_X9_⟩
          refine steps_cons ?_ ?_
          ·rintro b a w' ⟨gb320, gb321, m8_, m9_, ha, Q_HB, Q_NB321_320, Q_NB320_321, Q_BK320, Q_GW320, Q_GE320, Q_BK321, Q_GW321, Q_GE321, Q_BK320_e10, Q_BK321_e11, Q_X8_, Q_X9_⟩ hb_ hon hoff
           refine ⟨_, rfl, fun K hK => ?_⟩
           have e9 : a.tmps[9]? = some (m9_) := by rw [ha]; exact putSel_on (e := (9, 9, m9_)) 5 rfl rfl (hon 9 (by kernel_rfl)) rfl
           rw [Q_X9_ (hon 9 (by kernel_rfl))] at e9
           have e28 : a.tmps[28]? = some (.agg #[.int .i64 ((rd_T36 l1 x7_1).f0), .int .i64 ((rd_T36 l1 x7_1).f1), .string ((rd_T36 l1 x7_1).f2), .bool ((rd_T36 l1 x7_1).f3.f0), .int .i64 ((rd_T36 l1 x7_1).f3.f1), .int .i64 ((rd_T36 l1 x7_1).f4)]) := by rw [ha]; exact putSel_on (e := (7, 28, .agg #[.int .i64 ((rd_T36 l1 x7_1).f0), .int .i64 ((rd_T36 l1 x7_1).f1), .string ((rd_T36 l1 x7_1).f2), .bool ((rd_T36 l1 x7_1).f3.f0), .int .i64 ((rd_T36 l1 x7_1).f3.f1), .int .i64 ((rd_T36 l1 x7_1).f4)])) 3 rfl rfl (hon 7 (by kernel_rfl)) rfl
           replace ha := Aside0.mk ha
           have HB := Aside0.mk Q_HB
           have NB321_320 := Aside0.mk (Q_NB321_320 (hon 8 (by kernel_rfl)) (hon 9 (by kernel_rfl)))
           have NB320_321 := Aside0.mk (Q_NB320_321 (hon 8 (by kernel_rfl)) (hon 9 (by kernel_rfl)))
           have GW320 := Aside0.mk (Q_GW320 (hon 8 (by kernel_rfl)))
           have GE320 := Aside0.mk (Q_GE320 (hon 8 (by kernel_rfl)))
           have BK321 := Aside0.mk (Q_BK321 (hon 9 (by kernel_rfl)) hb_)
           have GW321 := Aside0.mk (Q_GW321 (hon 9 (by kernel_rfl)))
           have GE321 := Aside0.mk (Q_GE321 (hon 9 (by kernel_rfl)))
           have BK320 := Aside0.mk (Q_BK320_e10 (hon 10 (by kernel_rfl)))
           have hs40 : w'.cell? ⟨gb321, 0, none⟩ = some (.int .i64 0) := (blk_cell BK321.out 0).trans rfl
           have hfs40 := blk_frozen BK321.out 0
           have hns40_0 := NB320_321.out
           have hms40_0 := NB321_320.out
           have hs41 : w'.cell? ⟨gb321, 1, none⟩ = some (.int .i64 0) := (blk_cell BK321.out 1).trans rfl
           have hfs41 := blk_frozen BK321.out 1
           have hns41_0 := NB320_321.out
           have hms41_0 := NB321_320.out
           have hs42 : w'.cell? ⟨gb321, 2, none⟩ = some (.string (⟨#[]⟩ : ByteArray)) := (blk_cell BK321.out 2).trans rfl
           have hfs42 := blk_frozen BK321.out 2
           have hns42_0 := NB320_321.out
           have hms42_0 := NB321_320.out
           have hs43 : w'.cell? ⟨gb321, 3, none⟩ = some (.bool false) := (blk_cell BK321.out 3).trans rfl
           have hfs43 := blk_frozen BK321.out 3
           have hns43_0 := NB320_321.out
           have hms43_0 := NB321_320.out
           have hs44 : w'.cell? ⟨gb321, 4, none⟩ = some (.int .i64 0) := (blk_cell BK321.out 4).trans rfl
           have hfs44 := blk_frozen BK321.out 4
           have hns44_0 := NB320_321.out
           have hms44_0 := NB321_320.out
           have hs45 : w'.cell? ⟨gb321, 5, none⟩ = some (.int .i64 0) := (blk_cell BK321.out 5).trans rfl
           have hfs45 := blk_frozen BK321.out 5
           have hns45_0 := NB320_321.out
           have hms45_0 := NB321_320.out
           refine skip_ (w1 := ?_) (by rfl) rfl ?_ ?_
           rotate_left
           ·go_simp
            rfl
           refine hK.out _ _ ⟨gb320, gb321, m8_, m9_, (by rw [ha.out]; exact putSel_none (v := undef) rfl), (by repeat (first | (with_reducible first | exact HB.out | apply below_alloc | apply pw_below_drewN | apply below_drew1 | refine below_set ?_ GE320.out | refine below_set ?_ GE321.out) | exact HB.out)), fun _ _ => NB321_320.out, fun _ _ => NB320_321.out, fun _ h1_ => absurd ((hon 10 (by kernel_rfl)).symm.trans h1_) (by decide), fun _ => GW320.out, fun _ => GE320.out, fun _ h1_ => absurd ((up_self b 11).symm.trans h1_) (by decide), fun _ => GW321.out, fun _ => GE321.out, fun _ => (by (with_reducible repeat (first | refine blk_drewN ?_ _ | refine blk_drew ?_ | refine blk_alloc ?_ _)); refine blk_far ?_ NB320_321.out _; (with_reducible repeat (first | refine blk_drewN ?_ _ | refine blk_drew ?_ | refine blk_alloc ?_ _)); refine blk_far ?_ NB320_321.out _; (with_reducible repeat (first | refine blk_drewN ?_ _ | refine blk_drew ?_ | refine blk_alloc ?_ _)); refine blk_far ?_ NB320_321.out _; (with_reducible repeat (first | refine blk_drewN ?_ _ | refine blk_drew ?_ | refine blk_alloc ?_ _)); refine blk_far ?_ NB320_321.out _; (with_reducible repeat (first | refine blk_drewN ?_ _ | refine blk_drew ?_ | refine blk_alloc ?_ _)); refine blk_far ?_ NB320_321.out _; (with_reducible repeat (first | refine blk_drewN ?_ _ | refine blk_drew ?_ | refine blk_alloc ?_ _)); refine blk_far ?_ NB320_321.out _; (with_reducible repeat (first | refine blk_drewN ?_ _ | refine blk_drew ?_ | refine blk_alloc ?_ _)); exact BK320.out), fun _ => (by (with_reducible repeat (first | refine blk_drewN ?_ _ | refine blk_drew ?_ | refine blk_alloc ?_ _)); refine blk_put (cs := #[.int .i64 ((rd_T36 l1 x7_1).f0), .int .i64 ((rd_T36 l1 x7_1).f1), .string ((rd_T36 l1 x7_1).f2), .bool ((rd_T36 l1 x7_1).f3.f0), .int .i64 ((rd_T36 l1 x7_1).f3.f1), .int .i64 0]) ?_ 5 _ rfl; (with_reducible repeat (first | refine blk_drewN ?_ _ | refine blk_drew ?_ | refine blk_alloc ?_ _)); refine blk_put (cs := #[.int .i64 ((rd_T36 l1 x7_1).f0), .int .i64 ((rd_T36 l1 x7_1).f1), .string ((rd_T36 l1 x7_1).f2), .bool ((rd_T36 l1 x7_1).f3.f0), .int .i64 0, .int .i64 0]) ?_ 4 _ rfl; (with_reducible repeat (first | refine blk_drewN ?_ _ | refine blk_drew ?_ | refine blk_alloc ?_ _)); refine blk_put (cs := #[.int .i64 ((rd_T36 l1 x7_1).f0), .int .i64 ((rd_T36 l1 x7_1).f1), .string ((rd_T36 l1 x7_1).f2), .bool false, .int .i64 0, .int .i64 0]) ?_ 3 _ rfl; (with_reducible repeat (first | refine blk_drewN ?_ _ | refine blk_drew ?_ | refine blk_alloc ?_ _)); refine blk_put (cs := #[.int .i64 ((rd_T36 l1 x7_1).f0), .int .i64 ((rd_T36 l1 x7_1).f1), .string (⟨#[]⟩ : ByteArray), .bool false, .int .i64 0, .int .i64 0]) ?_ 2 _ rfl; (with_reducible repeat (first | refine blk_drewN ?_ _ | refine blk_drew ?_ | refine blk_alloc ?_ _)); refine blk_put (cs := #[.int .i64 ((rd_T36 l1 x7_1).f0), .int .i64 0, .string (⟨#[]⟩ : ByteArray), .bool false, .int .i64 0, .int .i64 0]) ?_ 1 _ rfl; (with_reducible repeat (first | refine blk_drewN ?_ _ | refine blk_drew ?_ | refine blk_alloc ?_ _)); refine blk_put (cs := #[.int .i64 0, .int .i64 0, .string (⟨#[]⟩ : ByteArray), .bool false, .int .i64 0, .int .i64 0]) ?_ 0 _ rfl; (with_reducible repeat (first | refine blk_drewN ?_ _ | refine blk_drew ?_ | refine blk_alloc ?_ _)); exact BK321.out), Q_X8_, Q_X9_⟩
          exact steps_nil
         rintro b a w45 hall ⟨gb320, gb321, m8_, m9_, ha, Q_HB, Q_NB321_320, Q_NB320_321, Q_BK320, Q_GW320, Q_GE320, Q_BK321, Q_GW321, Q_GE321, Q_BK320_e10, Q_BK321_e11, Q_X8_, Q_X9_⟩
         clear HB
         have hb2_ := hall 2 (by kernel_rfl)
         have hb3_ := hall 3 (by kernel_rfl)
         have hb6_ := hall 6 (by kernel_rfl)
         have hb7_ := hall 7 (by kernel_rfl)
         have hb8_ := hall 8 (by kernel_rfl)
         have hb9_ := hall 9 (by kernel_rfl)
         have hb10_ := hall 10 (by kernel_rfl)
         have hb11_ := hall 11 (by kernel_rfl)
         subst ha
         obtain rfl := Q_X8_ hb8_
         obtain rfl := Q_X9_ hb9_
         simp only [putSel, hb2_, hb3_, hb6_, hb7_, hb8_, hb9_, hb10_, hb11_, if_true, Act.put, List.setIfInBounds_toArray, List.set_cons_zero, List.set_cons_succ]
         have HB := Aside0.mk Q_HB
         clear Q_HB
         have NB321_320 := Aside0.mk (Q_NB321_320 hb8_ hb9_)
         clear Q_NB321_320
         have NB320_321 := Aside0.mk (Q_NB320_321 hb8_ hb9_)
         clear Q_NB320_321
         clear Q_BK320
         have GW320 := Aside0.mk (Q_GW320 hb8_)
         clear Q_GW320
         have GE320 := Aside0.mk (Q_GE320 hb8_)
         clear Q_GE320
         clear Q_BK321
         have GW321 := Aside0.mk (Q_GW321 hb9_)
         clear Q_GW321
         have GE321 := Aside0.mk (Q_GE321 hb9_)
         clear Q_GE321
         have BK320 := Aside0.mk (Q_BK320_e10 hb10_)
         clear Q_BK320_e10
         have BK321 := Aside0.mk (Q_BK321_e11 hb11_)
         clear Q_BK321_e11
         clear hall hb2_ hb3_ hb6_ hb7_ hb8_ hb9_ hb10_ hb11_
         have hnb46 := NB320_321.out
         have hnc46 := NB321_320.out
         have hcz47_0 : w45.cell? ⟨gb320, 0, none⟩ = some (.int .i64 ((rd_T36 l0 x7_1).f0)) := (blk_cell BK320.out 0).trans rfl
         have hcz47_1 : w45.cell? ⟨gb320, 1, none⟩ = some (.int .i64 ((rd_T36 l0 x7_1).f1)) := (blk_cell BK320.out 1).trans rfl
         have hcz47_2 : w45.cell? ⟨gb320, 2, none⟩ = some (.string ((rd_T36 l0 x7_1).f2)) := (blk_cell BK320.out 2).trans rfl
         have hcz47_3 : w45.cell? ⟨gb320, 3, none⟩ = some (.bool ((rd_T36 l0 x7_1).f3.f0)) := (blk_cell BK320.out 3).trans rfl
         have hcz47_4 : w45.cell? ⟨gb320, 4, none⟩ = some (.int .i64 ((rd_T36 l0 x7_1).f3.f1)) := (blk_cell BK320.out 4).trans rfl
         have hcz47_5 : w45.cell? ⟨gb320, 5, none⟩ = some (.int .i64 ((rd_T36 l0 x7_1).f4)) := (blk_cell BK320.out 5).trans rfl
         have hfz47_0 := blk_frozen BK320.out 0
         have hfz47_1 := blk_frozen BK320.out 1
         have hfz47_2 := blk_frozen BK320.out 2
         have hfz47_3 := blk_frozen BK320.out 3
         have hfz47_4 := blk_frozen BK320.out 4
         have hfz47_5 := blk_frozen BK320.out 5
         have hcz48_0 : w45.cell? ⟨gb321, 0, none⟩ = some (.int .i64 ((rd_T36 l1 x7_1).f0)) := (blk_cell BK321.out 0).trans rfl
         have hcz48_1 : w45.cell? ⟨gb321, 1, none⟩ = some (.int .i64 ((rd_T36 l1 x7_1).f1)) := (blk_cell BK321.out 1).trans rfl
         have hcz48_2 : w45.cell? ⟨gb321, 2, none⟩ = some (.string ((rd_T36 l1 x7_1).f2)) := (blk_cell BK321.out 2).trans rfl
         have hcz48_3 : w45.cell? ⟨gb321, 3, none⟩ = some (.bool ((rd_T36 l1 x7_1).f3.f0)) := (blk_cell BK321.out 3).trans rfl
         have hcz48_4 : w45.cell? ⟨gb321, 4, none⟩ = some (.int .i64 ((rd_T36 l1 x7_1).f3.f1)) := (blk_cell BK321.out 4).trans rfl
         have hcz48_5 : w45.cell? ⟨gb321, 5, none⟩ = some (.int .i64 ((rd_T36 l1 x7_1).f4)) := (blk_cell BK321.out 5).trans rfl
         have hfz48_0 := blk_frozen BK321.out 0
         have hfz48_1 := blk_frozen BK321.out 1
         have hfz48_2 := blk_frozen BK321.out 2
         have hfz48_3 := blk_frozen BK321.out 3
         have hfz48_4 := blk_frozen BK321.out 4
         have hfz48_5 := blk_frozen BK321.out 5
         try go_wp2
         go_roundg k1
         case measure => have := HK1.out; omega
         case rel => exact ⟨(wrap64 (x7_1 + 1)), (by first | rfl | (simp; done) | (simp [*]; done)), H', ⟨by have := HK1.out; omega⟩, ⟨by repeat (first | (with_reducible first | exact HB.out | apply below_alloc | apply pw_below_drewN | apply below_drew1 | refine below_set ?_ GE320.out | refine below_set ?_ GE321.out) | exact HB.out)⟩⟩
      ·rw [if_neg c7] at H
       exact absurd H (by simp)
     ·rw [if_neg c6] at H
      exact absurd H (by simp)
    ·rw [if_neg c5] at H
     have c5b0 : decide (x7_1 < (l0.length : Int)) = false := decide_eq_false c5
     clear c5
     obtain rfl := Option.some.inj H
     go_wp2
     go_ret
     exact ⟨by first | rfl | (simp [errW_none, errW_some] <;> rfl) | (simp [*, errW_none, errW_some] <;> rfl), by repeat (first | (with_reducible first | exact HB.out | apply below_alloc | apply pw_below_drewN | apply below_drew1) | exact HB.out)⟩
 ·rw [if_neg c4] at H
  exact absurd H (by simp)

end Go.Proofs.YtnjobjogddjelaaGreatDoor.Print
end

section
namespace Go.Proofs.YtnjobjogddjelaaGreatDoor.Print
open Go.RowKit Go.Proofs.YtnjobjogddjelaaGreatDoorX Go.Proofs.YtnjobjogddjelaaGreatDoorW.PrintWords Go.Proofs.YtnjobjogddjelaaGreatDoorW.PrintLast Go.Proofs.YtnjobjogddjelaaGreatDoorW.PrintMore
attribute [local go_sem] max2_int min2_int max_two min_two max_three min_three max_four min_four

/-! ### spillwaylaw7_LexTells: function 3 -/
def spillwaylaw7_LexTells.f (k : Nat) (a0 : ByteArray) : Option (Bool) := (spillwaylaw7_known.f k).bind fun t322 => (if t322 = true then (if (a0.size : Int) > 650 then (some true) else ((lex_Scan.f k a0).bind fun bt323 => ((spillwayref7_Scan.f k a0).bind fun bt328 => ((spillwaylaw7_same.f k bt323.1 bt328.1 true).bind fun t333 => (if t333 = true then (if bt323.2.1 = bt328.2.1 then (some (bt323.2.2 == bt328.2.2)) else (none)) else (none)))))) else (none))
theorem spillwaylaw7_LexTells.mono : ∀ a0 k, LeO (spillwaylaw7_LexTells.f k a0) (spillwaylaw7_LexTells.f (k + 1) a0) := by
 intro a0 k
 unfold spillwaylaw7_LexTells.f
 repeat' first
   | (with_reducible exact lex_Scan.mono _ _)
   | (with_reducible exact spillwaylaw7_known.mono _)
   | (with_reducible exact spillwaylaw7_same.mono _ _ _ _)
   | (with_reducible exact spillwayref7_Scan.mono _ _)
   | (with_reducible exact LeO.refl _)
   | (with_reducible exact LeO.none _)
   | (with_reducible refine LeO.ite ?_ ?_)
   | (with_reducible refine LeO.bind ?_ (fun _ => ?_))
   | exact lex_Scan.mono _ _
   | exact spillwaylaw7_known.mono _
   | exact spillwaylaw7_same.mono _ _ _ _
   | exact spillwayref7_Scan.mono _ _
   | exact LeO.none _
   | refine LeO.ite ?_ ?_
   | refine LeO.bind ?_ (fun _ => ?_)
set_option maxHeartbeats 8000000 in
set_option maxRecDepth 100000 in
theorem spillwaylaw7_LexTells.calls (k : Nat) (a0 : ByteArray) (r : Bool) (w : World) (hg_ : LaidW w) (h : spillwaylaw7_LexTells.f k a0 = some r) (hr_ : r = true) :
  Calls Tryz.prog 3 #[.string a0] w fun e w' => e = .returned (.bool r) ∧ Below w.heap.size w w' := by
 have HRT := Aside0.mk hr_
 clear hr_
 have HLW := Aside0.mk hg_
 clear hg_
 have HB := Aside0.mk (Below.refl w.heap.size w)
 have H : ((spillwaylaw7_known.f k).bind fun t322 => (if t322 = true then (if (a0.size : Int) > 650 then (some true) else ((lex_Scan.f k a0).bind fun bt323 => ((spillwayref7_Scan.f k a0).bind fun bt328 => ((spillwaylaw7_same.f k bt323.1 bt328.1 true).bind fun t333 => (if t333 = true then (if bt323.2.1 = bt328.2.1 then (some (bt323.2.2 == bt328.2.2)) else (none)) else (none)))))) else (none))) = some r := h
 clear h
 replace H := Option.bind_eq_some_iff.mp H
 obtain ⟨t322, A20, H⟩ := H
 replace H : (if t322 = true then (if (a0.size : Int) > 650 then (some true) else ((lex_Scan.f k a0).bind fun bt323 => ((spillwayref7_Scan.f k a0).bind fun bt328 => ((spillwaylaw7_same.f k bt323.1 bt328.1 true).bind fun t333 => (if t333 = true then (if bt323.2.1 = bt328.2.1 then (some (bt323.2.2 == bt328.2.2)) else (none)) else (none)))))) else (none)) = some r := H
 have A2 := Aside0.mk A20
 clear A20
 by_cases c3 : t322 = true
 ·subst c3
  have H1 : (if (a0.size : Int) > 650 then (some true) else ((lex_Scan.f k a0).bind fun bt323 => ((spillwayref7_Scan.f k a0).bind fun bt328 => ((spillwaylaw7_same.f k bt323.1 bt328.1 true).bind fun t333 => (if t333 = true then (if bt323.2.1 = bt328.2.1 then (some (bt323.2.2 == bt328.2.2)) else (none)) else (none)))))) = some r := by rw [if_pos rfl] at H; exact H
  clear H
  have H := H1
  clear H1
  by_cases c4 : (a0.size : Int) > 650
  ·rw [if_pos c4] at H
   have c4b0 : decide (650 < (a0.size : Int)) = true := decide_eq_true c4
   have c4b1 : decide (650 < a0.size) = true := decide_eq_true (by omega)
   clear c4
   obtain rfl := Option.some.inj H
   go_enter Tryz.func3, Tryz.ntmps3
   go_wp2_with (first | ((with_reducible refine gate_callee (f := 8) rfl ?_); refine goesL_ (some 9) rfl rfl Tryz.func8 (by kernel_rfl) rfl #[] rfl (by (try simp only [List.map_toArray, List.map_cons, List.map_nil]); first | done | rfl | (simp only [List.length_drop, List.length_take]; rfl)) ?_; (with_reducible refine (spillwaylaw7_known.calls k  true _ ?side1 A2.out).mono ?_); (case side1 => exact LaidW.below HLW.out (by repeat (first | (with_reducible first | exact HB.out | apply below_alloc | apply pw_below_drewN | apply below_drew1) | exact HB.out | (refine below_set ?_ (Aside0.out ?hge); (case hge => assumption))))); rintro e w5 ⟨rfl, hb⟩; refine ⟨_, rfl, ?_⟩; have n0_ := Aside0.mk (below_step (by repeat (first | (with_reducible first | exact HB.out | apply below_alloc | apply pw_below_drewN | apply below_drew1) | exact HB.out)) hb); clear HB; have HB := n0_; clear n0_; (try clear hb); (try clear hb2); (try clear hk); (try clear hi)))
   go_ret
   exact ⟨by first | rfl | (simp [errW_none, errW_some] <;> rfl) | (simp [*, errW_none, errW_some] <;> rfl), by repeat (first | (with_reducible first | exact HB.out | apply below_alloc | apply pw_below_drewN | apply below_drew1) | exact HB.out)⟩
  ·rw [if_neg c4] at H
   have c4b0 : decide (650 < (a0.size : Int)) = false := decide_eq_false c4
   have c4b1 : decide (650 < a0.size) = false := decide_eq_false (by omega)
   clear c4
   replace H := Option.bind_eq_some_iff.mp H
   obtain ⟨⟨t323, t324, t325⟩, A60, H⟩ := H
   replace H : ((spillwayref7_Scan.f k a0).bind fun bt328 => ((spillwaylaw7_same.f k t323 bt328.1 true).bind fun t333 => (if t333 = true then (if t324 = bt328.2.1 then (some (t325 == bt328.2.2)) else (none)) else (none)))) = some r := H
   have A6 := Aside0.mk A60
   clear A60
   replace H := Option.bind_eq_some_iff.mp H
   obtain ⟨⟨t328, t329, t330⟩, A70, H⟩ := H
   replace H : ((spillwaylaw7_same.f k t323 t328 true).bind fun t333 => (if t333 = true then (if t324 = t329 then (some (t325 == t330)) else (none)) else (none))) = some r := H
   have A7 := Aside0.mk A70
   clear A70
   replace H := Option.bind_eq_some_iff.mp H
   obtain ⟨t333, A80, H⟩ := H
   replace H : (if t333 = true then (if t324 = t329 then (some (t325 == t330)) else (none)) else (none)) = some r := H
   have A8 := Aside0.mk A80
   clear A80
   by_cases c9 : t333 = true
   ·subst c9
    have H1 : (if t324 = t329 then (some (t325 == t330)) else (none)) = some r := by rw [if_pos rfl] at H; exact H
    clear H
    have H := H1
    clear H1
    by_cases c10 : t324 = t329
    ·rw [if_pos c10] at H
     have c10b0 : (t324 == t329) = true := beq_iff_eq.mpr c10
     have c10b1 : (t324 != t329) = false := bne_eq_false_iff_eq.mpr c10
     clear c10
     obtain rfl := Option.some.inj H
     go_enter Tryz.func3, Tryz.ntmps3
     go_wp2_with (first | ((with_reducible refine gate_callee (f := 8) rfl ?_); refine goesL_ (some 9) rfl rfl Tryz.func8 (by kernel_rfl) rfl #[] rfl (by (try simp only [List.map_toArray, List.map_cons, List.map_nil]); first | done | rfl | (simp only [List.length_drop, List.length_take]; rfl)) ?_; (with_reducible refine (spillwaylaw7_known.calls k  true _ ?side1 A2.out).mono ?_); (case side1 => exact LaidW.below HLW.out (by repeat (first | (with_reducible first | exact HB.out | apply below_alloc | apply pw_below_drewN | apply below_drew1) | exact HB.out | (refine below_set ?_ (Aside0.out ?hge); (case hge => assumption))))); rintro e w11 ⟨rfl, hb⟩; refine ⟨_, rfl, ?_⟩; have n0_ := Aside0.mk (below_step (by repeat (first | (with_reducible first | exact HB.out | apply below_alloc | apply pw_below_drewN | apply below_drew1) | exact HB.out)) hb); clear HB; have HB := n0_; clear n0_; (try clear hb); (try clear hb2); (try clear hk); (try clear hi)) | ((with_reducible refine gate_callee (f := 9) rfl ?_); refine goesL_ (some 16) rfl rfl Tryz.func9 (by kernel_rfl) rfl #[.string a0] rfl (by (try simp only [List.map_toArray, List.map_cons, List.map_nil]); first | done | rfl | (simp only [List.length_drop, List.length_take]; rfl)) ?_; (with_reducible refine (lex_Scan.calls k a0 t323 t324 t325 _ ?side1 A6.out).mono ?_); (case side1 => exact LaidW.below HLW.out (by repeat (first | (with_reducible first | exact HB.out | apply below_alloc | apply pw_below_drewN | apply below_drew1) | exact HB.out | (refine below_set ?_ (Aside0.out ?hge); (case hge => assumption))))); rintro e w12 ⟨v326, rfl, ho0, hb⟩; refine ⟨_, rfl, ?_⟩; have n0_ := Aside0.mk (Kd.R_lower ho0 (below_size (by repeat (first | (with_reducible first | exact HB.out | apply below_alloc | apply pw_below_drewN | apply below_drew1) | exact HB.out)))); have n1_ := Aside0.mk (below_step (by repeat (first | (with_reducible first | exact HB.out | apply below_alloc | apply pw_below_drewN | apply below_drew1) | exact HB.out)) hb); clear HB; have HO327 := n0_; have HB := n1_; clear n0_ n1_; (try clear hb); (try clear hb2); (try clear hk); (try clear hi); (try clear ho0)) | ((with_reducible refine gate_callee (f := 10) rfl ?_); refine goesL_ (some 22) rfl rfl Tryz.func10 (by kernel_rfl) rfl #[.string a0] rfl (by (try simp only [List.map_toArray, List.map_cons, List.map_nil]); first | done | rfl | (simp only [List.length_drop, List.length_take]; rfl)) ?_; (with_reducible refine (spillwayref7_Scan.calls k a0 t328 t329 t330 _ A7.out).mono ?_); rintro e w13 ⟨v331, rfl, ho0, hb⟩; refine ⟨_, rfl, ?_⟩; have n0_ := Aside0.mk (Kd.R_elder' (by (with_reducible repeat (first | apply Kd.R_alloc | apply Kd.R_drewN | apply Kd.R_drew)); exact HO327.out) (Kd.R_base ho0) hb); have n1_ := Aside0.mk (Kd.R_lower (Kd.R_new' ho0 (Kd.R_lt (by (with_reducible repeat (first | apply Kd.R_alloc | apply Kd.R_drewN | apply Kd.R_drew)); exact HO327.out))) (below_size (by repeat (first | (with_reducible first | exact HB.out | apply below_alloc | apply pw_below_drewN | apply below_drew1) | exact HB.out)))); have n2_ := Aside0.mk (below_step (by repeat (first | (with_reducible first | exact HB.out | apply below_alloc | apply pw_below_drewN | apply below_drew1) | exact HB.out)) hb); clear HO327; clear HB; have HO327 := n0_; have HO332 := n1_; have HB := n2_; clear n0_ n1_ n2_; (try clear hb); (try clear hb2); (try clear hk); (try clear hi); (try clear ho0); obtain ⟨Ao14, co14, eo14⟩ := Kd.R_slice HO327.out; subst eo14; obtain ⟨Ao15, co15, eo15⟩ := Kd.R_slice HO332.out; subst eo15) | ((with_reducible refine gate_callee (f := 11) rfl ?_); refine goesL_ (some 28) rfl rfl Tryz.func11 (by kernel_rfl) rfl #[.slice Ao14 t323.length co14, .slice Ao15 t328.length co15, .bool true] rfl (by (try simp only [List.map_toArray, List.map_cons, List.map_nil]); first | done | rfl | (simp only [List.length_drop, List.length_take]; rfl)) ?_; (with_reducible refine (spillwaylaw7_same.calls k _ _ t323 _ _ t328 true true _ ?side1 ?side2 ?side3 ?side4 A8.out).mono ?_); (case side1 => repeat (first | exact (Kd.R_reads' HO327.out).2.2 | (with_reducible refine Kd.C_alloc ?_ _) | (with_reducible refine Kd.C_drewN ?_ _) | (with_reducible refine Kd.C_drew ?_))); (case side2 => exact (Kd.R_reads' HO327.out).2.1); (case side3 => repeat (first | exact (Kd.R_reads' HO332.out).2.2 | (with_reducible refine Kd.C_alloc ?_ _) | (with_reducible refine Kd.C_drewN ?_ _) | (with_reducible refine Kd.C_drew ?_))); (case side4 => exact (Kd.R_reads' HO332.out).2.1); rintro e w16 ⟨rfl, hb⟩; refine ⟨_, rfl, ?_⟩; have n0_ := Aside0.mk (Kd.R_below (by (with_reducible repeat (first | apply Kd.R_alloc | apply Kd.R_drewN | apply Kd.R_drew)); exact HO327.out) hb); have n1_ := Aside0.mk (Kd.R_below (by (with_reducible repeat (first | apply Kd.R_alloc | apply Kd.R_drewN | apply Kd.R_drew)); exact HO332.out) hb); have n2_ := Aside0.mk (below_step (by repeat (first | (with_reducible first | exact HB.out | apply below_alloc | apply pw_below_drewN | apply below_drew1) | exact HB.out)) hb); clear HO327; clear HO332; clear HB; have HO327 := n0_; have HO332 := n1_; have HB := n2_; clear n0_ n1_ n2_; (try clear hb); (try clear hb2); (try clear hk); (try clear hi)))
     go_ret
     exact ⟨by first | rfl | (simp [errW_none, errW_some] <;> rfl) | (simp [*, errW_none, errW_some] <;> rfl), by repeat (first | (with_reducible first | exact HB.out | apply below_alloc | apply pw_below_drewN | apply below_drew1) | exact HB.out)⟩
    ·rw [if_neg c10] at H
     exact absurd H (by simp)
   ·replace c9 := Bool.eq_false_iff.mpr c9
    subst c9
    have H1 : (none) = some r := by rw [if_neg (show ¬ (false = true) by decide)] at H; exact H
    clear H
    have H := H1
    clear H1
    exact absurd H (by simp)
 ·replace c3 := Bool.eq_false_iff.mpr c3
  subst c3
  have H1 : (none) = some r := by rw [if_neg (show ¬ (false = true) by decide)] at H; exact H
  clear H
  have H := H1
  clear H1
  exact absurd H (by simp)

def spillwaylaw7_LexTells.Pure : Prop := ∀ (a0 : ByteArray), a0.size ≤ 140737488351232 → ∃ k, spillwaylaw7_LexTells.f k a0 = some true
theorem spillwaylaw7_LexTells.walk (P : spillwaylaw7_LexTells.Pure) (a0 : ByteArray) (w : World) (w0 : a0.size ≤ 140737488351232) (hg_ : LaidW w) :
  Calls Tryz.prog 3 #[.string a0] w fun e w' => e = .returned (.bool true) ∧ Below w.heap.size w w' := by
 obtain ⟨k, h⟩ := P a0 w0
 refine (spillwaylaw7_LexTells.calls k a0 true w hg_ h rfl).mono ?_
 rintro e w' ⟨rfl, hd⟩
 exact ⟨rfl, hd⟩

end Go.Proofs.YtnjobjogddjelaaGreatDoor.Print
end

section
namespace Go.Proofs.YtnjobjogddjelaaGreatDoor.PureN
open Go.RowKit Go.Proofs.YtnjobjogddjelaaGreatDoor.Print Go.Proofs.YtnjobjogddjelaaGreatDoor.Pure Go.Proofs.YtnjobjogddjelaaGreatDoorW.PrintWords Go.Proofs.YtnjobjogddjelaaGreatDoorW.PrintLast Go.Proofs.YtnjobjogddjelaaGreatDoorW.PrintMore

/-! LexTells. -/
theorem rd_at (l : List S36) (i : Nat) (h : i < l.length) : rd_T36 l (i : Int) = l[i] := by
 unfold rd_T36
 rw [Int.toNat_natCast, List.getD_eq_getElem?_getD, List.getElem?_eq_getElem h]
 rfl
/-- The same, but for their places. -/
def eqv (p : Bool) (a b : S36) : Prop := a.f0 = b.f0 ∧ a.f2 = b.f2 ∧ a.f3 = b.f3 ∧ a.f4 = b.f4 ∧ (p = true → a.f1 = b.f1)
theorem same_l0 (x y : List S36) (p : Bool) (hn : x.length = y.length) (hl : x.length ≤ 100000) (he : ∀ i (h : i < x.length), eqv p x[i] (y[i]'(hn ▸ h))) :
  ∀ (d k i : Nat), i + d = x.length → d < k → spillwaylaw7_same.l0 k x y p (i : Int) = some true
 | 0, k, i, h, hk => by
  obtain ⟨k, rfl⟩ : ∃ m, k = m + 1 := ⟨k - 1, by omega⟩
  rw [spillwaylaw7_same.l0, if_neg (by omega)]
 | d + 1, k, i, h, hk => by
  obtain ⟨k, rfl⟩ : ∃ m, k = m + 1 := ⟨k - 1, by omega⟩
  have hi : i < x.length := by omega
  have ih := same_l0 x y p hn hl he d k (i + 1) (by omega) (by omega)
  obtain ⟨e0, e2, e3, e4, e1⟩ := he i hi
  rw [spillwaylaw7_same.l0, if_pos (by omega), if_pos (by omega), if_pos (by omega), rd_at x i hi, rd_at y i (by omega), e0, e2, e3, e4, w1 i (by omega), ih]
  cases p
  ·simp
  ·rw [e1 rfl]
   simp
theorem same_eq (x y : List S36) (p : Bool) (k : Nat) (hn : x.length = y.length) (hl : x.length ≤ 100000) (hk : x.length < k) (he : ∀ i (h : i < x.length), eqv p x[i] (y[i]'(hn ▸ h))) : spillwaylaw7_same.f k x y p = some true := by
 unfold spillwaylaw7_same.f
 rw [if_pos (by omega)]
 exact same_l0 x y p hn hl he x.length k 0 (by omega) hk
theorem same_self (x : List S36) (p : Bool) (k : Nat) (hl : x.length ≤ 100000) (hk : x.length < k) : spillwaylaw7_same.f k x x p = some true :=
 same_eq x x p k rfl hl hk (fun i h => ⟨rfl, rfl, rfl, rfl, fun _ => rfl⟩)
theorem scan_len (n : Nat) : ∀ (l : List UInt8) (i : Nat) (ts : List Tok), l.length ≤ n → scanS i l = .ok ts → ts.length ≤ l.length + 1 := by
 induction n with
 | zero =>
  intro l i ts h hs
  cases l with
  | nil =>
   rw [scanS_nil] at hs
   injection hs with hs
   rw [← hs]
   simp
  | cons c r => simp at h
 | succ n ih =>
  intro l i ts h hs
  cases l with
  | nil =>
   rw [scanS_nil] at hs
   injection hs with hs
   rw [← hs]
   simp
  | cons c r =>
   rw [List.length_cons] at h ⊢
   cases hb : blank c
   ·cases e : readS (c :: r) with
    | none => rw [scanS_bad _ _ _ hb e] at hs; simp at hs
    | some x =>
     rw [scanS_good _ _ _ x e] at hs
     cases e2 : scanS (i + x.2) (r.drop (x.2 - 1)) with
     | error j => rw [e2] at hs; simp at hs
     | ok ts' =>
      rw [e2] at hs
      injection hs with hs
      have := ih (r.drop (x.2 - 1)) (i + x.2) ts' (by rw [List.length_drop]; omega) e2
      rw [List.length_drop] at this
      rw [← hs, List.length_cons]
      omega
   ·rw [scanS_blank _ _ _ hb] at hs
    have := ih r (i + 1) ts (by omega) hs
    omega
theorem scanW_len (l : List UInt8) : (scanW l).1.length ≤ 1201 := by
 unfold scanW
 by_cases h : 600 < l.length
 ·rw [if_pos h]
  simp
 ·rw [if_neg h]
  cases e : scanS 0 l with
  | error j => simp [scanO]
  | ok ts =>
   have := scan_len _ l 0 ts (Nat.le_refl _) e
   simp only [scanO, List.nil_append, List.length_map]
   omega
theorem LexTells (a0 : ByteArray) : spillwaylaw7_LexTells.f 5000 a0 = some true := by
 obtain ⟨⟨l⟩⟩ := a0
 unfold spillwaylaw7_LexTells.f
 rw [known_eq 5000 (by omega), Option.bind_some, if_pos rfl]
 split
 ·rfl
 ·rw [lexscan_eq l 5000 (by omega), Option.bind_some, refscan_eq l 5000 (by omega), Option.bind_some]
  have hl := scanW_len l
  rw [same_self _ _ _ (by omega) (by omega), Option.bind_some, if_pos rfl, if_pos rfl]
  simp
end Go.Proofs.YtnjobjogddjelaaGreatDoor.PureN
end
