import Derived.Test.YtjaolddgnijgiaaDoorPrint0
import Derived.Test.YtjaolddgnijgiaaDoorShelf
import Derived.Lib.ItoaMem
import Derived.Laws.Externs
import Derived.Lib.AppendIntMem
import Derived.Shelf.Strconv.Itoa3
namespace Go.Proofs.YtjaolddgnijgiaaDoor.Print
open Go.Sort Go.Shelf
open Go.RowKit Go.Proofs.YtjaolddgnijgiaaDoorX Go.Proofs.YtjaolddgnijgiaaDoorW.PrintWords Go.Proofs.YtjaolddgnijgiaaDoorW.PrintLast Go.Proofs.YtjaolddgnijgiaaDoorW.PrintMore
attribute [local go_sem] max2_int min2_int max_two min_two max_three min_three max_four min_four
set_option linter.unusedVariables false
set_option linter.unusedSimpArgs false

/-! What is asked of the world: a variable that is a number, a table. -/
structure LaidW (w : World) : Prop where
  most : ∃ m, w.cell? ⟨2, 0, none⟩ = some (.int .i64 m)
  pow : Lib.TabIs Tryd.prog w "internal/strconv.uint64pow10" .u64 Lib.pow10Tab
theorem LaidW.below {w w' : World} (h : LaidW w) (hb : Below w.heap.size w w') : LaidW w' := by
  obtain ⟨⟨m, hm⟩, hp⟩ := h
  refine ⟨⟨m, (hb.cell (World.block_lt_of_cell? w _ hm)).trans hm⟩, ?_⟩
  unfold Lib.TabIs World.var? at *
  cases hg : Tryd.prog.globalNamed "internal/strconv.uint64pow10" with
  | none => simp [hg] at hp
  | some g =>
    simp only [hg, Option.bind_some] at hp ⊢
    have hlt : g < w.heap.size := by
      rcases Nat.lt_or_ge g w.heap.size with h' | h'
      · exact h'
      · rw [Array.getElem?_eq_none h'] at hp; simp at hp
    rw [hb.block g hlt]
    exact hp

/-! ### strings.CutPrefix, strings.Cut, strings.TrimRight, strings.Repeat -/
def strings_CutPrefix.f (s p : ByteArray) : Option (ByteArray × Bool) := some (⟨(Lib.trimPrefix s.data.toList p.data.toList).toArray⟩, Lib.hasPrefix s.data.toList p.data.toList)
theorem strings_CutPrefix.calls (s p : ByteArray) (r1 : ByteArray) (r2 : Bool) (w : World) (h : strings_CutPrefix.f s p = some (r1, r2)) :
    Calls Tryd.prog 31 #[.string s, .string p] w fun e w' => e = .returned (.tuple #[.string r1, .bool r2]) ∧ Drawn0 w w' := by
  obtain ⟨rfl, rfl⟩ := Prod.mk.inj (Option.some.inj h)
  exact (Tryd.strings_CutPrefix s p w).mono fun e w' hh => ⟨hh.1, 0, by rw [hh.2, World.drewN_zero]⟩
def strings_Cut.f (s p : ByteArray) : Option (ByteArray × ByteArray × Bool) :=
  if s.size < 4294967281 then some (⟨(Lib.cut s.data.toList p.data.toList).1.toArray⟩, ⟨(Lib.cut s.data.toList p.data.toList).2.1.toArray⟩, (Lib.cut s.data.toList p.data.toList).2.2) else none
theorem strings_Cut.calls (s p : ByteArray) (r1 r2 : ByteArray) (r3 : Bool) (w : World) (hg_ : LaidW w) (h : strings_Cut.f s p = some (r1, r2, r3)) :
    Calls Tryd.prog 32 #[.string s, .string p] w fun e w' => e = .returned (.tuple #[.string r1, .string r2, .bool r3]) ∧ Below w.heap.size w w' := by
  unfold strings_Cut.f at h
  by_cases c : s.size < 4294967281
  · rw [if_pos c] at h
    obtain ⟨rfl, h2⟩ := Prod.mk.inj (Option.some.inj h)
    obtain ⟨rfl, rfl⟩ := Prod.mk.inj h2
    obtain ⟨m, hm⟩ := hg_.most
    refine (Tryd.strings_Cut s p m w c hm).mono fun e w' hh => ⟨hh.1, ?_⟩
    obtain ⟨n, e2⟩ := hh.2
    rw [e2]
    exact pw_below_drewN (Below.refl _ _) n
  · rw [if_neg c] at h
    exact absurd h (by simp)
def strings_TrimRight.f (s p : ByteArray) : Option ByteArray :=
  match p.data.toList with
  | [c] => if c.toNat < 128 ∧ s.size ≤ 9223372036854775807 then some ⟨(Lib.trimRightB s.data.toList c).toArray⟩ else none
  | _ => none
theorem strings_TrimRight.calls (s p : ByteArray) (r : ByteArray) (w : World) (h : strings_TrimRight.f s p = some r) :
    Calls Tryd.prog 41 #[.string s, .string p] w fun e w' => e = .returned (.string r) ∧ Below w.heap.size w w' := by
  obtain ⟨⟨p⟩⟩ := p
  match p, h with
  | [c], h =>
    have h : (if c.toNat < 128 ∧ s.size ≤ 9223372036854775807 then some (⟨(Lib.trimRightB s.data.toList c).toArray⟩ : ByteArray) else none) = some r := h
    by_cases g : c.toNat < 128 ∧ s.size ≤ 9223372036854775807
    · rw [if_pos g] at h
      obtain rfl := Option.some.inj h
      exact (Tryd.strings_TrimRight_one s c g.1 w g.2).mono fun e w' hh => ⟨hh.1, hh.2 ▸ Below.refl _ _⟩
    · rw [if_neg g] at h
      exact absurd h (by simp)
def strings_Repeat.f (s : ByteArray) (c : Int) : Option ByteArray :=
  if 0 ≤ c ∧ c ≤ 9223372036854775807 ∧ s.size * c.toNat ≤ 140737488355328 then some ⟨(Lib.repeatL s.data.toList c.toNat).toArray⟩ else none
theorem strings_Repeat.calls (s : ByteArray) (c : Int) (r : ByteArray) (w : World) (h : strings_Repeat.f s c = some r) :
    Calls Tryd.prog 35 #[.string s, .int .i64 c] w fun e w' => e = .returned (.string r) ∧ Below w.heap.size w w' := by
  unfold strings_Repeat.f at h
  by_cases g : 0 ≤ c ∧ c ≤ 9223372036854775807 ∧ s.size * c.toNat ≤ 140737488355328
  · rw [if_pos g] at h
    obtain rfl := Option.some.inj h
    have hx := Tryd.strings_Repeat s c.toNat w (by omega) g.2.2
    rw [show ((c.toNat : Nat) : Int) = c by omega] at hx
    exact hx
  · rw [if_neg g] at h
    exact absurd h (by simp)

/-! ### strconv.ParseUint -/
theorem conv_below (w : World) (s : ByteArray) : Below w.heap.size w (Lib.bytesWorld w 5 s) :=
  ⟨rfl, rfl, rfl, by rw [Lib.bytesWorld_size]; omega, fun k hk => Lib.bytesWorld_at_old w 5 s k hk⟩
def strconv_ParseUint.f (s : ByteArray) (b z : Int) : Option (Int × Option Int) :=
  if b = 10 ∧ z = 64 ∧ s.size ≤ 9223372036854775806 then
    match Lib.parseUintB 64 s.data.toList with
    | .ok u => some ((u : Int), none)
    | _ => none
  else none
theorem strconv_ParseUint.calls (s : ByteArray) (b z : Int) (r1 : Int) (r2 : Option Int) (w : World) (h : strconv_ParseUint.f s b z = some (r1, r2)) :
    Calls Tryd.prog 34 #[.string s, .int .i64 b, .int .i64 z] w fun e w' => e = .returned (.tuple #[.int .u64 r1, errW r2]) ∧ Below w.heap.size w w' := by
  unfold strconv_ParseUint.f at h
  by_cases g : b = 10 ∧ z = 64 ∧ s.size ≤ 9223372036854775806
  · rw [if_pos g] at h
    obtain ⟨rfl, rfl, hs⟩ := g
    split at h
    · rename_i u hp
      obtain ⟨rfl, rfl⟩ := Prod.mk.inj (Option.some.inj h)
      refine (Tryd.strconv_ParseUint_10_at64_ok s hs u hp w).mono fun e w' hh => ⟨hh.1, ?_⟩
      rcases hh.2 with rfl | rfl
      · exact Below.refl _ _
      · exact conv_below w s
    · exact absurd h (by simp)
  · rw [if_neg g] at h
    exact absurd h (by simp)

/-! ### strconv.FormatUint -/
theorem holds_zero20 (w : World) (T : TypeId) (nd : Nat) (hs : nd ≤ 24) : Holds (fun (b : UInt8) => Value.int .u8 (b.toNat : Int)) (w.alloc (.cells Lib.zeros24 T)) w.heap.size 0 (Array.replicate nd (0 : UInt8)) := fun j hj => by
  have hj' : j < nd := by simpa using hj
  refine ⟨?_, World.frozen?_alloc_new _ _ _ _⟩
  rw [World.cell?_alloc_new, Lib.zeros24_at _ (by omega), getElem!_pos _ j hj]
  simp
theorem fin20 (w : World) (o : Obj) (dk : Array UInt8) (k : Nat) : Below w.heap.size w ((putRow (fun (b : UInt8) => Value.int .u8 (b.toNat : Int)) (w.alloc o) w.heap.size 0 dk).drewN k) := by
  rw [alloc_eq_grow]
  obtain ⟨os', _, e⟩ := putRow_grow_new (fun (b : UInt8) => Value.int .u8 (b.toNat : Int)) w #[o] w.heap.size 0 dk (Nat.le_refl _)
  rw [e]
  exact Lib.below_grow w.heap.size w (Nat.le_refl _) k os'
def strconv_FormatUint.f (u b : Int) : Option ByteArray := if b = 10 ∧ 0 ≤ u ∧ u < 18446744073709551616 then some ⟨(Lib.decDigits u.toNat).toArray⟩ else none
set_option maxRecDepth 100000 in
theorem internal_FormatUint.calls (u : Nat) (hu64 : u < 18446744073709551616) (w : World) (hg_ : LaidW w) :
    Calls Tryd.prog 57 #[.int .u64 u, .int .i64 10] w fun e w' => e = .returned (.string ⟨(Lib.decDigits u).toArray⟩) ∧ Below w.heap.size w w' := by
  by_cases hs : u < 100
  · have hi : ((u : Int) < 100) = True := eq_true (by omega)
    have hw : wrap64 (u : Int) = (u : Int) := by unfold wrap64; omega
    go_enter Tryd.func57, Tryd.ntmps57
    go_wp2_with (go_at_call 75; refine (Tryd.internal_strconv_small u hs _).mono ?_; rintro e w' ⟨rfl, rfl⟩)
    go_ret
    exact ⟨rfl, Below.refl _ _⟩
  · have hi : ((u : Int) < 100) = False := eq_false (by omega)
    have hu1 : 1 ≤ u := by omega
    have hnd20 : Lib.nDigits u ≤ 20 := by have := Lib.numDigits_eq u hu1 hu64; split at this <;> omega
    have hal : Tryd.prog.arrayLen 107 = 24 := by kernel_rfl
    have hsl1 : ∀ W, (Instr.sliceAt 107 (.pointer (some ⟨w.heap.size, 0, none⟩)) none (some (.int .i64 (Lib.nDigits u : Int))) none).run Tryd.prog W = .ok (.slice (some ⟨w.heap.size, 0, none⟩) (Lib.nDigits u) 24) W := fun W => by
      rw [run_sliceAt_array_h W 107 ⟨w.heap.size, 0, none⟩ (by kernel_rfl) .i64 (Lib.nDigits u : Int) (by omega) (by rw [hal]; omega), hal]
      go_simp
    have hH0 := holds_zero20 w 107 (Lib.nDigits u) (by omega)
    have hfmt := Tryd.internal_strconv_formatBase10 w.heap.size 0 24 u (Array.replicate (Lib.nDigits u) 0) (w.alloc (.cells Lib.zeros24 107)) hH0 (by rw [Array.size_replicate]; exact Lib.lt_pow_nDigits u) hu64 (by rw [Array.size_replicate]; omega)
    rw [Array.size_replicate] at hfmt
    have HH0 := Lib.hid hH0
    clear hH0 hal
    go_enter Tryd.func57, Tryd.ntmps57
    go_wp2_with (first
      | (go_at_call 76; refine (Tryd.internal_strconv_numDigits u hu1 hu64 _ (Lib.tabIs_alloc hg_.pow _)).mono ?_; rintro e w' ⟨rfl, rfl⟩))
    go_at_call 77
    refine hfmt.mono ?_
    rintro e w' ⟨rfl, k, v', dk, rfl, hF⟩
    have hcv : (convert 78 9 (.slice (some ⟨w.heap.size, 0, none⟩) (Lib.nDigits u) 24)).run Tryd.prog ((putRow (fun (b : UInt8) => Value.int .u8 (b.toNat : Int)) (w.alloc (.cells Lib.zeros24 107)) w.heap.size 0 dk).drewN k) = .ok (.string ⟨(Lib.decDigits u).toArray⟩) ((putRow (fun (b : UInt8) => Value.int .u8 (b.toNat : Int)) (w.alloc (.cells Lib.zeros24 107)) w.heap.size 0 dk).drewN k) := by
      have h := run_convert_bytes_back (P := Tryd.prog) ((putRow (fun (b : UInt8) => Value.int .u8 (b.toNat : Int)) (w.alloc (.cells Lib.zeros24 107)) w.heap.size 0 dk).drewN k) 78 9 5 ⟨w.heap.size, 0, none⟩ 24 (Lib.decDigits u) (by kernel_rfl) (by kernel_rfl) (by kernel_rfl) (fun j hj => by
        rw [Lib.row_is_numeral hF j hj, Lib.add_plain, World.cell?_drewN]
        exact cell?_putRow (fun (b : UInt8) => Value.int .u8 (b.toNat : Int)) _ w.heap.size 0 _ dk HH0.out (by rw [hF.size, Array.size_replicate]) j (by rw [hF.size]; rw [Lib.decDigits_length] at hj; exact hj))
      rw [Lib.decDigits_length] at h
      exact h
    go_wp2
    go_ret
    exact ⟨rfl, fin20 w _ dk k⟩
theorem strconv_FormatUint.calls (u b : Int) (r : ByteArray) (w : World) (hg_ : LaidW w) (h : strconv_FormatUint.f u b = some r) :
    Calls Tryd.prog 40 #[.int .u64 u, .int .i64 b] w fun e w' => e = .returned (.string r) ∧ Below w.heap.size w w' := by
  unfold strconv_FormatUint.f at h
  by_cases g : b = 10 ∧ 0 ≤ u ∧ u < 18446744073709551616
  · rw [if_pos g] at h
    obtain ⟨rfl, h0, h1⟩ := g
    obtain ⟨u, rfl⟩ : ∃ n : Nat, u = n := ⟨u.toNat, by omega⟩
    obtain rfl := Option.some.inj h
    go_enter Tryd.func40, Tryd.ntmps40
    go_wp2_with (go_at_call 57; refine (internal_FormatUint.calls u (by omega) _ hg_).mono ?_; rintro e w' ⟨rfl, hb⟩)
    go_ret
    exact ⟨rfl, hb⟩
  · rw [if_neg g] at h
    exact absurd h (by simp)

/-! ### math/bits -/
def bits_Mul64.f (a b : Int) : Option (Int × Int) := if 0 ≤ a ∧ a < 18446744073709551616 ∧ 0 ≤ b ∧ b < 18446744073709551616 then some (a * b / 18446744073709551616, a * b % 18446744073709551616) else none
theorem bits_Mul64.calls (a b : Int) (r1 r2 : Int) (w : World) (h : bits_Mul64.f a b = some (r1, r2)) :
    Calls Tryd.prog 55 #[.int .u64 a, .int .u64 b] w fun e w' => e = .returned (.tuple #[.int .u64 r1, .int .u64 r2]) ∧ Drawn0 w w' := by
  unfold bits_Mul64.f at h
  by_cases g : 0 ≤ a ∧ a < 18446744073709551616 ∧ 0 ≤ b ∧ b < 18446744073709551616
  · rw [if_pos g] at h
    obtain ⟨h0, h1, h2, h3⟩ := g
    obtain ⟨a, rfl⟩ : ∃ n : Nat, a = n := ⟨a.toNat, by omega⟩
    obtain ⟨b, rfl⟩ : ∃ n : Nat, b = n := ⟨b.toNat, by omega⟩
    obtain ⟨rfl, rfl⟩ := Prod.mk.inj (Option.some.inj h)
    refine (Tryd.bits_Mul64 a b (by omega) (by omega) w).mono fun e w' hh => ⟨?_, 0, by rw [hh.2, World.drewN_zero]⟩
    rw [hh.1]
    rfl
  · rw [if_neg g] at h
    exact absurd h (by simp)
def bits_LeadingZeros64.f (x : Int) : Option Int := if 0 ≤ x ∧ x ≤ 18446744073709551615 then some (64 - (Lib.bitLen x.toNat : Int)) else none
theorem bits_LeadingZeros64.calls (x : Int) (r : Int) (w : World) (h : bits_LeadingZeros64.f x = some r) :
    Calls Tryd.prog 74 #[.int .u64 x] w fun e w' => e = .returned (.int .i64 r) ∧ Drawn0 w w' := by
  unfold bits_LeadingZeros64.f at h
  by_cases g : 0 ≤ x ∧ x ≤ 18446744073709551615
  · rw [if_pos g] at h
    obtain rfl := Option.some.inj h
    exact (Tryd.bits_LeadingZeros64 x w g.1 g.2).mono fun e w' hh => ⟨hh.1, 0, by rw [hh.2, World.drewN_zero]⟩
  · rw [if_neg g] at h
    exact absurd h (by simp)
theorem heap3 (w : World) (a b c : Obj) : (((w.alloc a).alloc b).alloc c).heap[w.heap.size + 1 + 1]? = some c := by
  have hs : ((w.heap.push a).push b).size = w.heap.size + 1 + 1 := by simp
  show (((w.heap.push a).push b).push c)[w.heap.size + 1 + 1]? = _
  rw [← hs, Array.getElem?_push_size]
theorem add64_run (x y c : Nat) (hc : c ≤ 1) (w : World) :
    (callFunc 43 #[.int .u64 x, .int .u64 y, .int .u64 c]).run Tryd.prog w =
      .ok (.value (.tuple #[.int .u64 (((x + y + c) % 18446744073709551616 : Nat) : Int), .int .u64 (((x + y + c) / 18446744073709551616 : Nat) : Int)])) w := by
  rw [run_callFunc_extern Tryd.func43 (by kernel_rfl) (by kernel_rfl) (by kernel_rfl) (e := add64Entry) (by kernel_rfl), run_add64 x y c (by omega) (by omega) (by omega) (by omega)]
  simp only [Result.andThen]
  congr 5 <;> omega
def fix_wide_add.f (a b c d : Int) : Option (Int × Int) :=
  if (0 ≤ a ∧ a < 18446744073709551616) ∧ (0 ≤ b ∧ b < 18446744073709551616) ∧ (0 ≤ c ∧ c < 18446744073709551616) ∧ (0 ≤ d ∧ d < 18446744073709551616) then
    some ((a + c + (b + d) / 18446744073709551616) % 18446744073709551616, (b + d) % 18446744073709551616) else none
set_option maxRecDepth 100000 in
theorem fix_wide_add.calls (a b c d : Int) (r1 r2 : Int) (w : World) (h : fix_wide_add.f a b c d = some (r1, r2)) :
    Calls Tryd.prog 26 #[.agg #[.int .u64 a, .int .u64 b], .agg #[.int .u64 c, .int .u64 d]] w fun e w' => e = .returned (.agg #[.int .u64 r1, .int .u64 r2]) ∧ Below w.heap.size w w' := by
  unfold fix_wide_add.f at h
  by_cases g : (0 ≤ a ∧ a < 18446744073709551616) ∧ (0 ≤ b ∧ b < 18446744073709551616) ∧ (0 ≤ c ∧ c < 18446744073709551616) ∧ (0 ≤ d ∧ d < 18446744073709551616)
  · rw [if_pos g] at h
    obtain ⟨⟨a0, a1⟩, ⟨b0, b1⟩, ⟨c0, c1⟩, d0, d1⟩ := g
    obtain ⟨a, rfl⟩ : ∃ n : Nat, a = n := ⟨a.toNat, by omega⟩
    obtain ⟨b, rfl⟩ : ∃ n : Nat, b = n := ⟨b.toNat, by omega⟩
    obtain ⟨c, rfl⟩ : ∃ n : Nat, c = n := ⟨c.toNat, by omega⟩
    obtain ⟨d, rfl⟩ : ∃ n : Nat, d = n := ⟨d.toNat, by omega⟩
    obtain ⟨rfl, rfl⟩ := Prod.mk.inj (Option.some.inj h)
    have HB := Aside0.mk (Below.refl w.heap.size w)
    obtain ⟨lo, hlo⟩ : ∃ n : Nat, (b + d) % 18446744073709551616 = n := ⟨_, rfl⟩
    obtain ⟨cy, hcy⟩ : ∃ n : Nat, (b + d) / 18446744073709551616 = n := ⟨_, rfl⟩
    obtain ⟨hi, hhi⟩ : ∃ n : Nat, (a + c + cy) % 18446744073709551616 = n := ⟨_, rfl⟩
    obtain ⟨c2, hc2⟩ : ∃ n : Nat, (a + c + cy) / 18446744073709551616 = n := ⟨_, rfl⟩
    have f1 : ((a : Int) + c + ((b : Int) + d) / 18446744073709551616) % 18446744073709551616 = (hi : Int) := by omega
    have f2 : ((b : Int) + d) % 18446744073709551616 = (lo : Int) := by omega
    rw [f1, f2]
    have e1 : ∀ w, (callFunc 43 #[.int .u64 (b : Int), .int .u64 (d : Int), .int .u64 0]).run Tryd.prog w = .ok (.value (.tuple #[.int .u64 (lo : Int), .int .u64 (cy : Int)])) w := fun w => by
      have := add64_run b d 0 (by omega) w
      rw [Nat.add_zero, hlo, hcy] at this
      exact this
    have e2 : ∀ w, (callFunc 43 #[.int .u64 (a : Int), .int .u64 (c : Int), .int .u64 (cy : Int)]).run Tryd.prog w = .ok (.value (.tuple #[.int .u64 (hi : Int), .int .u64 (c2 : Int)])) w := fun w => by
      have := add64_run a c cy (by omega) w
      rw [hhi, hc2] at this
      exact this
    clear h a0 a1 b0 b1 c0 c1 d0 d1 f1 f2 hlo hcy hhi hc2
    go_enter Tryd.func26, Tryd.ntmps26
    go_wp2
    refine bodyPost_ret (results_cell_row rfl _ _ (w.heap.size + 1 + 1) 49 #[.int .u64 (hi : Int), .int .u64 (lo : Int)] (0, 0) _ (by first | rfl | simp) ?blk Tryd.underlying49 rfl (by kernel_rfl)) rfl ?_
    case blk =>
      exact heap3 w _ _ _
    exact ⟨rfl, by repeat (first | (with_reducible first | exact HB.out | apply below_alloc | apply pw_below_drewN | apply below_drew1) | exact HB.out | refine below_set ?_ (by omega))⟩
  · rw [if_neg g] at h
    exact absurd h (by simp)
end Go.Proofs.YtjaolddgnijgiaaDoor.Print
