import Derived.Test.YtgjpaldbagkahaaPrint12
import Derived.Test.YtgjpaldbagkahaaExt2
import Derived.Laws.BitsAllLaws
namespace Go.Proofs.Ytgjpaldbagkahaa.Pure
open Go.RowKit Go.Proofs.Ytgjpaldbagkahaa.Print Go.Proofs.YtgjpaldbagkahaaW.PrintWords Go.Proofs.YtgjpaldbagkahaaW.PrintLast Go.Proofs.YtgjpaldbagkahaaW.PrintMore
set_option linter.unusedVariables false
set_option linter.unusedSimpArgs false

def nb (n : Int) (i : Nat) : Int := n / 2 ^ (8 * i) % 256
def putL (n : Int) (w : Nat) : List Int := (List.range w).map (nb n)
theorem putL_length (n : Int) (w : Nat) : (putL n w).length = w := by simp [putL]
theorem putL_succ (n : Int) (w : Nat) : putL n (w + 1) = putL n w ++ [nb n w] := by simp [putL, List.range_succ]
def wid (b : Int) : Nat := (mn (mx b 0) 8).toNat
theorem wid_le (b : Int) : wid b ≤ 8 := by unfold wid mn mx; split <;> split <;> omega
theorem wid_eq (b : Int) : mn (mx b 0) 8 = (wid b : Int) := by unfold wid mn mx; split <;> split <;> omega
theorem wrap_id {n : Int} (h1 : -9223372036854775808 ≤ n) (h2 : n ≤ 9223372036854775807) : wrap64 n = n := by unfold wrap64; omega

theorem put_l0 (n : Int) (w : Nat) (hw : w ≤ 8) (l : List Int) (hl : l.length < 140737488355000) (d : Nat) : ∀ (k i : Nat), i + d = w → d < k →
    bits_Put.l0 k (l ++ putL n i) n w i = some (l ++ putL n w) := by
  induction d with
  | zero =>
    intro k i hi hk
    obtain ⟨k, rfl⟩ : ∃ m, k = m + 1 := ⟨k - 1, by omega⟩
    obtain rfl : i = w := by omega
    simp only [bits_Put.l0]
    rw [if_neg (by omega)]
  | succ d ih =>
    intro k i hi hk
    obtain ⟨k, rfl⟩ : ∃ m, k = m + 1 := ⟨k - 1, by omega⟩
    simp only [bits_Put.l0]
    have e1 : wrap64 (8 * (i : Int)) = ((8 * i : Nat) : Int) := by rw [wrap_id (by omega) (by omega)]; omega
    have e2 : wrap64 ((i : Int) + 1) = ((i + 1 : Nat) : Int) := by rw [wrap_id (by omega) (by omega)]; omega
    have e3 : shr .u64 n ((8 * i : Nat) : Int) % 256 = nb n i := by
      unfold shr nb
      rw [Int.toNat_natCast, Nat.min_eq_left (by show 8 * i ≤ 64; omega)]
    rw [if_pos (by omega), e1, if_pos (by omega), if_pos (by simp [putL_length]; omega), e2, e3, List.append_assoc, ← putL_succ]
    exact ih k (i + 1) (by omega) (by omega)

theorem put_eq (k : Nat) (l : List Int) (n b : Int) (hk : 9 ≤ k) (hl : l.length < 140737488355000) : bits_Put.f k l n b = some (l ++ putL n (wid b)) := by
  unfold bits_Put.f bits_width.f
  rw [Option.bind_some, wid_eq]
  have h := put_l0 n (wid b) (wid_le b) l hl (wid b) k 0 (by omega) (by have := wid_le b; omega)
  simpa [putL] using h

/-! reading -/
def valL : List Int → Int
  | [] => 0
  | c :: r => c + 256 * valL r
def Bytes (l : List Int) : Prop := ∀ x ∈ l, 0 ≤ x ∧ x ≤ 255
theorem Bytes.take {l : List Int} (h : Bytes l) (m : Nat) : Bytes (l.take m) := fun x hx => h x (List.mem_of_mem_take hx)
theorem Bytes.drop {l : List Int} (h : Bytes l) (m : Nat) : Bytes (l.drop m) := fun x hx => h x (List.mem_of_mem_drop hx)
theorem Bytes.append {l m : List Int} (h : Bytes l) (h2 : Bytes m) : Bytes (l ++ m) := fun x hx => (List.mem_append.1 hx).elim (h x) (h2 x)
theorem putL_bytes (n : Int) (w : Nat) : Bytes (putL n w) := by
  intro x hx
  simp only [putL, List.mem_map, nb] at hx
  obtain ⟨i, _, rfl⟩ := hx
  omega
theorem valL_range : ∀ (l : List Int), Bytes l → 0 ≤ valL l ∧ valL l < 256 ^ l.length
  | [], _ => ⟨Int.le_refl 0, Int.zero_lt_one⟩
  | c :: r, h => by
    have ih := valL_range r (fun x hx => h x (List.mem_cons_of_mem _ hx))
    have hc := h c List.mem_cons_self
    simp only [valL, List.length_cons, Int.pow_succ]
    omega
theorem valL_snoc : ∀ (l : List Int) (c : Int), valL (l ++ [c]) = valL l + c * 256 ^ l.length
  | [], c => by show c + 256 * 0 = 0 + c * 1; omega
  | d :: r, c => by
    simp only [List.cons_append, valL, valL_snoc r c, List.length_cons, Int.pow_succ, Int.mul_add]
    rw [Int.mul_comm (256 ^ r.length) 256, ← Int.mul_assoc, ← Int.mul_assoc, Int.mul_comm c 256]
    omega
theorem take_snoc (l : List Int) (i : Nat) (h : i < l.length) : l.take (i + 1) = l.take i ++ [l.getD i 0] := by
  rw [List.take_succ_eq_append_getElem h, List.getD_eq_getElem?_getD, List.getElem?_eq_getElem h]
  rfl
set_option maxRecDepth 10000 in
theorem or_step (a c : Int) (i : Nat) (hi : i < 8) (ha : 0 ≤ a) (ha2 : a < 256 ^ i) (hc : 0 ≤ c) (hc2 : c ≤ 255) :
    Go.bits .or .u64 a (shl .u64 (IntKind.u64.wrap c) ((8 * i : Nat) : Int)) = a + c * 256 ^ i := by
  obtain ⟨A, rfl⟩ := Int.eq_ofNat_of_zero_le ha
  obtain ⟨C, rfl⟩ := Int.eq_ofNat_of_zero_le hc
  have e0 : IntKind.u64.wrap (C : Int) = (C : Int) := by rw [IntKind.wrap_u64]; omega
  have hA : A < 256 ^ i := by exact_mod_cast ha2
  have hC : C < 256 := by omega
  have h256 : (256 : Nat) ^ i = 2 ^ (8 * i) := by rw [Nat.pow_mul]
  have hlt : C * 2 ^ (8 * i) < 18446744073709551616 := by
    have h1 : C * 2 ^ (8 * i) < 2 ^ 8 * 2 ^ (8 * i) := Nat.mul_lt_mul_of_pos_right (by omega) (Nat.pow_pos (by omega))
    have h2 : 2 ^ 8 * 2 ^ (8 * i) ≤ 2 ^ 64 := by rw [← Nat.pow_add]; exact Nat.pow_le_pow_right (by omega) (by omega)
    omega
  have e1 : shl .u64 (C : Int) ((8 * i : Nat) : Int) = ((C * 2 ^ (8 * i) : Nat) : Int) := by
    unfold shl
    rw [Int.toNat_natCast, Nat.min_eq_left (by show 8 * i ≤ 64; omega), IntKind.wrap_u64]
    have : ((C : Int) * 2 ^ (8 * i)) = ((C * 2 ^ (8 * i) : Nat) : Int) := by rw [Int.natCast_mul, Int.natCast_pow]; rfl
    rw [this]
    omega
  have hA2 : A < 18446744073709551616 := by
    have : 256 ^ i ≤ 2 ^ 64 := by rw [h256]; exact Nat.pow_le_pow_right (by omega) (by omega)
    omega
  rw [e0, e1, u64_or_nat _ _ hA2 hlt]
  have h3 : A ||| C * 2 ^ (8 * i) = A + C * 256 ^ i := by
    have h := Nat.shiftLeft_add_eq_or_of_lt (a := C) (i := 8 * i) (b := A) (by rw [← h256]; exact hA)
    rw [Nat.shiftLeft_eq] at h
    rw [Nat.or_comm, ← h, h256]
    omega
  rw [h3, Int.natCast_add, Int.natCast_mul, Int.natCast_pow]
  rfl

theorem get_l0 (l y : List Int) (hy : Bytes y) (w : Nat) (hw : w ≤ 8) (hyl : y.length = w) (hl : w ≤ l.length) (d : Nat) : ∀ (k i : Nat), i + d = w → d < k →
    bits_Get.l0 k l w (valL (y.take i)) y w i = some (valL y, l.drop w, 0) := by
  induction d with
  | zero =>
    intro k i hi hk
    obtain ⟨k, rfl⟩ : ∃ m, k = m + 1 := ⟨k - 1, by omega⟩
    obtain rfl : i = w := by omega
    simp only [bits_Get.l0]
    rw [if_neg (by omega), if_pos (by omega), if_pos (by omega), List.take_of_length_le (by omega), Int.toNat_natCast]
  | succ d ih =>
    intro k i hi hk
    obtain ⟨k, rfl⟩ : ∃ m, k = m + 1 := ⟨k - 1, by omega⟩
    simp only [bits_Get.l0]
    have e1 : wrap64 (8 * (i : Int)) = ((8 * i : Nat) : Int) := by rw [wrap_id (by omega) (by omega)]; omega
    have e2 : wrap64 ((i : Int) + 1) = ((i + 1 : Nat) : Int) := by rw [wrap_id (by omega) (by omega)]; omega
    have hm : rd y i = y.getD i 0 := by unfold rd; rw [Int.toNat_natCast]
    have hc : 0 ≤ y.getD i 0 ∧ y.getD i 0 ≤ 255 := by
      rw [List.getD_eq_getElem?_getD, List.getElem?_eq_getElem (by omega), Option.getD_some]
      exact hy _ (List.getElem_mem _)
    have hr := valL_range (y.take i) (hy.take i)
    rw [List.length_take, Nat.min_eq_left (by omega)] at hr
    have hs := valL_snoc (y.take i) (y.getD i 0)
    rw [List.length_take, Nat.min_eq_left (by omega), ← take_snoc y i (by omega)] at hs
    rw [if_pos (by omega), if_pos (by omega), if_pos (by omega), e1, if_pos (by omega), e2, hm, or_step _ _ i (by omega) hr.1 hr.2 hc.1 hc.2, ← hs]
    exact ih k (i + 1) (by omega) (by omega)

theorem get_short (k : Nat) (l : List Int) (b : Int) (h : l.length < wid b) : bits_Get.f k l b = some (0, l, 10) := by
  unfold bits_Get.f bits_width.f
  rw [Option.bind_some, wid_eq, if_pos (by omega)]
theorem get_eq (k : Nat) (l : List Int) (b : Int) (hk : 9 ≤ k) (hb : Bytes l) (h : wid b ≤ l.length) : bits_Get.f k l b = some (valL (l.take (wid b)), l.drop (wid b), 0) := by
  unfold bits_Get.f bits_width.f
  rw [Option.bind_some, wid_eq, if_neg (by omega), if_pos (by omega), if_pos (by omega), Option.bind_some, Int.toNat_natCast]
  have hl : (l.take (wid b)).length = wid b := by rw [List.length_take]; omega
  have h2 := get_l0 l (l.take (wid b)) (hb.take _) (wid b) (wid_le b) hl h (wid b) k 0 (by omega) (by have := wid_le b; omega)
  rw [hl]
  simpa [valL] using h2

/-- What is put is read as the same. -/
theorem valL_putL (n : Int) (h : 0 ≤ n) : ∀ w : Nat, valL (putL n w) = n % 256 ^ w
  | 0 => by simp [putL, valL, Int.emod_one]
  | w + 1 => by
    rw [putL_succ, valL_snoc, valL_putL n h w, putL_length]
    unfold nb
    have e : (2 : Int) ^ (8 * w) = 256 ^ w := by rw [Int.pow_mul]; rfl
    rw [e, Int.pow_succ]
    have hp : (0 : Int) < 256 ^ w := Int.pow_pos (by omega)
    obtain ⟨N, rfl⟩ := Int.eq_ofNat_of_zero_le h
    have h2 := Nat.mod_mul (x := N) (a := 256 ^ w) (b := 256)
    rw [Nat.mul_comm (256 ^ w) (N / 256 ^ w % 256)] at h2
    have h3 := congrArg (fun x : Nat => (x : Int)) h2
    simp only [Int.natCast_add, Int.natCast_mul, Int.natCast_pow, Int.natCast_emod, Int.natCast_ediv] at h3
    exact h3.symm
end Go.Proofs.Ytgjpaldbagkahaa.Pure
