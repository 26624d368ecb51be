import Derived.Test.YtgjpaldbagkahaaTurned
namespace Go.Proofs.Ytgjpaldbagkahaa.Pure
open Go.RowKit Go.Proofs.Ytgjpaldbagkahaa.Print Go.Proofs.YtgjpaldbagkahaaW.PrintWords Go.Proofs.YtgjpaldbagkahaaW.PrintLast Go.Proofs.YtgjpaldbagkahaaW.PrintMore
set_option linter.unusedVariables false
set_option linter.unusedSimpArgs false

/-! One bit's step of the sum, over the numbers below 2^32: linear, and no two numbers fall together. -/
def F (x : Nat) : Nat := (x / 2) ^^^ (if x % 2 = 1 then 3988292384 else 0)
def Fn : Nat → Nat → Nat
  | 0, x => x
  | n + 1, x => Fn n (F x)
theorem xor_mod2 (x y : Nat) : (x ^^^ y) % 2 = (x % 2 + y % 2) % 2 := by
  have h := Nat.testBit_xor x y 0
  simp only [Nat.testBit_zero] at h
  have h1 := Nat.mod_two_eq_zero_or_one x
  have h2 := Nat.mod_two_eq_zero_or_one y
  have h3 := Nat.mod_two_eq_zero_or_one (x ^^^ y)
  rcases h1 with h1 | h1 <;> rcases h2 with h2 | h2 <;> rcases h3 with h3 | h3 <;> simp_all
theorem F_xor (x y : Nat) : F (x ^^^ y) = F x ^^^ F y := by
  unfold F
  rw [Nat.xor_div_two, xor_mod2]
  rcases Nat.mod_two_eq_zero_or_one x with h1 | h1 <;> rcases Nat.mod_two_eq_zero_or_one y with h2 | h2 <;> simp only [h1, h2] <;> simp
  · rw [Nat.xor_assoc]
  · rw [Nat.xor_assoc, Nat.xor_comm (y / 2), ← Nat.xor_assoc]
  · rw [Nat.xor_assoc (x / 2), Nat.xor_comm (y / 2), ← Nat.xor_assoc 3988292384, Nat.xor_self, Nat.zero_xor]
theorem F_lt {x : Nat} (h : x < 4294967296) : F x < 4294967296 := by
  unfold F
  have : x / 2 < 2 ^ 32 := by omega
  have h2 : (if x % 2 = 1 then 3988292384 else 0) < 2 ^ 32 := by split <;> decide
  exact Nat.xor_lt_two_pow this h2
theorem xor_zero_eq {x y : Nat} (h : x ^^^ y = 0) : x = y := by
  have := congrArg (· ^^^ y) h
  simp only [Nat.xor_assoc, Nat.xor_self, Nat.xor_zero, Nat.zero_xor] at this
  exact this
theorem F_ker {x : Nat} (hx : x < 4294967296) (h : F x = 0) : x = 0 := by
  unfold F at h
  have h := xor_zero_eq h
  split at h
  · omega
  · omega
theorem Fn_xor (n : Nat) : ∀ x y, Fn n (x ^^^ y) = Fn n x ^^^ Fn n y := by
  induction n with
  | zero => intro x y; rfl
  | succ n ih => intro x y; show Fn n (F (x ^^^ y)) = _; rw [F_xor, ih]; rfl
theorem Fn_lt (n : Nat) : ∀ {x}, x < 4294967296 → Fn n x < 4294967296 := by
  induction n with
  | zero => intro x h; exact h
  | succ n ih => intro x h; exact ih (F_lt h)
theorem Fn_ker (n : Nat) : ∀ {x}, x < 4294967296 → Fn n x = 0 → x = 0 := by
  induction n with
  | zero => intro x h e; exact e
  | succ n ih => intro x h e; exact F_ker h (ih (F_lt h) e)
theorem xor_lt32 {x y : Nat} (hx : x < 4294967296) (hy : y < 4294967296) : x ^^^ y < 4294967296 := Nat.xor_lt_two_pow (n := 32) hx hy
theorem Fn_inj (n : Nat) {x y : Nat} (hx : x < 4294967296) (hy : y < 4294967296) (h : Fn n x = Fn n y) : x = y := by
  refine xor_zero_eq (Fn_ker n (xor_lt32 hx hy) ?_)
  rw [Fn_xor, h, Nat.xor_self]
theorem F_even (c : Nat) : F (2 * c) = c := by
  unfold F
  rw [if_neg (by omega), Nat.xor_zero]
  omega
theorem Fn8 (c : Nat) : Fn 8 (256 * c) = c := by
  show F (F (F (F (F (F (F (F (256 * c)))))))) = c
  rw [show 256 * c = 2 * (128 * c) by omega, F_even, show 128 * c = 2 * (64 * c) by omega, F_even, show 64 * c = 2 * (32 * c) by omega, F_even, show 32 * c = 2 * (16 * c) by omega, F_even,
    show 16 * c = 2 * (8 * c) by omega, F_even, show 8 * c = 2 * (4 * c) by omega, F_even, show 4 * c = 2 * (2 * c) by omega, F_even, F_even]

/-- Four bytes beside one another that were turned, and the same state behind: none was turned. -/
theorem four {s c0 c1 c2 c3 b0 b1 b2 b3 : Nat} (hs : s < 4294967296) (k0 : c0 < 256) (k1 : c1 < 256) (k2 : c2 < 256) (k3 : c3 < 256) (h0 : b0 < 256) (h1 : b1 < 256) (h2 : b2 < 256) (h3 : b3 < 256)
    (h : Fn 8 (Fn 8 (Fn 8 (Fn 8 (s ^^^ c0) ^^^ c1) ^^^ c2) ^^^ c3) = Fn 8 (Fn 8 (Fn 8 (Fn 8 (s ^^^ (c0 ^^^ b0)) ^^^ (c1 ^^^ b1)) ^^^ (c2 ^^^ b2)) ^^^ (c3 ^^^ b3))) : b0 = 0 ∧ b1 = 0 ∧ b2 = 0 ∧ b3 = 0 := by
  have step : ∀ d s' c b : Nat, Fn 8 ((s' ^^^ d) ^^^ (c ^^^ b)) = Fn 8 (s' ^^^ c) ^^^ Fn 8 (d ^^^ b) := by
    intro d s' c b
    rw [← Fn_xor]
    congr 1
    rw [Nat.xor_assoc, Nat.xor_assoc, ← Nat.xor_assoc d, Nat.xor_comm d c, Nat.xor_assoc c]
  have e1 : Fn 8 (s ^^^ (c0 ^^^ b0)) = Fn 8 (s ^^^ c0) ^^^ Fn 8 b0 := by rw [← Nat.xor_assoc, Fn_xor]
  obtain ⟨d1, hd1⟩ : ∃ d, d = Fn 8 b0 := ⟨_, rfl⟩
  rw [e1, ← hd1] at h
  rw [step] at h
  obtain ⟨d2, hd2⟩ : ∃ d, d = Fn 8 (d1 ^^^ b1) := ⟨_, rfl⟩
  rw [← hd2, step] at h
  obtain ⟨d3, hd3⟩ : ∃ d, d = Fn 8 (d2 ^^^ b2) := ⟨_, rfl⟩
  rw [← hd3, step] at h
  have h4 : Fn 8 (d3 ^^^ b3) = 0 := by
    have := congrArg (Fn 8 (Fn 8 (Fn 8 (Fn 8 (s ^^^ c0) ^^^ c1) ^^^ c2) ^^^ c3) ^^^ ·) h
    simp only [← Nat.xor_assoc, Nat.xor_self, Nat.zero_xor] at this
    exact this.symm
  have l1 : d1 < 4294967296 := by rw [hd1]; exact Fn_lt 8 (by omega)
  have l2 : d2 < 4294967296 := by rw [hd2]; exact Fn_lt 8 (xor_lt32 l1 (by omega))
  have l3 : d3 < 4294967296 := by rw [hd3]; exact Fn_lt 8 (xor_lt32 l2 (by omega))
  have q3 : d3 = b3 := xor_zero_eq (Fn_ker 8 (xor_lt32 l3 (by omega)) h4)
  have r2 : d2 ^^^ b2 = 256 * b3 := Fn_inj 8 (xor_lt32 l2 (by omega)) (by omega) (by rw [← hd3, Fn8, q3])
  have q2 : d2 = 256 * b3 ^^^ b2 := by rw [← r2, Nat.xor_assoc, Nat.xor_self, Nat.xor_zero]
  have m2 : d2 < 65536 := by rw [q2]; exact Nat.xor_lt_two_pow (n := 16) (by omega) (by omega)
  have r1 : d1 ^^^ b1 = 256 * d2 := Fn_inj 8 (xor_lt32 l1 (by omega)) (by omega) (by rw [← hd2, Fn8])
  have q1 : d1 = 256 * d2 ^^^ b1 := by rw [← r1, Nat.xor_assoc, Nat.xor_self, Nat.xor_zero]
  have m1 : d1 < 16777216 := by rw [q1]; exact Nat.xor_lt_two_pow (n := 24) (by omega) (by omega)
  have r0 : b0 = 256 * d1 := Fn_inj 8 (by omega) (by omega) (by rw [← hd1, Fn8])
  have z1 : d1 = 0 := by omega
  rw [z1] at q1
  have w1 : 256 * d2 = b1 := xor_zero_eq q1.symm
  have z2 : d2 = 0 := by omega
  rw [z2] at q2
  have w2 : 256 * b3 = b2 := xor_zero_eq q2.symm
  omega

/-! The state over bytes. -/
def foldN (s : Nat) (l : List Nat) : Nat := l.foldl (fun s c => Fn 8 (s ^^^ c)) s
theorem foldN_lt (l : List Nat) : ∀ s, s < 4294967296 → (∀ c ∈ l, c < 256) → foldN s l < 4294967296 := by
  induction l with
  | nil => intro s h _; exact h
  | cons c r ih =>
    intro s h hc
    have := hc c (by simp)
    exact ih _ (Fn_lt 8 (xor_lt32 h (by omega))) (fun x hx => hc x (by simp [hx]))
theorem foldN_inj (l : List Nat) : ∀ s t, s < 4294967296 → t < 4294967296 → (∀ c ∈ l, c < 256) → foldN s l = foldN t l → s = t := by
  induction l with
  | nil => intro s t _ _ _ h; exact h
  | cons c r ih =>
    intro s t hs ht hc h
    have hc0 := hc c (by simp)
    have h1 := ih _ _ (Fn_lt 8 (xor_lt32 hs (by omega))) (Fn_lt 8 (xor_lt32 ht (by omega))) (fun x hx => hc x (by simp [hx])) h
    have h2 := Fn_inj 8 (xor_lt32 hs (by omega)) (xor_lt32 ht (by omega)) h1
    have := congrArg (· ^^^ c) h2
    simp only [Nat.xor_assoc, Nat.xor_self, Nat.xor_zero] at this
    exact this

/-! The program's words in these. -/
theorem xor_u32 {x y : Nat} (hx : x < 4294967296) (hy : y < 4294967296) : Go.bits .xor .u32 (x : Int) (y : Int) = ((x ^^^ y : Nat) : Int) := by
  have h := xor_lt32 hx hy
  have e1 : (x : Nat) % 2 ^ 32 = x := Nat.mod_eq_of_lt hx
  have e2 : (y : Nat) % 2 ^ 32 = y := Nat.mod_eq_of_lt hy
  have hz : (BitVec.ofNat 32 x ^^^ BitVec.ofNat 32 y).toNat = x ^^^ y := by rw [BitVec.toNat_xor, BitVec.toNat_ofNat, BitVec.toNat_ofNat, e1, e2]
  show IntKind.u32.wrap (((BitVec.ofInt 32 (x : Int) ^^^ BitVec.ofInt 32 (y : Int)).toNat : Nat) : Int) = _
  rw [BitVec.ofInt_natCast, BitVec.ofInt_natCast, hz]
  simp only [IntKind.wrap, IntKind.bits, IntKind.signed]
  first | (simp; omega) | omega
theorem xor_u8 {x y : Nat} (hx : x < 256) (hy : y < 256) : Go.bits .xor .u8 (x : Int) (y : Int) = ((x ^^^ y : Nat) : Int) := by
  have h : x ^^^ y < 256 := Nat.xor_lt_two_pow (n := 8) hx hy
  have e1 : (x : Nat) % 2 ^ 8 = x := Nat.mod_eq_of_lt hx
  have e2 : (y : Nat) % 2 ^ 8 = y := Nat.mod_eq_of_lt hy
  have hz : (BitVec.ofNat 8 x ^^^ BitVec.ofNat 8 y).toNat = x ^^^ y := by rw [BitVec.toNat_xor, BitVec.toNat_ofNat, BitVec.toNat_ofNat, e1, e2]
  show IntKind.u8.wrap (((BitVec.ofInt 8 (x : Int) ^^^ BitVec.ofInt 8 (y : Int)).toNat : Nat) : Int) = _
  rw [BitVec.ofInt_natCast, BitVec.ofInt_natCast, hz]
  simp only [IntKind.wrap, IntKind.bits, IntKind.signed]
  first | (simp; omega) | omega
theorem and_one {x : Nat} (hx : x < 4294967296) : Go.bits .and .u32 (x : Int) 1 = ((x % 2 : Nat) : Int) := by
  have h : x % 2 < 2 := Nat.mod_lt _ (by decide)
  have e1 : (x : Nat) % 2 ^ 32 = x := Nat.mod_eq_of_lt hx
  have e2 : BitVec.ofInt 32 1 = BitVec.ofNat 32 1 := by decide
  have hz : (BitVec.ofNat 32 x &&& BitVec.ofNat 32 1).toNat = x % 2 := by rw [BitVec.toNat_and, BitVec.toNat_ofNat, BitVec.toNat_ofNat, e1, show 1 % 2 ^ 32 = 1 from rfl, Nat.and_one_is_mod]
  show IntKind.u32.wrap (((BitVec.ofInt 32 (x : Int) &&& BitVec.ofInt 32 1).toNat : Nat) : Int) = _
  rw [BitVec.ofInt_natCast, e2, hz]
  simp only [IntKind.wrap, IntKind.bits, IntKind.signed]
  first | (simp; omega) | omega
theorem bitStep_F {x : Nat} (hx : x < 4294967296) : bitStep (x : Int) = ((F x : Nat) : Int) := by
  unfold bitStep F
  rw [and_one hx]
  by_cases h : x % 2 = 1
  · rw [if_pos (by omega), if_pos h, show ((x : Int) / 2) = ((x / 2 : Nat) : Int) by omega, show (3988292384 : Int) = ((3988292384 : Nat) : Int) from rfl, xor_u32 (by omega) (by omega)]
  · rw [if_neg (by omega), if_neg h, Nat.xor_zero]
    omega
theorem bitSteps_F (n : Nat) : ∀ {x : Nat}, x < 4294967296 → bitSteps n (x : Int) = ((Fn n x : Nat) : Int) := by
  induction n with
  | zero => intro x _; rfl
  | succ n ih => intro x h; simp only [bitSteps, Fn]; rw [bitStep_F h, ih (F_lt h)]
theorem byteStep_F {x c : Nat} (hx : x < 4294967296) (hc : c < 256) : byteStep (x : Int) (c : Int) = ((Fn 8 (x ^^^ c) : Nat) : Int) := by
  unfold byteStep
  rw [show (c : Int) % 4294967296 = (c : Int) by omega, xor_u32 hx (by omega), bitSteps_F 8 (xor_lt32 hx (by omega))]
theorem fold_F (l : List Nat) : ∀ s : Nat, s < 4294967296 → (∀ c ∈ l, c < 256) → (l.map fun c : Nat => (c : Int)).foldl byteStep (s : Int) = ((foldN s l : Nat) : Int) := by
  induction l with
  | nil => intro s _ _; rfl
  | cons c r ih =>
    intro s hs hc
    have hc0 := hc c (by simp)
    rw [List.map_cons, List.foldl_cons, byteStep_F hs hc0]
    exact ih _ (Fn_lt 8 (xor_lt32 hs (by omega))) (fun x hx => hc x (by simp [hx]))
theorem sumL_F (l : List Nat) (hc : ∀ c ∈ l, c < 256) : sumL (l.map fun c : Nat => (c : Int)) = ((4294967295 ^^^ foldN 4294967295 l : Nat) : Int) := by
  unfold sumL
  have h := fold_F l 4294967295 (by omega) hc
  rw [show ((4294967295 : Nat) : Int) = (4294967295 : Int) from rfl] at h
  rw [h]
  exact xor_u32 (x := 4294967295) (by omega) (foldN_lt l _ (by omega) hc)
theorem sumL_inj {l m : List Nat} (hl : ∀ c ∈ l, c < 256) (hm : ∀ c ∈ m, c < 256) : sumL (l.map fun c : Nat => (c : Int)) = sumL (m.map fun c : Nat => (c : Int)) ↔ foldN 4294967295 l = foldN 4294967295 m := by
  rw [sumL_F l hl, sumL_F m hm]
  constructor
  · intro h
    have h1 : 4294967295 ^^^ foldN 4294967295 l = 4294967295 ^^^ foldN 4294967295 m := Int.ofNat.inj h
    have := congrArg (4294967295 ^^^ ·) h1
    simpa only [← Nat.xor_assoc, Nat.xor_self, Nat.zero_xor] using this
  · intro h
    rw [h]

/-! The bytes turned. -/
theorem set_at {α : Type} (p : List α) (c : α) (q : List α) (x : α) (n : Nat) (hn : n = p.length) : (p ++ c :: q).set n x = p ++ x :: q := by
  subst hn
  induction p with
  | nil => rfl
  | cons a p ih => simp
theorem rd_at (p : List Int) (c : Int) (q : List Int) (n : Int) (hn : n = (p.length : Int)) : rd (p ++ c :: q) n = c := by
  subst hn
  unfold rd
  simp
theorem turned (p q : List Int) (c0 c1 c2 c3 b0 b1 b2 b3 : Int) :
    turnN (p ++ c0 :: c1 :: c2 :: c3 :: q) (p.length : Int) [b0, b1, b2, b3] 4 = p ++ Go.bits .xor .u8 c0 b0 :: Go.bits .xor .u8 c1 b1 :: Go.bits .xor .u8 c2 b2 :: Go.bits .xor .u8 c3 b3 :: q := by
  simp only [turnN, turn1]
  rw [rd_at p c0 _ _ (by simp), set_at p c0 _ _ _ (by simp)]
  rw [show ∀ x y : Int, ∀ r : List Int, p ++ x :: y :: r = (p ++ [x]) ++ y :: r from by simp]
  rw [rd_at (p ++ [_]) c1 _ _ (by simp), set_at (p ++ [_]) c1 _ _ _ (by first | (simp; done) | (simp; omega))]
  rw [show ∀ x y z : Int, ∀ r : List Int, (p ++ [x]) ++ y :: z :: r = (p ++ [x, y]) ++ z :: r from by simp]
  rw [rd_at (p ++ [_, _]) c2 _ _ (by simp), set_at (p ++ [_, _]) c2 _ _ _ (by first | (simp; done) | (simp; omega))]
  rw [show ∀ x y z u : Int, ∀ r : List Int, (p ++ [x, y]) ++ z :: u :: r = (p ++ [x, y, z]) ++ u :: r from by simp]
  rw [rd_at (p ++ [_, _, _]) c3 _ _ (by simp), set_at (p ++ [_, _, _]) c3 _ _ _ (by first | (simp; done) | (simp; omega))]
  simp [rd]
theorem four_of (l : List Int) (n : Nat) (h : n + 4 ≤ l.length) : ∃ p q c0 c1 c2 c3, l = p ++ c0 :: c1 :: c2 :: c3 :: q ∧ p.length = n := by
  have hd : (l.drop n).length = l.length - n := List.length_drop
  match hl : l.drop n with
  | [] => rw [hl] at hd; simp at hd; omega
  | [_] => rw [hl] at hd; simp at hd; omega
  | [_, _] => rw [hl] at hd; simp at hd; omega
  | [_, _, _] => rw [hl] at hd; simp at hd; omega
  | c0 :: c1 :: c2 :: c3 :: q => exact ⟨l.take n, q, c0, c1, c2, c3, by rw [← hl, List.take_append_drop], by rw [List.length_take]; omega⟩
theorem nat_byte {x : Int} (h : (Lit.int .u8 x).wf = true) : ∃ n : Nat, x = (n : Int) ∧ n < 256 := by
  have h2 : 0 ≤ x ∧ x ≤ 255 := wf_u8 h
  exact ⟨x.toNat, by omega, by omega⟩
theorem nat_bytes : ∀ (l : List Int), (∀ x ∈ l, (Lit.int .u8 x).wf = true) → ∃ m : List Nat, l = m.map (fun c : Nat => (c : Int)) ∧ ∀ c ∈ m, c < 256
  | [], _ => ⟨[], rfl, by simp⟩
  | x :: r, h => by
    obtain ⟨n, hn, hb⟩ := nat_byte (h x (by simp))
    obtain ⟨m, hm, hc⟩ := nat_bytes r (fun y hy => h y (by simp [hy]))
    refine ⟨n :: m, by rw [hn, hm]; rfl, ?_⟩
    intro c hcm
    rcases List.mem_cons.1 hcm with rfl | hcm
    · exact hb
    · exact hc c hcm

theorem BitsTurned (l : List Int) (hl : ∀ x ∈ l, (Lit.int .u8 x).wf = true) (b0 b1 b2 b3 : Int) (h0 : (Lit.int .u8 b0).wf = true) (h1 : (Lit.int .u8 b1).wf = true) (h2 : (Lit.int .u8 b2).wf = true) (h3 : (Lit.int .u8 b3).wf = true) (k : Int) (hk : 0 ≤ k) (hk4 : k + 4 ≤ (l.length : Int)) :
    ((sumL l == sumL (turnN l k [b0, b1, b2, b3] 4)) == (decide (b0 = 0) && (decide (b1 = 0) && (decide (b2 = 0) && decide (b3 = 0))))) = true := by
  obtain ⟨p, q, c0, c1, c2, c3, rfl, hp⟩ := four_of l k.toNat (by omega)
  obtain rfl : k = (p.length : Int) := by omega
  rw [turned]
  obtain ⟨p, rfl, hpb⟩ := nat_bytes p (fun x hx => hl x (by simp [hx]))
  obtain ⟨q, rfl, hqb⟩ := nat_bytes q (fun x hx => hl x (by simp [hx]))
  obtain ⟨c0, rfl, k0⟩ := nat_byte (hl c0 (by simp))
  obtain ⟨c1, rfl, k1⟩ := nat_byte (hl c1 (by simp))
  obtain ⟨c2, rfl, k2⟩ := nat_byte (hl c2 (by simp))
  obtain ⟨c3, rfl, k3⟩ := nat_byte (hl c3 (by simp))
  obtain ⟨b0, rfl, j0⟩ := nat_byte h0
  obtain ⟨b1, rfl, j1⟩ := nat_byte h1
  obtain ⟨b2, rfl, j2⟩ := nat_byte h2
  obtain ⟨b3, rfl, j3⟩ := nat_byte h3
  rw [xor_u8 k0 j0, xor_u8 k1 j1, xor_u8 k2 j2, xor_u8 k3 j3]
  have x0 : c0 ^^^ b0 < 256 := Nat.xor_lt_two_pow (n := 8) k0 j0
  have x1 : c1 ^^^ b1 < 256 := Nat.xor_lt_two_pow (n := 8) k1 j1
  have x2 : c2 ^^^ b2 < 256 := Nat.xor_lt_two_pow (n := 8) k2 j2
  have x3 : c3 ^^^ b3 < 256 := Nat.xor_lt_two_pow (n := 8) k3 j3
  have key := sumL_inj (l := p ++ c0 :: c1 :: c2 :: c3 :: q) (m := p ++ (c0 ^^^ b0) :: (c1 ^^^ b1) :: (c2 ^^^ b2) :: (c3 ^^^ b3) :: q)
    (by intro c hc; simp only [List.mem_append, List.mem_cons] at hc; rcases hc with h | rfl | rfl | rfl | rfl | h <;> first | assumption | exact hpb _ h | exact hqb _ h)
    (by intro c hc; simp only [List.mem_append, List.mem_cons] at hc; rcases hc with h | rfl | rfl | rfl | rfl | h <;> first | assumption | exact hpb _ h | exact hqb _ h)
  simp only [List.map_append, List.map_cons] at key
  have all : (sumL (p.map (fun c : Nat => (c : Int)) ++ (c0 : Int) :: (c1 : Int) :: (c2 : Int) :: (c3 : Int) :: q.map (fun c : Nat => (c : Int))) = sumL (p.map (fun c : Nat => (c : Int)) ++ ((c0 ^^^ b0 : Nat) : Int) :: ((c1 ^^^ b1 : Nat) : Int) :: ((c2 ^^^ b2 : Nat) : Int) :: ((c3 ^^^ b3 : Nat) : Int) :: q.map (fun c : Nat => (c : Int)))) ↔ (b0 = 0 ∧ b1 = 0 ∧ b2 = 0 ∧ b3 = 0) := by
    rw [key]
    constructor
    · intro h
      have hs := foldN_lt p 4294967295 (by omega) hpb
      simp only [foldN, List.foldl_append, List.foldl_cons] at h hs
      refine four hs k0 k1 k2 k3 j0 j1 j2 j3 (foldN_inj q _ _ ?_ ?_ hqb h)
      · exact Fn_lt 8 (xor_lt32 (Fn_lt 8 (xor_lt32 (Fn_lt 8 (xor_lt32 (Fn_lt 8 (xor_lt32 hs (by omega))) (by omega))) (by omega))) (by omega))
      · exact Fn_lt 8 (xor_lt32 (Fn_lt 8 (xor_lt32 (Fn_lt 8 (xor_lt32 (Fn_lt 8 (xor_lt32 hs (by omega))) (by omega))) (by omega))) (by omega))
    · rintro ⟨rfl, rfl, rfl, rfl⟩
      simp only [Nat.xor_zero]
  generalize (sumL (p.map (fun c : Nat => (c : Int)) ++ (c0 : Int) :: (c1 : Int) :: (c2 : Int) :: (c3 : Int) :: q.map (fun c : Nat => (c : Int)))) = S at all ⊢
  generalize (sumL (p.map (fun c : Nat => (c : Int)) ++ ((c0 ^^^ b0 : Nat) : Int) :: ((c1 ^^^ b1 : Nat) : Int) :: ((c2 ^^^ b2 : Nat) : Int) :: ((c3 ^^^ b3 : Nat) : Int) :: q.map (fun c : Nat => (c : Int)))) = T at all ⊢
  by_cases hz : b0 = 0 ∧ b1 = 0 ∧ b2 = 0 ∧ b3 = 0
  · have e := all.2 hz
    obtain ⟨rfl, rfl, rfl, rfl⟩ := hz
    rw [e]
    simp
  · have e : S ≠ T := fun h => hz (all.1 h)
    have e2 : (S == T) = false := beq_eq_false_iff_ne.mpr e
    rw [e2]
    have e3 : (decide ((b0 : Int) = 0) && (decide ((b1 : Int) = 0) && (decide ((b2 : Int) = 0) && decide ((b3 : Int) = 0)))) = false := by
      rw [Bool.eq_false_iff]
      intro h
      simp only [Bool.and_eq_true, decide_eq_true_eq] at h
      exact hz ⟨by omega, by omega, by omega, by omega⟩
    rw [e3]
    rfl
end Go.Proofs.Ytgjpaldbagkahaa.Pure
