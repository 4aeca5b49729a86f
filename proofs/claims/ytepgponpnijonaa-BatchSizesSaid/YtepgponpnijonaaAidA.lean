import Derived.Test.YtepgponpnijonaaPrint9
import Derived.Test.YtepgponpnijonaaOpen
namespace Go.Proofs.Ytepgponpnijonaa.Print
open Go.RowKit Go.Proofs.YtepgponpnijonaaW.PrintWords Go.Proofs.YtepgponpnijonaaW.PrintLast Go.Proofs.YtepgponpnijonaaW.PrintMore
set_option linter.unusedVariables false
set_option linter.unusedSimpArgs false

theorem w64 {x : Int} (h0 : -9223372036854775808 ≤ x) (h1 : x ≤ 9223372036854775807) : wrap64 x = x := by unfold wrap64; omega
/-! check sums, in plain numbers -/
def P32 : Nat := 3988292384
def stepN (n : Nat) : Nat := n / 2 ^^^ (if n % 2 = 1 then P32 else 0)
def stepsN : Nat → Nat → Nat
  | 0, n => n
  | k + 1, n => stepN (stepsN k n)
theorem xor_div2 (a b : Nat) : (a ^^^ b) / 2 = a / 2 ^^^ b / 2 := by
  have := Nat.shiftRight_xor_distrib (a := a) (b := b) (i := 1)
  simpa [Nat.shiftRight_eq_div_pow] using this
theorem xor_mod2 (a b : Nat) : (a ^^^ b) % 2 = 1 ↔ ¬ (a % 2 = 1 ↔ b % 2 = 1) := by
  have := Nat.testBit_xor a b 0
  simp only [Nat.testBit_zero] at this
  by_cases p : a % 2 = 1 <;> by_cases q : b % 2 = 1 <;> simp [p, q] at this ⊢ <;> omega
theorem stepN_xor (a b : Nat) : stepN (a ^^^ b) = stepN a ^^^ stepN b := by
  unfold stepN
  rw [xor_div2]
  have h := xor_mod2 a b
  have e1 : ∀ x y z : Nat, x ^^^ y ^^^ (x ^^^ z) = y ^^^ z := fun x y z => by
    rw [Nat.xor_assoc, ← Nat.xor_assoc y, Nat.xor_comm y x, Nat.xor_assoc x, ← Nat.xor_assoc, Nat.xor_self, Nat.zero_xor]
  by_cases p : a % 2 = 1 <;> by_cases q : b % 2 = 1
  · rw [if_neg (by rw [h]; simp [p, q]), if_pos p, if_pos q, Nat.xor_zero]
    rw [Nat.xor_assoc (a / 2) P32, ← Nat.xor_assoc P32, Nat.xor_comm P32 (b / 2), Nat.xor_assoc (b / 2), Nat.xor_self, Nat.xor_zero]
  · rw [if_pos (by rw [h]; simp [p, q]), if_pos p, if_neg q, Nat.xor_zero, Nat.xor_assoc, Nat.xor_assoc, Nat.xor_comm P32]
  · rw [if_pos (by rw [h]; simp [p, q]), if_neg p, if_pos q, Nat.xor_zero, Nat.xor_assoc]
  · rw [if_neg (by rw [h]; simp [p, q]), if_neg p, if_neg q, Nat.xor_zero, Nat.xor_zero, Nat.xor_zero]
theorem stepsN_xor (k a b : Nat) : stepsN k (a ^^^ b) = stepsN k a ^^^ stepsN k b := by
  induction k with
  | zero => rfl
  | succ k ih => rw [stepsN, ih, stepN_xor, stepsN, stepsN]
theorem stepN_lt {n : Nat} (h : n < 2 ^ 32) : stepN n < 2 ^ 32 := by
  unfold stepN
  apply Nat.xor_lt_two_pow
  · omega
  · split <;> decide
theorem stepsN_lt {k n : Nat} (h : n < 2 ^ 32) : stepsN k n < 2 ^ 32 := by
  induction k with
  | zero => exact h
  | succ k ih => exact stepN_lt ih
theorem stepN_inj {n : Nat} (h : n < 2 ^ 32) (h0 : stepN n = 0) : n = 0 := by
  unfold stepN at h0
  by_cases c : n % 2 = 1
  · rw [if_pos c] at h0
    have h2 : n / 2 = P32 := by
      have := congrArg (· ^^^ P32) h0
      simp only [Nat.xor_assoc, Nat.xor_self, Nat.xor_zero, Nat.zero_xor] at this
      exact this
    unfold P32 at h2
    omega
  · rw [if_neg c, Nat.xor_zero] at h0
    omega
theorem stepsN_inj {k n : Nat} (h : n < 2 ^ 32) (h0 : stepsN k n = 0) : n = 0 := by
  induction k with
  | zero => exact h0
  | succ k ih => exact ih (stepN_inj (stepsN_lt h) h0)
theorem stepsN_zero (k : Nat) : stepsN k 0 = 0 := by
  induction k with
  | zero => rfl
  | succ k ih => rw [stepsN, ih]; rfl
theorem stepN_even (n : Nat) : stepN (2 * n) = n := by
  unfold stepN
  rw [if_neg (by omega), Nat.xor_zero]; omega
theorem stepsN_hi (h : Nat) : stepsN 8 (h * 256) = h := by
  have e : h * 256 = 2 * (2 * (2 * (2 * (2 * (2 * (2 * (2 * h))))))) := by omega
  rw [e]
  simp only [stepsN, stepN_even]
def oneN (n c : Nat) : Nat := stepsN 8 (n ^^^ c)
theorem oneN_lt {n c : Nat} (hn : n < 2 ^ 32) (hc : c < 256) : oneN n c < 2 ^ 32 := stepsN_lt (Nat.xor_lt_two_pow hn (by omega))
theorem split_xor (n c : Nat) (hc : c < 256) : n ^^^ c = (n / 256 * 256) ^^^ (n % 256 ^^^ c) := by
  have h1 : n % 256 ^^^ c < 2 ^ 8 := Nat.xor_lt_two_pow (by omega) hc
  have h2 : n = (n / 256 * 256) ^^^ (n % 256) := by
    have := Nat.two_pow_add_eq_or_of_lt (i := 8) (b := n % 256) (by omega) (n / 256)
    have hx : (n / 256 * 256) ^^^ (n % 256) = (n / 256 * 256) ||| (n % 256) := by
      apply Nat.eq_of_testBit_eq
      intro i
      rw [Nat.testBit_xor, Nat.testBit_or]
      by_cases d : i < 8
      · have : (n / 256 * 256).testBit i = false := by
          rw [show n / 256 * 256 = 2 ^ 8 * (n / 256) by omega, Nat.testBit_two_pow_mul]
          simp; omega
        simp [this]
      · have : (n % 256).testBit i = false := Nat.testBit_lt_two_pow (Nat.lt_of_lt_of_le (show n % 256 < 2 ^ 8 by omega) (Nat.pow_le_pow_right (by decide) (by omega)))
        simp [this]
    rw [hx, show n / 256 * 256 = 2 ^ 8 * (n / 256) by omega, ← this]
    omega
  rw [← Nat.xor_assoc, ← h2]
theorem one_table (n c : Nat) (hc : c < 256) : oneN n c = n / 256 ^^^ stepsN 8 (n % 256 ^^^ c) := by
  unfold oneN
  rw [split_xor n c hc, stepsN_xor, stepsN_hi]
def crcN (l : List Nat) (n : Nat) : Nat := l.foldl oneN n
theorem crcN_lt : ∀ (l : List Nat) (n : Nat), n < 2 ^ 32 → (∀ x ∈ l, x < 256) → crcN l n < 2 ^ 32
  | [], n, h, _ => h
  | c :: t, n, h, hl => crcN_lt t _ (oneN_lt h (hl c List.mem_cons_self)) (fun x hx => hl x (List.mem_cons_of_mem _ hx))
/-! the program's numbers are these -/
theorem u32w {n : Int} (h0 : 0 ≤ n) (h1 : n < 4294967296) : IntKind.u32.wrap n = n := by
  show n % 4294967296 = n
  omega
theorem bits_xor_nat (k : IntKind) (j : Nat) (hj : j ≤ k.bits) (hk : ∀ n : Int, 0 ≤ n → n < 2 ^ j → k.wrap n = n) (a b : Nat) (ha : a < 2 ^ j) (hb : b < 2 ^ j) : Go.bits .xor k (a : Int) (b : Int) = ((a ^^^ b : Nat) : Int) := by
  have hp : 2 ^ j ≤ 2 ^ k.bits := Nat.pow_le_pow_right (by decide) hj
  have ha' : a % 2 ^ k.bits = a := Nat.mod_eq_of_lt (Nat.lt_of_lt_of_le ha hp)
  have hb' : b % 2 ^ k.bits = b := Nat.mod_eq_of_lt (Nat.lt_of_lt_of_le hb hp)
  simp only [Go.bits, BitVec.ofInt_natCast, BitVec.toNat_xor, BitVec.toNat_ofNat, ha', hb']
  exact hk _ (Int.natCast_nonneg _) (by exact_mod_cast Nat.xor_lt_two_pow ha hb)
theorem xor32 (a b : Nat) (ha : a < 2 ^ 32) (hb : b < 2 ^ 32) : Go.bits .xor .u32 (a : Int) (b : Int) = ((a ^^^ b : Nat) : Int) :=
  bits_xor_nat .u32 32 (by decide) (fun n h0 h1 => u32w h0 (by omega)) a b ha hb
theorem xor8 (a b : Nat) (ha : a < 256) (hb : b < 256) : Go.bits .xor .u8 (a : Int) (b : Int) = ((a ^^^ b : Nat) : Int) :=
  bits_xor_nat .u8 8 (by decide) wraps_u8 a b ha hb
theorem and1 (a : Nat) (ha : a < 2 ^ 32) : Go.bits .and .u32 (a : Int) 1 = ((a % 2 : Nat) : Int) := by
  have := bits_mask .u32 32 (by decide) (fun n h0 h1 => u32w h0 (by omega)) 1 (by decide) (a : Int) (Int.natCast_nonneg _) (by exact_mod_cast ha)
  rw [show (2 : Int) ^ 1 - 1 = 1 by decide] at this
  rw [this]
  omega
theorem step_at (n : Nat) (h : n < 2 ^ 32) : batch_table.step (n : Int) = ((stepN n : Nat) : Int) := by
  unfold batch_table.step stepN
  rw [and1 n h]
  have e2 : (n : Int) / 2 = ((n / 2 : Nat) : Int) := by omega
  rw [e2]
  by_cases c : n % 2 = 1
  · rw [if_pos c, c]
    have e3 : (3988292384 * ((1 : Nat) : Int)) % 4294967296 = ((P32 : Nat) : Int) := rfl
    rw [e3, xor32 _ _ (by omega) (by decide)]
  · rw [if_neg c, show n % 2 = 0 by omega]
    have e3 : (3988292384 * ((0 : Nat) : Int)) % 4294967296 = ((0 : Nat) : Int) := rfl
    rw [e3, xor32 _ _ (by omega) (by decide)]
theorem n8_at (k n : Nat) (h : n < 2 ^ 32) : batch_table.n8 k (n : Int) = ((stepsN k n : Nat) : Int) := by
  induction k with
  | zero => rfl
  | succ k ih => rw [batch_table.n8, ih, step_at _ (stepsN_lt h), stepsN]
theorem one_at (n c : Nat) (hn : n < 2 ^ 32) (hc : c < 256) : batch_Sum.one (n : Int) (c : Int) = ((oneN n c : Nat) : Int) := by
  unfold batch_Sum.one batch_table.T
  have e1 : (n : Int) / 256 = ((n / 256 : Nat) : Int) := by omega
  have e2 : (n : Int) % 256 = ((n % 256 : Nat) : Int) := by omega
  have h1 : n % 256 ^^^ c < 2 ^ 8 := Nat.xor_lt_two_pow (by omega) hc
  rw [e1, e2, xor8 _ _ (by omega) hc, n8_at _ _ (by omega), xor32 _ _ (by omega) (stepsN_lt (by omega)), one_table n c hc]
/-- Bytes, as the program has them. -/
def ints (l : List Nat) : List Int := l.map (fun n : Nat => (n : Int))
theorem go_ints : ∀ (l : List Nat) (n : Nat), n < 2 ^ 32 → (∀ x ∈ l, x < 256) → batch_Sum.go (ints l) (n : Int) = ((crcN l n : Nat) : Int)
  | [], n, _, _ => rfl
  | c :: t, n, h, hl => by
    have hc := hl c List.mem_cons_self
    have := go_ints t (oneN n c) (oneN_lt h hc) (fun x hx => hl x (List.mem_cons_of_mem _ hx))
    unfold batch_Sum.go ints at this ⊢
    rw [List.map_cons, List.foldl_cons, one_at n c h hc, this]
    rfl
def sumN (l : List Nat) : Nat := 4294967295 ^^^ crcN l 4294967295
theorem sumN_lt (l : List Nat) (hl : ∀ x ∈ l, x < 256) : sumN l < 2 ^ 32 := Nat.xor_lt_two_pow (by decide) (crcN_lt l _ (by decide) hl)
theorem Sum_at (l : List Nat) (hl : ∀ x ∈ l, x < 256) (hn : l.length ≤ 1000000000000) : batch_Sum.f (ints l) = some ((sumN l : Nat) : Int) := by
  unfold batch_Sum.f
  rw [if_pos (by simpa [ints] using hn)]
  have := go_ints l 4294967295 (by decide) hl
  rw [show ((4294967295 : Nat) : Int) = 4294967295 from rfl] at this
  rw [this, show IntKind.u32.max = ((4294967295 : Nat) : Int) from rfl, xor32 _ _ (by decide) (crcN_lt l _ (by decide) hl)]
  rfl
/-! what is known of sums -/
theorem oneN_xor (a b c d : Nat) : oneN (a ^^^ b) (c ^^^ d) = oneN a c ^^^ oneN b d := by
  unfold oneN
  rw [← stepsN_xor]
  congr 1
  rw [Nat.xor_assoc, Nat.xor_assoc, ← Nat.xor_assoc b, Nat.xor_comm b c, Nat.xor_assoc c]
theorem crcN_xor : ∀ (l m : List Nat) (a b : Nat), l.length = m.length → crcN (List.zipWith (· ^^^ ·) l m) (a ^^^ b) = crcN l a ^^^ crcN m b
  | [], [], a, b, _ => rfl
  | c :: t, d :: u, a, b, h => by
    have := crcN_xor t u (oneN a c) (oneN b d) (by simpa using h)
    unfold crcN at this ⊢
    rw [List.zipWith_cons_cons, List.foldl_cons, oneN_xor, this, List.foldl_cons, List.foldl_cons]
  | [], _ :: _, _, _, h => by simp at h
  | _ :: _, [], _, _, h => by simp at h
end Go.Proofs.Ytepgponpnijonaa.Print
