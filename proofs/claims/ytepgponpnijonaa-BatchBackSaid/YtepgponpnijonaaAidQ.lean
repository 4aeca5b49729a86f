/- Bytes as numbers, batches as bytes, and what the program makes of them: no condition. -/
import Derived.Test.YtepgponpnijonaaPrint7
import Derived.Test.YtepgponpnijonaaPrint9
import Derived.Test.YtepgponpnijonaaPrint10
import Derived.Test.YtepgponpnijonaaPrint11
import Derived.Test.YtepgponpnijonaaPrint12
import Derived.Test.YtepgponpnijonaaPrint13
import Derived.Test.YtepgponpnijonaaPrint14
import Derived.Test.YtepgponpnijonaaPrint15
import Derived.Test.YtepgponpnijonaaPrint19
import Derived.Test.YtepgponpnijonaaOpen
namespace Go.Proofs.Ytepgponpnijonaa.Print
open Go.RowKit Go.Proofs.YtepgponpnijonaaW.PrintWords Go.Proofs.YtepgponpnijonaaW.PrintLast Go.Proofs.YtepgponpnijonaaW.PrintMore
set_option linter.unusedVariables false
set_option linter.unusedSimpArgs false


theorem w64 {x : Int} (h0 : -9223372036854775808 ≤ x) (h1 : x ≤ 9223372036854775807) : wrap64 x = x := by unfold wrap64; omega
/-! check sums, in plain numbers -/
def P32 : Nat := 3988292384
def stepN (n : Nat) : Nat := n / 2 ^^^ (if n % 2 = 1 then P32 else 0)
def stepsN : Nat → Nat → Nat
  | 0, n => n
  | k + 1, n => stepN (stepsN k n)
theorem xor_div2 (a b : Nat) : (a ^^^ b) / 2 = a / 2 ^^^ b / 2 := by
  have := Nat.shiftRight_xor_distrib (a := a) (b := b) (i := 1)
  simpa [Nat.shiftRight_eq_div_pow] using this
theorem xor_mod2 (a b : Nat) : (a ^^^ b) % 2 = 1 ↔ ¬ (a % 2 = 1 ↔ b % 2 = 1) := by
  have := Nat.testBit_xor a b 0
  simp only [Nat.testBit_zero] at this
  by_cases p : a % 2 = 1 <;> by_cases q : b % 2 = 1 <;> simp [p, q] at this ⊢ <;> omega
theorem stepN_xor (a b : Nat) : stepN (a ^^^ b) = stepN a ^^^ stepN b := by
  unfold stepN
  rw [xor_div2]
  have h := xor_mod2 a b
  have e1 : ∀ x y z : Nat, x ^^^ y ^^^ (x ^^^ z) = y ^^^ z := fun x y z => by
    rw [Nat.xor_assoc, ← Nat.xor_assoc y, Nat.xor_comm y x, Nat.xor_assoc x, ← Nat.xor_assoc, Nat.xor_self, Nat.zero_xor]
  by_cases p : a % 2 = 1 <;> by_cases q : b % 2 = 1
  · rw [if_neg (by rw [h]; simp [p, q]), if_pos p, if_pos q, Nat.xor_zero]
    rw [Nat.xor_assoc (a / 2) P32, ← Nat.xor_assoc P32, Nat.xor_comm P32 (b / 2), Nat.xor_assoc (b / 2), Nat.xor_self, Nat.xor_zero]
  · rw [if_pos (by rw [h]; simp [p, q]), if_pos p, if_neg q, Nat.xor_zero, Nat.xor_assoc, Nat.xor_assoc, Nat.xor_comm P32]
  · rw [if_pos (by rw [h]; simp [p, q]), if_neg p, if_pos q, Nat.xor_zero, Nat.xor_assoc]
  · rw [if_neg (by rw [h]; simp [p, q]), if_neg p, if_neg q, Nat.xor_zero, Nat.xor_zero, Nat.xor_zero]
theorem stepsN_xor (k a b : Nat) : stepsN k (a ^^^ b) = stepsN k a ^^^ stepsN k b := by
  induction k with
  | zero => rfl
  | succ k ih => rw [stepsN, ih, stepN_xor, stepsN, stepsN]
theorem stepN_lt {n : Nat} (h : n < 2 ^ 32) : stepN n < 2 ^ 32 := by
  unfold stepN
  apply Nat.xor_lt_two_pow
  · omega
  · split <;> decide
theorem stepsN_lt {k n : Nat} (h : n < 2 ^ 32) : stepsN k n < 2 ^ 32 := by
  induction k with
  | zero => exact h
  | succ k ih => exact stepN_lt ih
theorem stepN_inj {n : Nat} (h : n < 2 ^ 32) (h0 : stepN n = 0) : n = 0 := by
  unfold stepN at h0
  by_cases c : n % 2 = 1
  · rw [if_pos c] at h0
    have h2 : n / 2 = P32 := by
      have := congrArg (· ^^^ P32) h0
      simp only [Nat.xor_assoc, Nat.xor_self, Nat.xor_zero, Nat.zero_xor] at this
      exact this
    unfold P32 at h2
    omega
  · rw [if_neg c, Nat.xor_zero] at h0
    omega
theorem stepsN_inj {k n : Nat} (h : n < 2 ^ 32) (h0 : stepsN k n = 0) : n = 0 := by
  induction k with
  | zero => exact h0
  | succ k ih => exact ih (stepN_inj (stepsN_lt h) h0)
theorem stepsN_zero (k : Nat) : stepsN k 0 = 0 := by
  induction k with
  | zero => rfl
  | succ k ih => rw [stepsN, ih]; rfl
theorem stepN_even (n : Nat) : stepN (2 * n) = n := by
  unfold stepN
  rw [if_neg (by omega), Nat.xor_zero]; omega
theorem stepsN_hi (h : Nat) : stepsN 8 (h * 256) = h := by
  have e : h * 256 = 2 * (2 * (2 * (2 * (2 * (2 * (2 * (2 * h))))))) := by omega
  rw [e]
  simp only [stepsN, stepN_even]
def oneN (n c : Nat) : Nat := stepsN 8 (n ^^^ c)
theorem oneN_lt {n c : Nat} (hn : n < 2 ^ 32) (hc : c < 256) : oneN n c < 2 ^ 32 := stepsN_lt (Nat.xor_lt_two_pow hn (by omega))
theorem split_xor (n c : Nat) (hc : c < 256) : n ^^^ c = (n / 256 * 256) ^^^ (n % 256 ^^^ c) := by
  have h1 : n % 256 ^^^ c < 2 ^ 8 := Nat.xor_lt_two_pow (by omega) hc
  have h2 : n = (n / 256 * 256) ^^^ (n % 256) := by
    have := Nat.two_pow_add_eq_or_of_lt (i := 8) (b := n % 256) (by omega) (n / 256)
    have hx : (n / 256 * 256) ^^^ (n % 256) = (n / 256 * 256) ||| (n % 256) := by
      apply Nat.eq_of_testBit_eq
      intro i
      rw [Nat.testBit_xor, Nat.testBit_or]
      by_cases d : i < 8
      · have : (n / 256 * 256).testBit i = false := by
          rw [show n / 256 * 256 = 2 ^ 8 * (n / 256) by omega, Nat.testBit_two_pow_mul]
          simp; omega
        simp [this]
      · have : (n % 256).testBit i = false := Nat.testBit_lt_two_pow (Nat.lt_of_lt_of_le (show n % 256 < 2 ^ 8 by omega) (Nat.pow_le_pow_right (by decide) (by omega)))
        simp [this]
    rw [hx, show n / 256 * 256 = 2 ^ 8 * (n / 256) by omega, ← this]
    omega
  rw [← Nat.xor_assoc, ← h2]
theorem one_table (n c : Nat) (hc : c < 256) : oneN n c = n / 256 ^^^ stepsN 8 (n % 256 ^^^ c) := by
  unfold oneN
  rw [split_xor n c hc, stepsN_xor, stepsN_hi]
def crcN (l : List Nat) (n : Nat) : Nat := l.foldl oneN n
theorem crcN_lt : ∀ (l : List Nat) (n : Nat), n < 2 ^ 32 → (∀ x ∈ l, x < 256) → crcN l n < 2 ^ 32
  | [], n, h, _ => h
  | c :: t, n, h, hl => crcN_lt t _ (oneN_lt h (hl c List.mem_cons_self)) (fun x hx => hl x (List.mem_cons_of_mem _ hx))
/-! the program's numbers are these -/
theorem u32w {n : Int} (h0 : 0 ≤ n) (h1 : n < 4294967296) : IntKind.u32.wrap n = n := by
  show n % 4294967296 = n
  omega
theorem bits_xor_nat (k : IntKind) (j : Nat) (hj : j ≤ k.bits) (hk : ∀ n : Int, 0 ≤ n → n < 2 ^ j → k.wrap n = n) (a b : Nat) (ha : a < 2 ^ j) (hb : b < 2 ^ j) : Go.bits .xor k (a : Int) (b : Int) = ((a ^^^ b : Nat) : Int) := by
  have hp : 2 ^ j ≤ 2 ^ k.bits := Nat.pow_le_pow_right (by decide) hj
  have ha' : a % 2 ^ k.bits = a := Nat.mod_eq_of_lt (Nat.lt_of_lt_of_le ha hp)
  have hb' : b % 2 ^ k.bits = b := Nat.mod_eq_of_lt (Nat.lt_of_lt_of_le hb hp)
  simp only [Go.bits, BitVec.ofInt_natCast, BitVec.toNat_xor, BitVec.toNat_ofNat, ha', hb']
  exact hk _ (Int.natCast_nonneg _) (by exact_mod_cast Nat.xor_lt_two_pow ha hb)
theorem xor32 (a b : Nat) (ha : a < 2 ^ 32) (hb : b < 2 ^ 32) : Go.bits .xor .u32 (a : Int) (b : Int) = ((a ^^^ b : Nat) : Int) :=
  bits_xor_nat .u32 32 (by decide) (fun n h0 h1 => u32w h0 (by omega)) a b ha hb
theorem xor8 (a b : Nat) (ha : a < 256) (hb : b < 256) : Go.bits .xor .u8 (a : Int) (b : Int) = ((a ^^^ b : Nat) : Int) :=
  bits_xor_nat .u8 8 (by decide) wraps_u8 a b ha hb
theorem and1 (a : Nat) (ha : a < 2 ^ 32) : Go.bits .and .u32 (a : Int) 1 = ((a % 2 : Nat) : Int) := by
  have := bits_mask .u32 32 (by decide) (fun n h0 h1 => u32w h0 (by omega)) 1 (by decide) (a : Int) (Int.natCast_nonneg _) (by exact_mod_cast ha)
  rw [show (2 : Int) ^ 1 - 1 = 1 by decide] at this
  rw [this]
  omega
theorem step_at (n : Nat) (h : n < 2 ^ 32) : batch_table.step (n : Int) = ((stepN n : Nat) : Int) := by
  unfold batch_table.step stepN
  rw [and1 n h]
  have e2 : (n : Int) / 2 = ((n / 2 : Nat) : Int) := by omega
  rw [e2]
  by_cases c : n % 2 = 1
  · rw [if_pos c, c]
    have e3 : (3988292384 * ((1 : Nat) : Int)) % 4294967296 = ((P32 : Nat) : Int) := rfl
    rw [e3, xor32 _ _ (by omega) (by decide)]
  · rw [if_neg c, show n % 2 = 0 by omega]
    have e3 : (3988292384 * ((0 : Nat) : Int)) % 4294967296 = ((0 : Nat) : Int) := rfl
    rw [e3, xor32 _ _ (by omega) (by decide)]
theorem n8_at (k n : Nat) (h : n < 2 ^ 32) : batch_table.n8 k (n : Int) = ((stepsN k n : Nat) : Int) := by
  induction k with
  | zero => rfl
  | succ k ih => rw [batch_table.n8, ih, step_at _ (stepsN_lt h), stepsN]
theorem one_at (n c : Nat) (hn : n < 2 ^ 32) (hc : c < 256) : batch_Sum.one (n : Int) (c : Int) = ((oneN n c : Nat) : Int) := by
  unfold batch_Sum.one batch_table.T
  have e1 : (n : Int) / 256 = ((n / 256 : Nat) : Int) := by omega
  have e2 : (n : Int) % 256 = ((n % 256 : Nat) : Int) := by omega
  have h1 : n % 256 ^^^ c < 2 ^ 8 := Nat.xor_lt_two_pow (by omega) hc
  rw [e1, e2, xor8 _ _ (by omega) hc, n8_at _ _ (by omega), xor32 _ _ (by omega) (stepsN_lt (by omega)), one_table n c hc]
/-- Bytes, as the program has them. -/
def ints (l : List Nat) : List Int := l.map (fun n : Nat => (n : Int))
theorem go_ints : ∀ (l : List Nat) (n : Nat), n < 2 ^ 32 → (∀ x ∈ l, x < 256) → batch_Sum.go (ints l) (n : Int) = ((crcN l n : Nat) : Int)
  | [], n, _, _ => rfl
  | c :: t, n, h, hl => by
    have hc := hl c List.mem_cons_self
    have := go_ints t (oneN n c) (oneN_lt h hc) (fun x hx => hl x (List.mem_cons_of_mem _ hx))
    unfold batch_Sum.go ints at this ⊢
    rw [List.map_cons, List.foldl_cons, one_at n c h hc, this]
    rfl
def sumN (l : List Nat) : Nat := 4294967295 ^^^ crcN l 4294967295
theorem sumN_lt (l : List Nat) (hl : ∀ x ∈ l, x < 256) : sumN l < 2 ^ 32 := Nat.xor_lt_two_pow (by decide) (crcN_lt l _ (by decide) hl)
theorem Sum_at (l : List Nat) (hl : ∀ x ∈ l, x < 256) (hn : l.length ≤ 1000000000000) : batch_Sum.f (ints l) = some ((sumN l : Nat) : Int) := by
  unfold batch_Sum.f
  rw [if_pos (by simpa [ints] using hn)]
  have := go_ints l 4294967295 (by decide) hl
  rw [show ((4294967295 : Nat) : Int) = 4294967295 from rfl] at this
  rw [this, show IntKind.u32.max = ((4294967295 : Nat) : Int) from rfl, xor32 _ _ (by decide) (crcN_lt l _ (by decide) hl)]
  rfl
theorem u64w {n : Int} (h0 : 0 ≤ n) (h1 : n < 18446744073709551616) : IntKind.u64.wrap n = n := by
  show n % 18446744073709551616 = n
  omega
theorem ints_len (l : List Nat) : (ints l).length = l.length := by simp [ints]
theorem ints_append (a b : List Nat) : ints a ++ ints b = ints (a ++ b) := by simp [ints]
theorem rd_ints (l : List Nat) (i : Nat) (h : i < l.length) : rd (ints l) (i : Int) = ((l[i] : Nat) : Int) := by
  simp [rd, ints, List.getElem?_eq_getElem h]
/-! numbers as bytes -/
def leb : Nat → Nat → List Nat
  | 0, _ => []
  | k + 1, n => n % 256 :: leb k (n / 256)
def val : List Nat → Nat
  | [] => 0
  | b :: t => b + 256 * val t
theorem leb_len : ∀ k n, (leb k n).length = k
  | 0, _ => rfl
  | k + 1, n => by rw [leb, List.length_cons, leb_len]
theorem leb_lt : ∀ k n, ∀ x ∈ leb k n, x < 256
  | 0, _, x, h => by cases h
  | k + 1, n, x, h => by
    rw [leb] at h
    rcases List.mem_cons.mp h with rfl | h
    · omega
    · exact leb_lt k _ x h
theorem val_leb : ∀ k n, val (leb k n) = n % 256 ^ k
  | 0, n => by rw [leb, val, Nat.pow_zero, Nat.mod_one]
  | k + 1, n => by rw [leb, val, val_leb k, Nat.pow_succ, Nat.mul_comm (256 ^ k) 256, Nat.mod_mul]
theorem leb_val : ∀ l : List Nat, (∀ x ∈ l, x < 256) → leb l.length (val l) = l
  | [], _ => rfl
  | b :: t, h => by
    have hb := h b List.mem_cons_self
    rw [List.length_cons, leb, val, show (b + 256 * val t) % 256 = b by omega, show (b + 256 * val t) / 256 = val t by omega, leb_val t (fun x hx => h x (List.mem_cons_of_mem _ hx))]
theorem val_lt : ∀ l : List Nat, (∀ x ∈ l, x < 256) → val l < 256 ^ l.length
  | [], _ => by simp [val]
  | b :: t, h => by
    have hb := h b List.mem_cons_self
    have := val_lt t (fun x hx => h x (List.mem_cons_of_mem _ hx))
    rw [val, List.length_cons, Nat.pow_succ]; omega
theorem val_append (a b : List Nat) : val (a ++ b) = val a + 256 ^ a.length * val b := by
  induction a with
  | nil => simp [val]
  | cons x t ih => rw [List.cons_append, val, ih, val, List.length_cons, Nat.pow_succ, Nat.mul_add]; rw [← Nat.mul_assoc, Nat.mul_comm 256 (256 ^ t.length)]; omega
theorem shr_at (n i : Nat) (hi : i ≤ 8) : shr .u64 (n : Int) ((8 * i : Nat) : Int) = ((n / 256 ^ i : Nat) : Int) := by
  unfold shr
  have e : min ((8 * i : Nat) : Int).toNat IntKind.u64.bits = 8 * i := by
    have : IntKind.u64.bits = 64 := rfl
    rw [Int.toNat_natCast]; omega
  rw [e, show (256 : Nat) = 2 ^ 8 from rfl, ← Nat.pow_mul]
  simp
theorem pow_next (n i : Nat) : n / 256 ^ i / 256 = n / 256 ^ (i + 1) := by rw [Nat.div_div_eq_div_mul, Nat.pow_succ]

theorem batch_put_int_l0 (v : Nat) (x : Int) (hx : IntKind.u64.wrap x = (v : Int)) (sz : Nat) (hs : sz ≤ 8) (m : Nat) : ∀ (d i : Nat) (acc : List Nat), i + d = sz → acc.length + d ≤ 1000000000 →
    batch_put_int.l0 (m + d + 1) (ints acc) x (sz : Int) (i : Int) = some (ints (acc ++ leb d (v / 256 ^ i))) := by
  intro d
  induction d with
  | zero =>
    intro i acc hi ha
    rw [batch_put_int.l0, if_neg (by omega), leb, List.append_nil]
  | succ d ih =>
    intro i acc hi ha
    have e8 : wrap64 (8 * (i : Int)) = ((8 * i : Nat) : Int) := by rw [w64 (by omega) (by omega)]; omega
    rw [batch_put_int.l0, if_pos (by omega), e8, if_pos (by omega), if_pos (by rw [ints_len]; omega), hx, shr_at v i (by omega), w64 (x := (i : Int) + 1) (by omega) (by omega), show ((i : Int) + 1) = ((i + 1 : Nat) : Int) by omega]
    have eb : [((v / 256 ^ i : Nat) : Int) % 256] = ints [v / 256 ^ i % 256] := by simp [ints]
    rw [eb, ints_append, show m + (d + 1) = m + d + 1 from rfl, ih (i + 1) _ (by omega) (by simp; omega), leb, pow_next, List.append_assoc]
    rfl
theorem batch_put_int_at (k : Nat) (v : Nat) (x : Int) (hx : IntKind.u64.wrap x = (v : Int)) (sz : Nat) (hs : sz ≤ 8) (acc : List Nat) (ha : acc.length ≤ 1000000) (hk : 9 ≤ k) : batch_put_int.f k (ints acc) x (sz : Int) = some (ints (acc ++ leb sz v)) := by
  obtain ⟨m, rfl⟩ : ∃ m, k = m + sz + 1 := ⟨k - sz - 1, by omega⟩
  have := batch_put_int_l0 v x hx sz hs m sz 0 acc (by omega) (by omega)
  rw [Nat.pow_zero, Nat.div_one] at this
  exact this

theorem batch_put_int64_l0 (v : Nat) (x : Int) (hx : IntKind.u64.wrap x = (v : Int)) (sz : Nat) (hs : sz ≤ 8) (m : Nat) : ∀ (d i : Nat) (acc : List Nat), i + d = sz → acc.length + d ≤ 1000000000 →
    batch_put_int64.l0 (m + d + 1) (ints acc) x (sz : Int) (i : Int) = some (ints (acc ++ leb d (v / 256 ^ i))) := by
  intro d
  induction d with
  | zero =>
    intro i acc hi ha
    rw [batch_put_int64.l0, if_neg (by omega), leb, List.append_nil]
  | succ d ih =>
    intro i acc hi ha
    have e8 : wrap64 (8 * (i : Int)) = ((8 * i : Nat) : Int) := by rw [w64 (by omega) (by omega)]; omega
    rw [batch_put_int64.l0, if_pos (by omega), e8, if_pos (by omega), if_pos (by rw [ints_len]; omega), hx, shr_at v i (by omega), w64 (x := (i : Int) + 1) (by omega) (by omega), show ((i : Int) + 1) = ((i + 1 : Nat) : Int) by omega]
    have eb : [((v / 256 ^ i : Nat) : Int) % 256] = ints [v / 256 ^ i % 256] := by simp [ints]
    rw [eb, ints_append, show m + (d + 1) = m + d + 1 from rfl, ih (i + 1) _ (by omega) (by simp; omega), leb, pow_next, List.append_assoc]
    rfl
theorem batch_put_int64_at (k : Nat) (v : Nat) (x : Int) (hx : IntKind.u64.wrap x = (v : Int)) (sz : Nat) (hs : sz ≤ 8) (acc : List Nat) (ha : acc.length ≤ 1000000) (hk : 9 ≤ k) : batch_put_int64.f k (ints acc) x (sz : Int) = some (ints (acc ++ leb sz v)) := by
  obtain ⟨m, rfl⟩ : ∃ m, k = m + sz + 1 := ⟨k - sz - 1, by omega⟩
  have := batch_put_int64_l0 v x hx sz hs m sz 0 acc (by omega) (by omega)
  rw [Nat.pow_zero, Nat.div_one] at this
  exact this

theorem batch_put_uint32_l0 (v : Nat) (x : Int) (hx : IntKind.u64.wrap x = (v : Int)) (sz : Nat) (hs : sz ≤ 8) (m : Nat) : ∀ (d i : Nat) (acc : List Nat), i + d = sz → acc.length + d ≤ 1000000000 →
    batch_put_uint32.l0 (m + d + 1) (ints acc) x (sz : Int) (i : Int) = some (ints (acc ++ leb d (v / 256 ^ i))) := by
  intro d
  induction d with
  | zero =>
    intro i acc hi ha
    rw [batch_put_uint32.l0, if_neg (by omega), leb, List.append_nil]
  | succ d ih =>
    intro i acc hi ha
    have e8 : wrap64 (8 * (i : Int)) = ((8 * i : Nat) : Int) := by rw [w64 (by omega) (by omega)]; omega
    rw [batch_put_uint32.l0, if_pos (by omega), e8, if_pos (by omega), if_pos (by rw [ints_len]; omega), hx, shr_at v i (by omega), w64 (x := (i : Int) + 1) (by omega) (by omega), show ((i : Int) + 1) = ((i + 1 : Nat) : Int) by omega]
    have eb : [((v / 256 ^ i : Nat) : Int) % 256] = ints [v / 256 ^ i % 256] := by simp [ints]
    rw [eb, ints_append, show m + (d + 1) = m + d + 1 from rfl, ih (i + 1) _ (by omega) (by simp; omega), leb, pow_next, List.append_assoc]
    rfl
theorem batch_put_uint32_at (k : Nat) (v : Nat) (x : Int) (hx : IntKind.u64.wrap x = (v : Int)) (sz : Nat) (hs : sz ≤ 8) (acc : List Nat) (ha : acc.length ≤ 1000000) (hk : 9 ≤ k) : batch_put_uint32.f k (ints acc) x (sz : Int) = some (ints (acc ++ leb sz v)) := by
  obtain ⟨m, rfl⟩ : ∃ m, k = m + sz + 1 := ⟨k - sz - 1, by omega⟩
  have := batch_put_uint32_l0 v x hx sz hs m sz 0 acc (by omega) (by omega)
  rw [Nat.pow_zero, Nat.div_one] at this
  exact this

theorem val_take (l : List Nat) (i : Nat) (h : i < l.length) : val (l.take (i + 1)) = val (l.take i) + 256 ^ i * l[i] := by
  rw [List.take_succ_eq_append_getElem h, val_append, List.length_take, Nat.min_eq_left (by omega), val, val]
  simp
theorem val_take_lt (l : List Nat) (hb : ∀ x ∈ l, x < 256) (hl : l.length ≤ 8) (i : Nat) : val (l.take i) < 18446744073709551616 := by
  have h := val_lt (l.take i) (fun x hx => hb x (List.mem_of_mem_take hx))
  have h2 : 256 ^ (l.take i).length ≤ 256 ^ 8 := Nat.pow_le_pow_right (by decide) (by rw [List.length_take]; omega)
  have e : (256 : Nat) ^ 8 = 18446744073709551616 := by decide
  omega
theorem val_drop_lt (l : List Nat) (hb : ∀ x ∈ l, x < 256) (hl : l.length ≤ 8) (i : Nat) : val (l.drop i) < 18446744073709551616 := by
  have h := val_lt (l.drop i) (fun x hx => hb x (List.mem_of_mem_drop hx))
  have h2 : 256 ^ (l.drop i).length ≤ 256 ^ 8 := Nat.pow_le_pow_right (by decide) (by rw [List.length_drop]; omega)
  have e : (256 : Nat) ^ 8 = 18446744073709551616 := by decide
  omega
theorem or_join (x b : Nat) (hx : x * 256 + 255 < 18446744073709551616) (hb : b < 256) : Go.bits .or .u64 (IntKind.u64.wrap ((x : Int) * 256)) (IntKind.u64.wrap (b : Int)) = ((b + 256 * x : Nat) : Int) := by
  rw [u64w (by omega) (by omega), u64w (by omega) (by omega), bits_join .u64 64 (by decide) (fun n h0 h1 => u64w h0 (by omega)) 8 _ _ (by omega) (by omega) (by omega) (by omega) (by omega) (by omega)]
  omega

theorem batch_get_uint32_l0 (l : List Nat) (hb : ∀ x ∈ l, x < 256) (hl : l.length ≤ 8) (m : Nat) : ∀ (d : Nat), d ≤ l.length →
    batch_get_uint32.l0 (m + d + 1) (ints l) ((val (l.drop d) : Nat) : Int) ((d : Int) - 1) = some (((val l : Nat) : Int) % 4294967296) := by
  intro d
  induction d with
  | zero =>
    intro hd
    rw [batch_get_uint32.l0, if_neg (by omega), List.drop_zero]
  | succ d ih =>
    intro hd
    have c : d < l.length := by omega
    have hc := hb _ (List.getElem_mem c)
    have e : ((d + 1 : Nat) : Int) - 1 = (d : Int) := by omega
    have hv : val (l.drop d) = l[d] + 256 * val (l.drop (d + 1)) := by rw [List.drop_eq_getElem_cons c, val]
    have hlt := val_drop_lt l hb hl d
    rw [e, batch_get_uint32.l0, if_pos (by omega), if_pos (by omega), if_pos (by rw [ints_len]; omega), rd_ints l d c, or_join _ _ (by omega) hc, ← hv, w64 (by omega) (by omega), show m + (d + 1) = m + d + 1 from rfl, ih (by omega)]
theorem batch_get_uint32_at (k : Nat) (l : List Nat) (hb : ∀ x ∈ l, x < 256) (hl : l.length ≤ 8) (hk : 9 ≤ k) : batch_get_uint32.f k (ints l) = some (((val l : Nat) : Int) % 4294967296) := by
  obtain ⟨m, rfl⟩ : ∃ m, k = m + l.length + 1 := ⟨k - l.length - 1, by omega⟩
  have := batch_get_uint32_l0 l hb hl m l.length (Nat.le_refl _)
  rw [List.drop_length] at this
  unfold batch_get_uint32.f
  rw [ints_len, w64 (by omega) (by omega)]
  exact this

theorem batch_get_int_l0 (l : List Nat) (hb : ∀ x ∈ l, x < 256) (hl : l.length ≤ 8) (m : Nat) : ∀ (d : Nat), d ≤ l.length →
    batch_get_int.l0 (m + d + 1) (ints l) ((val (l.drop d) : Nat) : Int) ((d : Int) - 1) = some (wrap64 ((val l : Nat) : Int)) := by
  intro d
  induction d with
  | zero =>
    intro hd
    rw [batch_get_int.l0, if_neg (by omega), List.drop_zero]
  | succ d ih =>
    intro hd
    have c : d < l.length := by omega
    have hc := hb _ (List.getElem_mem c)
    have e : ((d + 1 : Nat) : Int) - 1 = (d : Int) := by omega
    have hv : val (l.drop d) = l[d] + 256 * val (l.drop (d + 1)) := by rw [List.drop_eq_getElem_cons c, val]
    have hlt := val_drop_lt l hb hl d
    rw [e, batch_get_int.l0, if_pos (by omega), if_pos (by omega), if_pos (by rw [ints_len]; omega), rd_ints l d c, or_join _ _ (by omega) hc, ← hv, w64 (by omega) (by omega), show m + (d + 1) = m + d + 1 from rfl, ih (by omega)]
theorem batch_get_int_at (k : Nat) (l : List Nat) (hb : ∀ x ∈ l, x < 256) (hl : l.length ≤ 8) (hk : 9 ≤ k) : batch_get_int.f k (ints l) = some (wrap64 ((val l : Nat) : Int)) := by
  obtain ⟨m, rfl⟩ : ∃ m, k = m + l.length + 1 := ⟨k - l.length - 1, by omega⟩
  have := batch_get_int_l0 l hb hl m l.length (Nat.le_refl _)
  rw [List.drop_length] at this
  unfold batch_get_int.f
  rw [ints_len, w64 (by omega) (by omega)]
  exact this

theorem batch_get_int64_l0 (l : List Nat) (hb : ∀ x ∈ l, x < 256) (hl : l.length ≤ 8) (m : Nat) : ∀ (d : Nat), d ≤ l.length →
    batch_get_int64.l0 (m + d + 1) (ints l) ((val (l.drop d) : Nat) : Int) ((d : Int) - 1) = some (wrap64 ((val l : Nat) : Int)) := by
  intro d
  induction d with
  | zero =>
    intro hd
    rw [batch_get_int64.l0, if_neg (by omega), List.drop_zero]
  | succ d ih =>
    intro hd
    have c : d < l.length := by omega
    have hc := hb _ (List.getElem_mem c)
    have e : ((d + 1 : Nat) : Int) - 1 = (d : Int) := by omega
    have hv : val (l.drop d) = l[d] + 256 * val (l.drop (d + 1)) := by rw [List.drop_eq_getElem_cons c, val]
    have hlt := val_drop_lt l hb hl d
    rw [e, batch_get_int64.l0, if_pos (by omega), if_pos (by omega), if_pos (by rw [ints_len]; omega), rd_ints l d c, or_join _ _ (by omega) hc, ← hv, w64 (by omega) (by omega), show m + (d + 1) = m + d + 1 from rfl, ih (by omega)]
theorem batch_get_int64_at (k : Nat) (l : List Nat) (hb : ∀ x ∈ l, x < 256) (hl : l.length ≤ 8) (hk : 9 ≤ k) : batch_get_int64.f k (ints l) = some (wrap64 ((val l : Nat) : Int)) := by
  obtain ⟨m, rfl⟩ : ∃ m, k = m + l.length + 1 := ⟨k - l.length - 1, by omega⟩
  have := batch_get_int64_l0 l hb hl m l.length (Nat.le_refl _)
  rw [List.drop_length] at this
  unfold batch_get_int64.f
  rw [ints_len, w64 (by omega) (by omega)]
  exact this


/-! batches as bytes, in plain numbers -/
def u64N (x : Int) : Nat := (x % 18446744073709551616).toNat
theorem u64N_at (x : Int) : IntKind.u64.wrap x = ((u64N x : Nat) : Int) := by
  show x % 18446744073709551616 = _
  unfold u64N
  omega
def lineB (x : S53) : List Nat := (x.f0 % 256).toNat :: leb 8 (u64N x.f1)
theorem lineB_len (x : S53) : (lineB x).length = 9 := by rw [lineB, List.length_cons, leb_len]
theorem lineB_lt (x : S53) : ∀ b ∈ lineB x, b < 256 := by
  intro b hb
  rcases List.mem_cons.mp hb with rfl | hb
  · omega
  · exact leb_lt _ _ b hb
def linesB : List S53 → List Nat
  | [] => []
  | x :: t => lineB x ++ linesB t
theorem linesB_len : ∀ l, (linesB l).length = 9 * l.length
  | [] => rfl
  | x :: t => by rw [linesB, List.length_append, lineB_len, linesB_len, List.length_cons]; omega
theorem linesB_lt : ∀ l, ∀ b ∈ linesB l, b < 256
  | [], b, h => by cases h
  | x :: t, b, h => by
    rw [linesB] at h
    rcases List.mem_append.mp h with h | h
    · exact lineB_lt x b h
    · exact linesB_lt t b h
theorem linesB_append (a b : List S53) : linesB (a ++ b) = linesB a ++ linesB b := by
  induction a with
  | nil => rfl
  | cons x t ih => rw [List.cons_append, linesB, ih, linesB, List.append_assoc]
def headN (seq ev n : Nat) : List Nat := [76, 66] ++ leb 4 seq ++ leb 4 ev ++ [n % 256]
theorem headN_len (a b c : Nat) : (headN a b c).length = 11 := by simp [headN, leb_len]
def bodyN (seq ev : Nat) (l : List S53) : List Nat := headN seq ev l.length ++ linesB l
def putN (seq ev : Nat) (l : List S53) : List Nat := bodyN seq ev l ++ leb 4 (sumN (bodyN seq ev l))
theorem bodyN_len (a b : Nat) (l : List S53) : (bodyN a b l).length = 11 + 9 * l.length := by rw [bodyN, List.length_append, headN_len, linesB_len]
theorem putN_len (a b : Nat) (l : List S53) : (putN a b l).length = 15 + 9 * l.length := by rw [putN, List.length_append, bodyN_len, leb_len]; omega
theorem bodyN_lt (a b : Nat) (l : List S53) : ∀ x ∈ bodyN a b l, x < 256 := by
  intro x hx
  rw [bodyN, headN] at hx
  simp only [List.mem_append, List.mem_cons, List.not_mem_nil, or_false] at hx
  rcases hx with ((((rfl | rfl) | h) | h) | rfl) | h
  · omega
  · omega
  · exact leb_lt _ _ x h
  · exact leb_lt _ _ x h
  · omega
  · exact linesB_lt _ x h
theorem putN_lt (a b : Nat) (l : List S53) : ∀ x ∈ putN a b l, x < 256 := by
  intro x hx
  rw [putN] at hx
  rcases List.mem_append.mp hx with h | h
  · exact bodyN_lt _ _ _ x h
  · exact leb_lt _ _ x h
/-- Lines out of bytes. -/
def parseN : Nat → List Nat → List S53
  | 0, _ => []
  | n + 1, b => ⟨((b.getD 0 0 : Nat) : Int), wrap64 ((val ((b.take 9).drop 1) : Nat) : Int)⟩ :: parseN n (b.drop 9)
def fine (x : S53) : Prop := (0 ≤ x.f0 ∧ x.f0 < 256) ∧ -9223372036854775808 ≤ x.f1 ∧ x.f1 ≤ 9223372036854775807
theorem parse_line (x : S53) (h : fine x) (t : List Nat) (n : Nat) : parseN (n + 1) (lineB x ++ t) = x :: parseN n t := by
  obtain ⟨⟨h1, h2⟩, h3, h4⟩ := h
  have hl := lineB_len x
  have e1 : (lineB x ++ t).drop 9 = t := by rw [← hl, List.drop_left]
  have e2 : (lineB x ++ t).take 9 = lineB x := by rw [← hl, List.take_left]
  have e3 : (lineB x).drop 1 = leb 8 (u64N x.f1) := rfl
  have e4 : (lineB x ++ t).getD 0 0 = (x.f0 % 256).toNat := rfl
  rw [parseN, e1, e2, e3, e4, val_leb]
  have e5 : u64N x.f1 % 256 ^ 8 = u64N x.f1 := by
    have : (256 : Nat) ^ 8 = 18446744073709551616 := by decide
    rw [this]
    unfold u64N
    omega
  rw [e5]
  have e6 : wrap64 ((u64N x.f1 : Nat) : Int) = x.f1 := by unfold u64N wrap64; omega
  rw [e6]
  have e7 : (((x.f0 % 256).toNat : Nat) : Int) = x.f0 := by omega
  rw [e7]
theorem parse_lines : ∀ (l : List S53), (∀ x ∈ l, fine x) → parseN l.length (linesB l) = l
  | [], _ => rfl
  | x :: t, h => by
    rw [linesB, List.length_cons, parse_line x (h x List.mem_cons_self), parse_lines t (fun y hy => h y (List.mem_cons_of_mem _ hy))]
theorem parse_back : ∀ (n : Nat) (b : List Nat), b.length = 9 * n → (∀ x ∈ b, x < 256) → linesB (parseN n b) = b
  | 0, b, h, _ => by
    have : b = [] := List.eq_nil_of_length_eq_zero (by omega)
    rw [this]; rfl
  | n + 1, b, h, hb => by
    have h9 : (b.take 9).length = 9 := by rw [List.length_take]; omega
    have ht : lineB ⟨((b.getD 0 0 : Nat) : Int), wrap64 ((val ((b.take 9).drop 1) : Nat) : Int)⟩ = b.take 9 := by
      have hd : ((b.take 9).drop 1).length = 8 := by rw [List.length_drop]; omega
      have hdl : ∀ x ∈ (b.take 9).drop 1, x < 256 := fun x hx => hb x (List.mem_of_mem_take (List.mem_of_mem_drop hx))
      have hv := val_lt _ hdl
      rw [hd] at hv
      have hp : (256 : Nat) ^ 8 = 18446744073709551616 := by decide
      rw [hp] at hv
      have h0 : b.getD 0 0 < 256 := by
        cases b with
        | nil => simp
        | cons c u => exact hb c List.mem_cons_self
      have e1 : u64N (wrap64 ((val ((b.take 9).drop 1) : Nat) : Int)) = val ((b.take 9).drop 1) := by
        unfold u64N wrap64; omega
      have e2 : ((((b.getD 0 0 : Nat) : Int)) % 256).toNat = b.getD 0 0 := by omega
      unfold lineB
      dsimp only
      rw [e1, e2]
      have := leb_val _ hdl
      rw [hd] at this
      rw [this]
      cases b with
      | nil => simp at h
      | cons c u => rfl
    rw [parseN, linesB, ht, parse_back n (b.drop 9) (by rw [List.length_drop]; omega) (fun x hx => hb x (List.mem_of_mem_drop hx)), List.take_append_drop]
theorem parseN_len : ∀ (n : Nat) (b : List Nat), (parseN n b).length = n
  | 0, _ => rfl
  | n + 1, b => by rw [parseN, List.length_cons, parseN_len]
/-- The accounts' names. -/
def nm (n : Int) : ByteArray := if n = 1 then ⟨#[99, 97, 115, 104]⟩ else if n = 2 then ⟨#[108, 111, 97, 110, 115]⟩ else if n = 3 then ⟨#[97, 108, 108, 111, 119, 97, 110, 99, 101]⟩ else if n = 4 then ⟨#[105, 110, 99, 111, 109, 101]⟩ else if n = 5 then ⟨#[101, 102, 102, 101, 99, 116, 115]⟩ else if n = 6 then ⟨#[105, 109, 112, 97, 105, 114, 101, 100]⟩ else if n = 7 then ⟨#[114, 101, 99, 111, 118, 101, 114, 101, 100]⟩ else ⟨#[]⟩
theorem find_acc (n : Int) : (chart_account_int.g ((chart_accounts.f).getD []) n).f1 = nm n := by
  unfold chart_account_int.g chart_accounts.f nm
  simp only [Option.getD_some, List.find?_cons]
  by_cases h1 : n = 1
  · subst h1; rfl
  by_cases h2 : n = 2
  · subst h2; rfl
  by_cases h3 : n = 3
  · subst h3; rfl
  by_cases h4 : n = 4
  · subst h4; rfl
  by_cases h5 : n = 5
  · subst h5; rfl
  by_cases h6 : n = 6
  · subst h6; rfl
  by_cases h7 : n = 7
  · subst h7; rfl
  have f : ∀ a : Int, n ≠ a → (a == n) = false := fun a h => by rw [beq_eq_false_iff_ne]; exact fun e => h e.symm
  simp only [f _ h1, f _ h2, f _ h3, f _ h4, f _ h5, f _ h6, f _ h7, if_neg h1, if_neg h2, if_neg h3, if_neg h4, if_neg h5, if_neg h6, if_neg h7]
  rfl
theorem Name_at (n : Int) : chart_Name.f n = some (nm n) := by
  rw [← find_acc]; rfl
theorem nm_empty (n : Int) : (nm n).toList = [] ↔ ¬ (1 ≤ n ∧ n ≤ 7) := by
  by_cases c : 1 ≤ n ∧ n ≤ 7
  · have : n = 1 ∨ n = 2 ∨ n = 3 ∨ n = 4 ∨ n = 5 ∨ n = 6 ∨ n = 7 := by omega
    rcases this with rfl | rfl | rfl | rfl | rfl | rfl | rfl <;> simp [nm, ByteArray.toList_eq]
  · have : nm n = ⟨#[]⟩ := by
      unfold nm
      rw [if_neg (by omega), if_neg (by omega), if_neg (by omega), if_neg (by omega), if_neg (by omega), if_neg (by omega), if_neg (by omega)]
    rw [this]
    simp only [c, not_false_iff, iff_true]
    rw [ByteArray.toList_eq]
theorem rd48 (l : List S59) (i : Nat) (h : i < l.length) : rd_T59 l (i : Int) = l[i] := by simp [rd_T59, List.getElem?_eq_getElem h]
theorem rd45 (l : List S53) (i : Nat) (h : i < l.length) : rd_T53 l (i : Int) = l[i] := by simp [rd_T53, List.getElem?_eq_getElem h]
def good (x : S53) : Prop := (1 ≤ x.f0 ∧ x.f0 ≤ 7) ∧ -1125899906842624 ≤ x.f1 ∧ x.f1 ≤ 1125899906842624 ∧ x.f1 ≠ 0
instance (x : S53) : Decidable (good x) := by unfold good; infer_instance
def chkGo : List S53 → Int → Int
  | [], s => if s = 0 then 0 else 2
  | x :: t, s => if good x then chkGo t (s + x.f1) else 2
def chk (l : List S53) : Int := if l.length > 64 then 10 else if l = [] then 2 else chkGo l 0
theorem Check_l0 (l : List S53) (hl : l.length ≤ 64) : ∀ (k i : Nat) (s : Int), i ≤ l.length → l.length < k + i → -(i * 1125899906842624 : Int) ≤ s → s ≤ i * 1125899906842624 →
    chart_Check.l0 k s l (l.length : Int) (i : Int) = some (chkGo (l.drop i) s) := by
  intro k
  induction k with
  | zero => intro i s h1 h2; omega
  | succ k ih =>
    intro i s h1 h2 h3 h4
    by_cases c : i < l.length
    · rw [chart_Check.l0, if_pos (by omega), if_pos (by omega), if_pos (by omega), rd45 l i c, Name_at, Option.bind_some, w64 (x := (i : Int) + 1) (by omega) (by omega), List.drop_eq_getElem_cons c, chkGo]
      by_cases c1 : 1 ≤ l[i].f0 ∧ l[i].f0 ≤ 7
      · rw [if_neg (fun z => (nm_empty _).mp z c1)]
        by_cases c2 : l[i].f1 = 0
        · rw [if_pos c2, if_neg (fun h => h.2.2.2 c2)]
        · rw [if_neg c2]
          by_cases c3 : l[i].f1 < -1125899906842624
          · rw [if_pos c3, if_neg (fun h => by have := h.2.1; omega)]
          · rw [if_neg c3]
            by_cases c4 : l[i].f1 > 1125899906842624
            · rw [if_pos c4, if_neg (fun h => by have := h.2.2.1; omega)]
            · rw [if_neg c4, if_pos ⟨c1, by omega, by omega, c2⟩, w64 (by omega) (by omega)]
              have := ih (i + 1) (s + l[i].f1) (by omega) (by omega) (by rw [Int.natCast_add, Int.add_mul]; omega) (by rw [Int.natCast_add, Int.add_mul]; omega)
              rw [Int.natCast_add, Int.natCast_one] at this
              exact this
      · rw [if_pos ((nm_empty _).mpr c1), if_neg (fun h => c1 h.1)]
    · rw [chart_Check.l0, if_neg (by omega), List.drop_of_length_le (by omega), chkGo]
      by_cases z : s = 0
      · rw [if_pos z, if_pos z]
      · rw [if_neg z, if_neg z]
theorem Check_at (k : Nat) (l : List S53) (hk : 65 ≤ k) : chart_Check.f k l = some (chk l) := by
  unfold chart_Check.f chk
  by_cases c : l.length > 64
  · rw [if_pos (by omega), if_pos c]
  · rw [if_neg (by omega), if_neg c]
    by_cases d : l = []
    · subst d; rfl
    · have : l.length ≠ 0 := fun h => d (List.eq_nil_of_length_eq_zero h)
      rw [if_neg (by omega), if_neg d]
      have := Check_l0 l (by omega) k 0 0 (by omega) (by omega) (by omega) (by omega)
      simpa using this

/-- May a batch be? -/
def bchk (seq ev : Int) (l : List S53) : Int := if seq < 0 ∨ 2147483647 < seq ∨ ev < 0 ∨ 2147483647 < ev then 2 else if (l.length : Int) = 0 then 0 else chk l
theorem bCheck_at (k : Nat) (seq ev : Int) (l : List S53) (hk : 65 ≤ k) : batch_Check.f k seq ev l = some (bchk seq ev l) := by
  unfold batch_Check.f bchk
  by_cases c : seq < 0 ∨ 2147483647 < seq ∨ ev < 0 ∨ 2147483647 < ev
  · rw [if_pos c, if_pos c]
  · rw [if_neg c, if_neg c]
    by_cases d : (l.length : Int) = 0
    · rw [if_pos d, if_pos d]
    · rw [if_neg d, if_neg d, Check_at k l hk]
theorem bchk_len {seq ev : Int} {l : List S53} (h : bchk seq ev l = 0) : l.length ≤ 64 := by
  unfold bchk at h
  split at h
  · exact absurd h (by decide)
  · split at h
    · omega
    · unfold chk at h
      split at h
      · exact absurd h (by decide)
      · omega
theorem chkGo_fine : ∀ (l : List S53) (s : Int), chkGo l s = 0 → ∀ x ∈ l, fine x
  | [], _, _, x, h => by cases h
  | y :: t, s, h, x, hx => by
    rw [chkGo] at h
    by_cases c : good y
    · rw [if_pos c] at h
      rcases List.mem_cons.mp hx with rfl | hx
      · obtain ⟨⟨c1, c2⟩, c3, c4, c5⟩ := c
        exact ⟨⟨by omega, by omega⟩, by omega, by omega⟩
      · exact chkGo_fine t _ h x hx
    · rw [if_neg c] at h; exact absurd h (by decide)
theorem bchk_zero {seq ev : Int} {l : List S53} (h : bchk seq ev l = 0) : (0 ≤ seq ∧ seq ≤ 2147483647 ∧ 0 ≤ ev ∧ ev ≤ 2147483647) ∧ ∀ x ∈ l, fine x := by
  unfold bchk at h
  by_cases c : seq < 0 ∨ 2147483647 < seq ∨ ev < 0 ∨ 2147483647 < ev
  · rw [if_pos c] at h; exact absurd h (by decide)
  · rw [if_neg c] at h
    refine ⟨by omega, ?_⟩
    by_cases d : (l.length : Int) = 0
    · have : l = [] := List.eq_nil_of_length_eq_zero (by omega)
      rw [this]; intro x hx; cases hx
    · rw [if_neg d] at h
      unfold chk at h
      split at h
      · exact absurd h (by decide)
      · split at h
        · exact absurd h (by decide)
        · exact chkGo_fine l 0 h



theorem ints_one (n : Nat) : [((n : Nat) : Int)] = ints [n] := rfl
theorem ints_take (l : List Nat) (n : Nat) : (ints l).take n = ints (l.take n) := by simp [ints]
theorem ints_drop (l : List Nat) (n : Nat) : (ints l).drop n = ints (l.drop n) := by simp [ints]
theorem mod_ints (x : Int) : [x % 256] = ints [(x % 256).toNat] := by
  unfold ints
  rw [List.map_cons, List.map_nil, Int.toNat_of_nonneg (by omega)]
theorem Put_l0 (l : List S53) (hl : l.length ≤ 64) (m : Nat) (hm : 20 ≤ m) : ∀ (d i : Nat) (acc : List Nat), i + d = l.length → acc.length + 9 * d ≤ 100000 → (∀ x ∈ acc, x < 256) →
    batch_Put.l0 (m + d + 1) (ints acc) l (l.length : Int) (i : Int) = some (ints ((acc ++ linesB (l.drop i)) ++ leb 4 (sumN (acc ++ linesB (l.drop i)))), 0) := by
  intro d
  induction d with
  | zero =>
    intro i acc hi ha hb
    rw [batch_Put.l0, if_neg (by omega), List.drop_of_length_le (by omega), linesB, List.append_nil, Sum_at acc hb (by omega), Option.bind_some,
      show (4 : Int) = ((4 : Nat) : Int) from rfl, batch_put_uint32_at m (sumN acc) _ (u64w (Int.natCast_nonneg _) (by have := sumN_lt acc hb; omega)) 4 (by decide) acc (by omega) (by omega), Option.bind_some]
  | succ d ih =>
    intro i acc hi ha hb
    have c : i < l.length := by omega
    rw [batch_Put.l0, if_pos (by omega), if_pos (by omega), if_pos (by omega), rd45 l i c, if_pos (by rw [ints_len]; omega), mod_ints, ints_append,
      show (8 : Int) = ((8 : Nat) : Int) from rfl, batch_put_int64_at (m + (d + 1)) (u64N l[i].f1) _ (u64N_at _) 8 (by decide) _ (by simp; omega) (by omega), Option.bind_some, w64 (by omega) (by omega), show ((i : Int) + 1) = ((i + 1 : Nat) : Int) by omega]
    have e : acc ++ [(l[i].f0 % 256).toNat] ++ leb 8 (u64N l[i].f1) = acc ++ lineB l[i] := by rw [List.append_assoc]; rfl
    rw [e, show m + (d + 1) = m + d + 1 from rfl, ih (i + 1) _ (by omega) (by rw [List.length_append, lineB_len]; omega) (by
      intro x hx
      rcases List.mem_append.mp hx with h | h
      · exact hb x h
      · exact lineB_lt _ x h), List.drop_eq_getElem_cons c, linesB, ← List.append_assoc acc]
/-- What Put gives. -/
def putS (seq ev : Int) (l : List S53) : List Int × Int := if bchk seq ev l = 0 then (ints (putN (u64N seq) (u64N ev) l), 0) else ([], bchk seq ev l)
theorem Put_at (k : Nat) (seq ev : Int) (l : List S53) (hk : 200 ≤ k) : batch_Put.f k seq ev l = some (putS seq ev l) := by
  unfold batch_Put.f putS
  rw [bCheck_at k seq ev l (by omega), Option.bind_some]
  by_cases c : bchk seq ev l = 0
  · have hl := bchk_len c
    rw [if_pos c, if_pos c, show ([76, 66] : List Int) = ints [76, 66] from rfl, show (4 : Int) = ((4 : Nat) : Int) from rfl,
      batch_put_int_at k (u64N seq) seq (u64N_at _) 4 (by decide) [76, 66] (by simp) (by omega), Option.bind_some,
      batch_put_int_at k (u64N ev) ev (u64N_at _) 4 (by decide) _ (by simp [leb_len]) (by omega), Option.bind_some, if_pos (by rw [ints_len]; simp [leb_len])]
    have e : [((l.length : Int)) % 256] = ints [l.length % 256] := by
      rw [mod_ints]; congr 2
    obtain ⟨m, rfl⟩ : ∃ m, k = m + l.length + 1 := ⟨k - l.length - 1, by omega⟩
    have hlt : ∀ x ∈ headN (u64N seq) (u64N ev) l.length, x < 256 := fun x hx => bodyN_lt (u64N seq) (u64N ev) l x (by rw [bodyN]; exact List.mem_append_left _ hx)
    have := Put_l0 l hl m (by omega) l.length 0 (headN (u64N seq) (u64N ev) l.length) (by omega) (by rw [headN_len]; omega) hlt
    rw [e, ints_append]
    exact this
  · rw [if_neg c, if_neg c]
/-- What Get gives. -/
def getS (b : List Nat) : Int × Int × List S53 × Int :=
  if b.length < 15 then (0, 0, [], 14) else if ¬ (b.getD 0 0 = 76 ∧ b.getD 1 0 = 66) then (0, 0, [], 6) else
  if b.length < 15 + 9 * b.getD 10 0 then (0, 0, [], 14) else if b.length > 15 + 9 * b.getD 10 0 then (0, 0, [], 6) else
  if val (b.drop (b.length - 4)) ≠ sumN (b.take (b.length - 4)) then (0, 0, [], 7) else
  if bchk (val ((b.take 6).drop 2) : Nat) (val ((b.take 10).drop 6) : Nat) (parseN (b.getD 10 0) ((b.take (b.length - 4)).drop 11)) = 0 then
    ((val ((b.take 6).drop 2) : Nat), (val ((b.take 10).drop 6) : Nat), parseN (b.getD 10 0) ((b.take (b.length - 4)).drop 11), 0) else (0, 0, [], 6)
theorem rd_getD (l : List Nat) (i : Nat) (h : i < l.length) : rd (ints l) (i : Int) = ((l.getD i 0 : Nat) : Int) := by
  rw [rd_ints l i h, List.getD_eq_getElem?_getD, List.getElem?_eq_getElem h]; rfl
theorem getD_lt {l : List Nat} (h : ∀ x ∈ l, x < 256) (i : Nat) : l.getD i 0 < 256 := by
  rw [List.getD_eq_getElem?_getD]
  by_cases c : i < l.length
  · rw [List.getElem?_eq_getElem c]; exact h _ (List.getElem_mem c)
  · rw [List.getElem?_eq_none (by omega)]; decide
theorem val4 {l : List Nat} (h : ∀ x ∈ l, x < 256) (hl : l.length = 4) : val l < 4294967296 := by
  have := val_lt l h
  rw [hl] at this
  exact this
theorem Get_l0 (seq ev : Int) (m : Nat) (hm : 100 ≤ m) : ∀ (n : Nat) (x : List Nat) (acc : List S53), n ≤ 255 → x.length = 9 * n → (∀ y ∈ x, y < 256) → acc.length + n ≤ 1000 →
    batch_Get.l0 (m + n + 1) (ints x) seq ev acc = some (if bchk seq ev (acc ++ parseN n x) = 0 then (seq, ev, acc ++ parseN n x, 0) else (0, 0, [], 6)) := by
  intro n
  induction n with
  | zero =>
    intro x acc hn hx hb ha
    rw [batch_Get.l0, if_neg (by rw [ints_len]; omega), parseN, List.append_nil, bCheck_at _ _ _ _ (by omega), Option.bind_some]
    by_cases c : bchk seq ev acc = 0
    · rw [if_pos c, if_pos c]
    · rw [if_neg c, if_neg c]
  | succ n ih =>
    intro x acc hn hx hb ha
    rw [batch_Get.l0, if_pos (by rw [ints_len]; omega), if_pos (by rw [ints_len]; omega), if_pos (by decide), if_pos (by rw [ints_len]; omega), ints_take, ints_drop,
      batch_get_int64_at _ _ (fun y hy => hb y (List.mem_of_mem_take (List.mem_of_mem_drop hy))) (by simp; omega) (by omega), Option.bind_some, if_pos (by omega), ints_drop]
    have hr : wrap64 (rd (ints x) 0) = ((x.getD 0 0 : Nat) : Int) := by
      have h1 := rd_getD x 0 (by omega)
      have h2 := getD_lt hb 0
      rw [show ((0 : Nat) : Int) = 0 from rfl] at h1
      rw [h1, w64 (by omega) (by omega)]
    rw [hr, show m + (n + 1) = m + n + 1 from rfl, ih (x.drop 9) _ (by omega) (by rw [List.length_drop]; omega) (fun y hy => hb y (List.mem_of_mem_drop hy)) (by simp; omega), parseN, List.append_assoc]
    rfl
theorem Get_at (k : Nat) (b : List Nat) (hb : ∀ x ∈ b, x < 256) (hl : b.length ≤ 100000) (hk : 600 ≤ k) : batch_Get.f k (ints b) = some (getS b) := by
  unfold batch_Get.f getS
  rw [ints_len]
  by_cases c : b.length < 15
  · rw [if_pos (by omega), if_pos c]
  rw [if_neg (by omega), if_neg c, if_pos (by omega)]
  have r0 := rd_getD b 0 (by omega)
  have r1 := rd_getD b 1 (by omega)
  have r10 := rd_getD b 10 (by omega)
  rw [show ((0 : Nat) : Int) = 0 from rfl] at r0
  rw [show ((1 : Nat) : Int) = 1 from rfl] at r1
  rw [show ((10 : Nat) : Int) = 10 from rfl] at r10
  have h10 := getD_lt hb 10
  obtain ⟨k, rfl⟩ : ∃ j, k = j + 1 := ⟨k - 1, by omega⟩
  have hj : ∀ x : Bool, x = true → batch_Get.j0 (k + 1) (ints b) x = some (0, 0, [], 6) := by
    intro x hx
    rw [batch_Get.j0, if_pos hx]
  by_cases c0 : b.getD 0 0 = 76
  · rw [if_pos (by omega), if_pos (by omega), r1]
    by_cases c1 : b.getD 1 0 = 66
    · rw [if_neg (show ¬ ¬ (b.getD 0 0 = 76 ∧ b.getD 1 0 = 66) from fun z => z ⟨c0, c1⟩)]
      have hne : ((((b.getD 1 0 : Nat) : Int)) != 66) = false := by rw [c1]; rfl
      rw [hne, batch_Get.j0, if_neg (by decide), ints_len, if_pos (by omega), w64 (x := (b.length : Int) - 4) (by omega) (by omega), if_pos (by omega), if_pos (by omega), Option.bind_some, r10]
      rw [w64 (x := ((b.getD 10 0 : Nat) : Int)) (by omega) (by omega), w64 (x := 9 * ((b.getD 10 0 : Nat) : Int)) (by omega) (by omega), w64 (x := 15 + 9 * ((b.getD 10 0 : Nat) : Int)) (by omega) (by omega)]
      by_cases d1 : b.length < 15 + 9 * b.getD 10 0
      · rw [if_pos (by omega), if_pos d1]
      rw [if_neg (by omega), if_neg d1]
      by_cases d2 : b.length > 15 + 9 * b.getD 10 0
      · rw [if_pos (by omega), if_pos d2]
      have e4 : ((b.length : Int) - 4).toNat = b.length - 4 := by omega
      rw [if_neg (by omega), if_neg d2, e4, ints_take, ints_len]
      have hln : (b.take (b.length - 4)).length = b.length - 4 := by rw [List.length_take]; omega
      rw [hln, if_pos (by omega), if_pos (by omega), Int.toNat_natCast, ints_drop, batch_get_uint32_at k _ (fun y hy => hb y (List.mem_of_mem_drop hy)) (by rw [List.length_drop]; omega) (by omega), Option.bind_some,
        Sum_at _ (fun y hy => hb y (List.mem_of_mem_take hy)) (by omega), Option.bind_some]
      have v4 := val4 (l := b.drop (b.length - 4)) (fun y hy => hb y (List.mem_of_mem_drop hy)) (by rw [List.length_drop]; omega)
      by_cases d3 : val (b.drop (b.length - 4)) = sumN (b.take (b.length - 4))
      · rw [if_pos (by omega), if_neg (show ¬ ¬ _ from fun z => z d3), if_pos (by decide), if_pos (by omega), ints_take, ints_drop]
        have hs : ∀ x ∈ (b.take 6).drop 2, x < 256 := fun y hy => hb y (List.mem_of_mem_take (List.mem_of_mem_drop hy))
        have he : ∀ x ∈ (b.take 10).drop 6, x < 256 := fun y hy => hb y (List.mem_of_mem_take (List.mem_of_mem_drop hy))
        have vs := val4 hs (by simp; omega)
        have ve := val4 he (by simp; omega)
        rw [batch_get_int_at k _ hs (by simp; omega) (by omega), Option.bind_some, if_pos (by decide), if_pos (by omega), ints_take, ints_drop, batch_get_int_at k _ he (by simp; omega) (by omega), Option.bind_some, if_pos (by omega), ints_drop, w64 (x := ((val ((b.take 6).drop 2) : Nat) : Int)) (by omega) (by omega), w64 (x := ((val ((b.take 10).drop 6) : Nat) : Int)) (by omega) (by omega)]
        obtain ⟨m, rfl⟩ : ∃ m, k = m + b.getD 10 0 + 1 := ⟨k - b.getD 10 0 - 1, by omega⟩
        have := Get_l0 (val ((b.take 6).drop 2) : Nat) (val ((b.take 10).drop 6) : Nat) m (by omega) (b.getD 10 0) ((b.take (b.length - 4)).drop 11) [] (by omega) (by rw [List.length_drop, hln]; omega) (fun y hy => hb y (List.mem_of_mem_take (List.mem_of_mem_drop hy))) (by rw [List.length_nil]; omega)
        rw [List.nil_append] at this
        exact this
      · rw [if_neg (by omega), if_pos d3]
    · rw [if_pos (show ¬ (b.getD 0 0 = 76 ∧ b.getD 1 0 = 66) from fun z => c1 z.2)]
      exact hj _ (by rw [bne_iff_ne]; omega)
  · rw [if_neg (by omega), if_pos (show ¬ (b.getD 0 0 = 76 ∧ b.getD 1 0 = 66) from fun z => c0 z.1)]
    exact hj _ rfl

instance : DecidableEq S53 := fun a b => if h : a.f0 = b.f0 ∧ a.f1 = b.f1 then isTrue (by cases a; cases b; simp at h; simp [h]) else isFalse (fun e => h (by rw [e]; exact ⟨rfl, rfl⟩))
instance : DecidableEq S59 := fun a b => if h : a.f0 = b.f0 ∧ a.f1 = b.f1 then isTrue (by cases a; cases b; simp at h; simp [h]) else isFalse (fun e => h (by rw [e]; exact ⟨rfl, rfl⟩))
def c48 (x : S53) : S59 := ⟨x.f0, x.f1⟩
def c45 (x : S59) : S53 := ⟨x.f0, x.f1⟩
theorem From_l0 (l : List S53) (hl : l.length ≤ 8796093022208) : ∀ (k i : Nat) (acc : List S59), i ≤ l.length → l.length < k + i → acc.length = i →
    lombardlaw17_From.l0 k acc l (l.length : Int) (i : Int) = some (acc ++ (l.drop i).map c48) := by
  intro k
  induction k with
  | zero => intro i acc h1 h2; omega
  | succ k ih =>
    intro i acc h1 h2 h3
    by_cases c : i < l.length
    · have e : rd_T53 l (i : Int) = l[i] := by simp [rd_T53, List.getElem?_eq_getElem c]
      rw [lombardlaw17_From.l0, if_pos (by omega), if_pos (by omega), if_pos (by omega), if_pos (by omega), w64 (by omega) (by omega), e]
      have := ih (i + 1) (acc ++ [⟨l[i].f0, l[i].f1⟩]) (by omega) (by omega) (by simp [h3])
      rw [Int.natCast_add, Int.natCast_one] at this
      rw [this, List.drop_eq_getElem_cons c, List.map_cons, List.append_assoc]
      rfl
    · rw [lombardlaw17_From.l0, if_neg (by omega), List.drop_of_length_le (by omega)]
      simp
theorem From_at (k : Nat) (l : List S53) (hl : l.length ≤ 8796093022208) (hk : l.length < k) : lombardlaw17_From.f k l = some (l.map c48) := by
  have := From_l0 l hl k 0 [] (Nat.zero_le _) (by omega) rfl
  simpa [lombardlaw17_From.f] using this
theorem Same_l0 (a b : List S59) (hl : a.length = b.length) (hm : a.length ≤ 8796093022208) : ∀ (k i : Nat), i ≤ a.length → a.length < k + i →
    lombardref17_Same.l0 k a b (a.length : Int) (i : Int) = some (decide (a.drop i = b.drop i)) := by
  intro k
  induction k with
  | zero => intro i h1 h2; omega
  | succ k ih =>
    intro i h1 h2
    by_cases c : i < a.length
    · have c' : i < b.length := by omega
      have e : rd_T59 a (i : Int) = a[i] := by simp [rd_T59, List.getElem?_eq_getElem c]
      have e' : rd_T59 b (i : Int) = b[i] := by simp [rd_T59, List.getElem?_eq_getElem c']
      have := ih (i + 1) (by omega) (by omega)
      rw [Int.natCast_add, Int.natCast_one] at this
      rw [lombardref17_Same.l0, if_pos (by omega), if_pos (by omega), if_pos (by omega), if_pos (by omega), w64 (by omega) (by omega), e, e', this, List.drop_eq_getElem_cons c, List.drop_eq_getElem_cons c']
      have hx : (a[i] = b[i]) ↔ (a[i].f0 = b[i].f0 ∧ a[i].f1 = b[i].f1) := by
        cases ha : a[i]; cases hb : b[i]; simp
      have hd : ((a[i] :: a.drop (i + 1)) = (b[i] :: b.drop (i + 1))) ↔ ((a[i].f0 = b[i].f0 ∧ a[i].f1 = b[i].f1) ∧ a.drop (i + 1) = b.drop (i + 1)) := by rw [List.cons.injEq, hx]
      have hd' : decide ((a[i] :: a.drop (i + 1)) = (b[i] :: b.drop (i + 1))) = decide ((a[i].f0 = b[i].f0 ∧ a[i].f1 = b[i].f1) ∧ a.drop (i + 1) = b.drop (i + 1)) := decide_eq_decide.mpr hd
      rw [hd']
      by_cases c0 : a[i].f0 = b[i].f0 <;> by_cases c1 : a[i].f1 = b[i].f1 <;> simp [c0, c1]
    · rw [lombardref17_Same.l0, if_neg (by omega), List.drop_of_length_le (by omega), List.drop_of_length_le (by omega)]
      simp
theorem Same_at (k : Nat) (a b : List S59) (hm : a.length ≤ 8796093022208) (hk : a.length < k) : lombardref17_Same.f k a b = some (decide (a = b)) := by
  unfold lombardref17_Same.f
  by_cases c : a.length = b.length
  · rw [if_pos (by omega)]
    simpa using Same_l0 a b c hm k 0 (Nat.zero_le _) (by omega)
  · rw [if_neg (by omega)]
    have : a ≠ b := fun e => c (by rw [e])
    simp [this]
/-! lines of the program's, lines of the document's -/
theorem To_l0 (l : List S59) (hl : l.length ≤ 8796093022208) : ∀ (k i : Nat) (acc : List S53), i ≤ l.length → l.length < k + i → acc.length = i →
    lombardlaw17_To.l0 k acc l (l.length : Int) (i : Int) = some (acc ++ (l.drop i).map c45) := by
  intro k
  induction k with
  | zero => intro i acc h1 h2; omega
  | succ k ih =>
    intro i acc h1 h2 h3
    by_cases c : i < l.length
    · rw [lombardlaw17_To.l0, if_pos (by omega), if_pos (by omega), if_pos (by omega), if_pos (by omega), w64 (by omega) (by omega), rd48 l i c]
      have := ih (i + 1) (acc ++ [⟨l[i].f0, l[i].f1⟩]) (by omega) (by omega) (by simp [h3])
      rw [Int.natCast_add, Int.natCast_one] at this
      rw [this, List.drop_eq_getElem_cons c, List.map_cons, List.append_assoc]
      rfl
    · rw [lombardlaw17_To.l0, if_neg (by omega), List.drop_of_length_le (by omega)]
      simp
theorem To_at (k : Nat) (l : List S59) (hl : l.length ≤ 8796093022208) (hk : l.length < k) : lombardlaw17_To.f k l = some (l.map c45) := by
  have := To_l0 l hl k 0 [] (Nat.zero_le _) (by omega) rfl
  simpa [lombardlaw17_To.f] using this
theorem back48 (l : List S59) : (l.map c45).map c48 = l := by
  rw [List.map_map]
  have : c48 ∘ c45 = id := by funext x; rfl
  rw [this, List.map_id]

/-! the document's batches -/
def convG (r : Int × Int × List S53 × Int) : Int × Int × List S59 × Int := (r.1, r.2.1, r.2.2.1.map c48, r.2.2.2)
theorem back45 (l : List S53) : (l.map c48).map c45 = l := by
  rw [List.map_map]
  have : c45 ∘ c48 = id := by funext x; rfl
  rw [this, List.map_id]
/-! the same bytes, the same batches -/
theorem rd_g (l : List Int) (i : Nat) (h : i < l.length) : rd l (i : Int) = l[i] := by simp [rd, List.getElem?_eq_getElem h]
theorem Bytes_l0 (a b : List Int) (hl : a.length = b.length) (hm : a.length ≤ 8796093022208) : ∀ (k i : Nat), i ≤ a.length → a.length < k + i →
    lombardref18_Bytes.l0 k a b (a.length : Int) (i : Int) = some (decide (a.drop i = b.drop i)) := by
  intro k
  induction k with
  | zero => intro i h1 h2; omega
  | succ k ih =>
    intro i h1 h2
    by_cases c : i < a.length
    · have c' : i < b.length := by omega
      have := ih (i + 1) (by omega) (by omega)
      rw [Int.natCast_add, Int.natCast_one] at this
      rw [lombardref18_Bytes.l0, if_pos (by omega), if_pos (by omega), if_pos (by omega), if_pos (by omega), w64 (by omega) (by omega), rd_g a i c, rd_g b i c', this, List.drop_eq_getElem_cons c, List.drop_eq_getElem_cons c']
      have hd : ((a[i] :: a.drop (i + 1)) = (b[i] :: b.drop (i + 1))) ↔ (a[i] = b[i] ∧ a.drop (i + 1) = b.drop (i + 1)) := by rw [List.cons.injEq]
      have hd' : decide ((a[i] :: a.drop (i + 1)) = (b[i] :: b.drop (i + 1))) = decide (a[i] = b[i] ∧ a.drop (i + 1) = b.drop (i + 1)) := decide_eq_decide.mpr hd
      rw [hd']
      by_cases c0 : a[i] = b[i] <;> simp [c0]
    · rw [lombardref18_Bytes.l0, if_neg (by omega), List.drop_of_length_le (by omega), List.drop_of_length_le (by omega)]
      simp
theorem Bytes_at (k : Nat) (a b : List Int) (hm : a.length ≤ 8796093022208) (hk : a.length < k) : lombardref18_Bytes.f k a b = some (decide (a = b)) := by
  unfold lombardref18_Bytes.f
  by_cases c : a.length = b.length
  · rw [if_pos (by omega)]
    simpa using Bytes_l0 a b c hm k 0 (Nat.zero_le _) (by omega)
  · rw [if_neg (by omega)]
    have : a ≠ b := fun e => c (by rw [e])
    simp [this]
theorem Same18_at (k : Nat) (s e s' e' : Int) (l l' : List S59) (hm : l.length ≤ 8796093022208) (hk : l.length < k) : lombardref18_Same.f k s e l s' e' l' = some (decide (s = s' ∧ e = e' ∧ l = l')) := by
  unfold lombardref18_Same.f
  by_cases c : s = s'
  · by_cases d : e = e'
    · rw [if_pos c, if_pos d, Same_at k l l' hm hk, Option.bind_some]; simp [c, d]
    · rw [if_pos c, if_neg d]; simp [d]
  · rw [if_neg c]; simp [c]
/-- Any row of bytes is one of plain numbers. -/
theorem ints_of (l : List Int) (h : ∀ x ∈ l, 0 ≤ x ∧ x < 256) : ∃ b : List Nat, l = ints b ∧ b.length = l.length ∧ ∀ x ∈ b, x < 256 := by
  refine ⟨l.map Int.toNat, ?_, by simp, ?_⟩
  · unfold ints
    rw [List.map_map]
    conv => lhs; rw [← List.map_id l]
    apply List.map_congr_left
    intro x hx
    have := h x hx
    simp; omega
  · intro x hx
    obtain ⟨y, hy, rfl⟩ := List.mem_map.mp hx
    have := h y hy
    omega

theorem putN_take (s e : Nat) (l : List S53) : (putN s e l).take ((putN s e l).length - 4) = bodyN s e l := by
  rw [putN_len, show 15 + 9 * l.length - 4 = (bodyN s e l).length by rw [bodyN_len]; omega, putN, List.take_left]
theorem putN_drop (s e : Nat) (l : List S53) : (putN s e l).drop ((putN s e l).length - 4) = leb 4 (sumN (bodyN s e l)) := by
  rw [putN_len, show 15 + 9 * l.length - 4 = (bodyN s e l).length by rw [bodyN_len]; omega, putN, List.drop_left]
theorem val_sum (l : List Nat) (h : ∀ x ∈ l, x < 256) : val (leb 4 (sumN l)) = sumN l := by
  rw [val_leb]
  have := sumN_lt l h
  exact Nat.mod_eq_of_lt (by omega)
/-- What is put is got. -/
theorem get_put (seq ev : Int) (l : List S53) (h : bchk seq ev l = 0) : getS (putN (u64N seq) (u64N ev) l) = (seq, ev, l, 0) := by
  have hl := bchk_len h
  obtain ⟨⟨s1, s2, e1, e2⟩, hf⟩ := bchk_zero h
  have hs : u64N seq = seq.toNat := by unfold u64N; omega
  have he : u64N ev = ev.toNat := by unfold u64N; omega
  have h0 : (putN (u64N seq) (u64N ev) l).getD 0 0 = 76 := rfl
  have h1 : (putN (u64N seq) (u64N ev) l).getD 1 0 = 66 := rfl
  have h10 : (putN (u64N seq) (u64N ev) l).getD 10 0 = l.length := by
    have : (putN (u64N seq) (u64N ev) l).getD 10 0 = l.length % 256 := rfl
    rw [this]; omega
  have hq : ((putN (u64N seq) (u64N ev) l).take 6).drop 2 = leb 4 (u64N seq) := rfl
  have hv : ((putN (u64N seq) (u64N ev) l).take 10).drop 6 = leb 4 (u64N ev) := rfl
  have hb : (bodyN (u64N seq) (u64N ev) l).drop 11 = linesB l := rfl
  have p4 : (256 : Nat) ^ 4 = 4294967296 := by decide
  unfold getS
  rw [putN_take, putN_drop, val_sum _ (bodyN_lt _ _ _), h0, h1, h10, hq, hv, hb, val_leb, val_leb, parse_lines l hf, putN_len, p4, if_neg (by omega), if_neg (by simp), if_neg (by omega), if_neg (by omega), if_neg (by simp)]
  have a1 : ((u64N seq % 4294967296 : Nat) : Int) = seq := by omega
  have a2 : ((u64N ev % 4294967296 : Nat) : Int) = ev := by omega
  rw [a1, a2, if_pos h]
/-- What is got otherwise is nothing. -/
theorem getS_or (x : List Nat) : (∃ e, e ≠ 0 ∧ getS x = (0, 0, [], e)) ∨ (x.length = 15 + 9 * x.getD 10 0 ∧ val (x.drop (x.length - 4)) = sumN (x.take (x.length - 4)) ∧
    (getS x = (((val ((x.take 6).drop 2) : Nat) : Int), ((val ((x.take 10).drop 6) : Nat) : Int), parseN (x.getD 10 0) ((x.take (x.length - 4)).drop 11), 0) ∧ x.getD 0 0 = 76 ∧ x.getD 1 0 = 66 ∧ bchk (val ((x.take 6).drop 2) : Nat) (val ((x.take 10).drop 6) : Nat) (parseN (x.getD 10 0) ((x.take (x.length - 4)).drop 11)) = 0)) := by
  unfold getS
  by_cases c1 : x.length < 15
  · left; exact ⟨14, by decide, by rw [if_pos c1]⟩
  rw [if_neg c1]
  by_cases c2 : ¬ (x.getD 0 0 = 76 ∧ x.getD 1 0 = 66)
  · left; exact ⟨6, by decide, by rw [if_pos c2]⟩
  rw [if_neg c2]
  by_cases c3 : x.length < 15 + 9 * x.getD 10 0
  · left; exact ⟨14, by decide, by rw [if_pos c3]⟩
  rw [if_neg c3]
  by_cases c4 : x.length > 15 + 9 * x.getD 10 0
  · left; exact ⟨6, by decide, by rw [if_pos c4]⟩
  rw [if_neg c4]
  by_cases c5 : val (x.drop (x.length - 4)) ≠ sumN (x.take (x.length - 4))
  · left; exact ⟨7, by decide, by rw [if_pos c5]⟩
  rw [if_neg c5]
  by_cases c6 : bchk (val ((x.take 6).drop 2) : Nat) (val ((x.take 10).drop 6) : Nat) (parseN (x.getD 10 0) ((x.take (x.length - 4)).drop 11)) = 0
  · right
    rw [if_pos c6]
    have c2' := Classical.not_not.mp c2
    exact ⟨by omega, Classical.not_not.mp c5, rfl, c2'.1, c2'.2, c6⟩
  · left; exact ⟨6, by decide, by rw [if_neg c6]⟩
theorem alive_at (k : Nat) (hk : 600 ≤ k) : lombardlaw18_alive.f k = some true := by
  have e : putS 1 0 [] = (ints (putN 1 0 []), 0) := rfl
  have hg : getS (putN 1 0 []) = (1, 0, [], 0) := get_put 1 0 [] rfl
  have hs : sumN [49, 50, 51, 52, 53, 54, 55, 56, 57] = 3421780262 := by decide +kernel
  unfold lombardlaw18_alive.f
  rw [Put_at k 1 0 [] (by omega), Option.bind_some, e]
  dsimp only
  rw [Get_at k _ (putN_lt _ _ _) (by rw [putN_len]; simp) hk, Option.bind_some, hg, show ([49, 50, 51, 52, 53, 54, 55, 56, 57] : List Int) = ints [49, 50, 51, 52, 53, 54, 55, 56, 57] from rfl, Sum_at _ (by decide) (by decide), Option.bind_some, hs, if_pos ⟨rfl, rfl, by rw [ints_len, putN_len]; rfl, rfl, rfl⟩]

theorem To18_at (k : Nat) (a b : Int) (l : List S59) (hl : l.length ≤ 8796093022208) (hk : l.length < k) : lombardlaw18_To.f k a b l = some (a, b, l.map c45) := by
  unfold lombardlaw18_To.f
  rw [To_at k l hl hk]; rfl
theorem putS_len (a b : Int) (l : List S53) : (putS a b l).1.length ≤ 1000 := by
  unfold putS
  by_cases c : bchk a b l = 0
  · have := bchk_len c
    rw [if_pos c]
    show (ints _).length ≤ 1000
    rw [ints_len, putN_len]; omega
  · rw [if_neg c]; simp
theorem bytes_wf {l : List Int} (h : ∀ s_ ∈ l, (fun n_ : Int => (Lit.int .u8 n_).wf = true) s_) : ∀ x ∈ l, 0 ≤ x ∧ x < 256 := by
  intro x hx
  have := wf_u8 (h x hx)
  omega
theorem ints_inj {a b : List Nat} (h : ints a = ints b) : a = b := by
  have := congrArg (List.map Int.toNat) h
  unfold ints at this
  rw [List.map_map, List.map_map] at this
  have e : Int.toNat ∘ (fun n : Nat => (n : Int)) = id := by funext n; simp
  rw [e, List.map_id, List.map_id] at this
  exact this
theorem c45_inj {a b : List S59} (h : a.map c45 = b.map c45) : a = b := by
  have := congrArg (List.map c48) h
  rw [back48, back48] at this
  exact this
theorem putS_ok {a b : Int} {l : List S53} (h : (putS a b l).2 = 0) : bchk a b l = 0 ∧ (putS a b l).1 = ints (putN (u64N a) (u64N b) l) := by
  unfold putS at h ⊢
  by_cases c : bchk a b l = 0
  · rw [if_pos c]; exact ⟨c, rfl⟩
  · rw [if_neg c] at h; exact absurd h c
end Go.Proofs.Ytepgponpnijonaa.Print
