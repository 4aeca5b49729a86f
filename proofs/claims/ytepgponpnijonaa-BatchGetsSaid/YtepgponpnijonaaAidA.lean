import Derived.Test.YtepgponpnijonaaPrint9
import Derived.Test.YtepgponpnijonaaOpen
import Derived.Test.YtepgponpnijonaaPrint10
import Derived.Test.YtepgponpnijonaaPrint11
import Derived.Test.YtepgponpnijonaaPrint17
import Derived.Test.YtepgponpnijonaaPrint15
import Derived.Test.YtepgponpnijonaaPrint7
namespace Go.Proofs.Ytepgponpnijonaa.Print
open Go.RowKit Go.Proofs.YtepgponpnijonaaW.PrintWords Go.Proofs.YtepgponpnijonaaW.PrintLast Go.Proofs.YtepgponpnijonaaW.PrintMore
set_option linter.unusedVariables false
set_option linter.unusedSimpArgs false

theorem w64 {x : Int} (h0 : -9223372036854775808 ≤ x) (h1 : x ≤ 9223372036854775807) : wrap64 x = x := by unfold wrap64; omega
/-! check sums, in plain numbers -/
def P32 : Nat := 3988292384
def stepN (n : Nat) : Nat := n / 2 ^^^ (if n % 2 = 1 then P32 else 0)
def stepsN : Nat → Nat → Nat
  | 0, n => n
  | k + 1, n => stepN (stepsN k n)
theorem xor_div2 (a b : Nat) : (a ^^^ b) / 2 = a / 2 ^^^ b / 2 := by
  have := Nat.shiftRight_xor_distrib (a := a) (b := b) (i := 1)
  simpa [Nat.shiftRight_eq_div_pow] using this
theorem xor_mod2 (a b : Nat) : (a ^^^ b) % 2 = 1 ↔ ¬ (a % 2 = 1 ↔ b % 2 = 1) := by
  have := Nat.testBit_xor a b 0
  simp only [Nat.testBit_zero] at this
  by_cases p : a % 2 = 1 <;> by_cases q : b % 2 = 1 <;> simp [p, q] at this ⊢ <;> omega
theorem stepN_xor (a b : Nat) : stepN (a ^^^ b) = stepN a ^^^ stepN b := by
  unfold stepN
  rw [xor_div2]
  have h := xor_mod2 a b
  have e1 : ∀ x y z : Nat, x ^^^ y ^^^ (x ^^^ z) = y ^^^ z := fun x y z => by
    rw [Nat.xor_assoc, ← Nat.xor_assoc y, Nat.xor_comm y x, Nat.xor_assoc x, ← Nat.xor_assoc, Nat.xor_self, Nat.zero_xor]
  by_cases p : a % 2 = 1 <;> by_cases q : b % 2 = 1
  · rw [if_neg (by rw [h]; simp [p, q]), if_pos p, if_pos q, Nat.xor_zero]
    rw [Nat.xor_assoc (a / 2) P32, ← Nat.xor_assoc P32, Nat.xor_comm P32 (b / 2), Nat.xor_assoc (b / 2), Nat.xor_self, Nat.xor_zero]
  · rw [if_pos (by rw [h]; simp [p, q]), if_pos p, if_neg q, Nat.xor_zero, Nat.xor_assoc, Nat.xor_assoc, Nat.xor_comm P32]
  · rw [if_pos (by rw [h]; simp [p, q]), if_neg p, if_pos q, Nat.xor_zero, Nat.xor_assoc]
  · rw [if_neg (by rw [h]; simp [p, q]), if_neg p, if_neg q, Nat.xor_zero, Nat.xor_zero, Nat.xor_zero]
theorem stepsN_xor (k a b : Nat) : stepsN k (a ^^^ b) = stepsN k a ^^^ stepsN k b := by
  induction k with
  | zero => rfl
  | succ k ih => rw [stepsN, ih, stepN_xor, stepsN, stepsN]
theorem stepN_lt {n : Nat} (h : n < 2 ^ 32) : stepN n < 2 ^ 32 := by
  unfold stepN
  apply Nat.xor_lt_two_pow
  · omega
  · split <;> decide
theorem stepsN_lt {k n : Nat} (h : n < 2 ^ 32) : stepsN k n < 2 ^ 32 := by
  induction k with
  | zero => exact h
  | succ k ih => exact stepN_lt ih
theorem stepN_inj {n : Nat} (h : n < 2 ^ 32) (h0 : stepN n = 0) : n = 0 := by
  unfold stepN at h0
  by_cases c : n % 2 = 1
  · rw [if_pos c] at h0
    have h2 : n / 2 = P32 := by
      have := congrArg (· ^^^ P32) h0
      simp only [Nat.xor_assoc, Nat.xor_self, Nat.xor_zero, Nat.zero_xor] at this
      exact this
    unfold P32 at h2
    omega
  · rw [if_neg c, Nat.xor_zero] at h0
    omega
theorem stepsN_inj {k n : Nat} (h : n < 2 ^ 32) (h0 : stepsN k n = 0) : n = 0 := by
  induction k with
  | zero => exact h0
  | succ k ih => exact ih (stepN_inj (stepsN_lt h) h0)
theorem stepsN_zero (k : Nat) : stepsN k 0 = 0 := by
  induction k with
  | zero => rfl
  | succ k ih => rw [stepsN, ih]; rfl
theorem stepN_even (n : Nat) : stepN (2 * n) = n := by
  unfold stepN
  rw [if_neg (by omega), Nat.xor_zero]; omega
theorem stepsN_hi (h : Nat) : stepsN 8 (h * 256) = h := by
  have e : h * 256 = 2 * (2 * (2 * (2 * (2 * (2 * (2 * (2 * h))))))) := by omega
  rw [e]
  simp only [stepsN, stepN_even]
def oneN (n c : Nat) : Nat := stepsN 8 (n ^^^ c)
theorem oneN_lt {n c : Nat} (hn : n < 2 ^ 32) (hc : c < 256) : oneN n c < 2 ^ 32 := stepsN_lt (Nat.xor_lt_two_pow hn (by omega))
theorem split_xor (n c : Nat) (hc : c < 256) : n ^^^ c = (n / 256 * 256) ^^^ (n % 256 ^^^ c) := by
  have h1 : n % 256 ^^^ c < 2 ^ 8 := Nat.xor_lt_two_pow (by omega) hc
  have h2 : n = (n / 256 * 256) ^^^ (n % 256) := by
    have := Nat.two_pow_add_eq_or_of_lt (i := 8) (b := n % 256) (by omega) (n / 256)
    have hx : (n / 256 * 256) ^^^ (n % 256) = (n / 256 * 256) ||| (n % 256) := by
      apply Nat.eq_of_testBit_eq
      intro i
      rw [Nat.testBit_xor, Nat.testBit_or]
      by_cases d : i < 8
      · have : (n / 256 * 256).testBit i = false := by
          rw [show n / 256 * 256 = 2 ^ 8 * (n / 256) by omega, Nat.testBit_two_pow_mul]
          simp; omega
        simp [this]
      · have : (n % 256).testBit i = false := Nat.testBit_lt_two_pow (Nat.lt_of_lt_of_le (show n % 256 < 2 ^ 8 by omega) (Nat.pow_le_pow_right (by decide) (by omega)))
        simp [this]
    rw [hx, show n / 256 * 256 = 2 ^ 8 * (n / 256) by omega, ← this]
    omega
  rw [← Nat.xor_assoc, ← h2]
theorem one_table (n c : Nat) (hc : c < 256) : oneN n c = n / 256 ^^^ stepsN 8 (n % 256 ^^^ c) := by
  unfold oneN
  rw [split_xor n c hc, stepsN_xor, stepsN_hi]
def crcN (l : List Nat) (n : Nat) : Nat := l.foldl oneN n
theorem crcN_lt : ∀ (l : List Nat) (n : Nat), n < 2 ^ 32 → (∀ x ∈ l, x < 256) → crcN l n < 2 ^ 32
  | [], n, h, _ => h
  | c :: t, n, h, hl => crcN_lt t _ (oneN_lt h (hl c List.mem_cons_self)) (fun x hx => hl x (List.mem_cons_of_mem _ hx))
/-! the program's numbers are these -/
theorem u32w {n : Int} (h0 : 0 ≤ n) (h1 : n < 4294967296) : IntKind.u32.wrap n = n := by
  show n % 4294967296 = n
  omega
theorem bits_xor_nat (k : IntKind) (j : Nat) (hj : j ≤ k.bits) (hk : ∀ n : Int, 0 ≤ n → n < 2 ^ j → k.wrap n = n) (a b : Nat) (ha : a < 2 ^ j) (hb : b < 2 ^ j) : Go.bits .xor k (a : Int) (b : Int) = ((a ^^^ b : Nat) : Int) := by
  have hp : 2 ^ j ≤ 2 ^ k.bits := Nat.pow_le_pow_right (by decide) hj
  have ha' : a % 2 ^ k.bits = a := Nat.mod_eq_of_lt (Nat.lt_of_lt_of_le ha hp)
  have hb' : b % 2 ^ k.bits = b := Nat.mod_eq_of_lt (Nat.lt_of_lt_of_le hb hp)
  simp only [Go.bits, BitVec.ofInt_natCast, BitVec.toNat_xor, BitVec.toNat_ofNat, ha', hb']
  exact hk _ (Int.natCast_nonneg _) (by exact_mod_cast Nat.xor_lt_two_pow ha hb)
theorem xor32 (a b : Nat) (ha : a < 2 ^ 32) (hb : b < 2 ^ 32) : Go.bits .xor .u32 (a : Int) (b : Int) = ((a ^^^ b : Nat) : Int) :=
  bits_xor_nat .u32 32 (by decide) (fun n h0 h1 => u32w h0 (by omega)) a b ha hb
theorem xor8 (a b : Nat) (ha : a < 256) (hb : b < 256) : Go.bits .xor .u8 (a : Int) (b : Int) = ((a ^^^ b : Nat) : Int) :=
  bits_xor_nat .u8 8 (by decide) wraps_u8 a b ha hb
theorem and1 (a : Nat) (ha : a < 2 ^ 32) : Go.bits .and .u32 (a : Int) 1 = ((a % 2 : Nat) : Int) := by
  have := bits_mask .u32 32 (by decide) (fun n h0 h1 => u32w h0 (by omega)) 1 (by decide) (a : Int) (Int.natCast_nonneg _) (by exact_mod_cast ha)
  rw [show (2 : Int) ^ 1 - 1 = 1 by decide] at this
  rw [this]
  omega
theorem step_at (n : Nat) (h : n < 2 ^ 32) : batch_table.step (n : Int) = ((stepN n : Nat) : Int) := by
  unfold batch_table.step stepN
  rw [and1 n h]
  have e2 : (n : Int) / 2 = ((n / 2 : Nat) : Int) := by omega
  rw [e2]
  by_cases c : n % 2 = 1
  · rw [if_pos c, c]
    have e3 : (3988292384 * ((1 : Nat) : Int)) % 4294967296 = ((P32 : Nat) : Int) := rfl
    rw [e3, xor32 _ _ (by omega) (by decide)]
  · rw [if_neg c, show n % 2 = 0 by omega]
    have e3 : (3988292384 * ((0 : Nat) : Int)) % 4294967296 = ((0 : Nat) : Int) := rfl
    rw [e3, xor32 _ _ (by omega) (by decide)]
theorem n8_at (k n : Nat) (h : n < 2 ^ 32) : batch_table.n8 k (n : Int) = ((stepsN k n : Nat) : Int) := by
  induction k with
  | zero => rfl
  | succ k ih => rw [batch_table.n8, ih, step_at _ (stepsN_lt h), stepsN]
theorem one_at (n c : Nat) (hn : n < 2 ^ 32) (hc : c < 256) : batch_Sum.one (n : Int) (c : Int) = ((oneN n c : Nat) : Int) := by
  unfold batch_Sum.one batch_table.T
  have e1 : (n : Int) / 256 = ((n / 256 : Nat) : Int) := by omega
  have e2 : (n : Int) % 256 = ((n % 256 : Nat) : Int) := by omega
  have h1 : n % 256 ^^^ c < 2 ^ 8 := Nat.xor_lt_two_pow (by omega) hc
  rw [e1, e2, xor8 _ _ (by omega) hc, n8_at _ _ (by omega), xor32 _ _ (by omega) (stepsN_lt (by omega)), one_table n c hc]
/-- Bytes, as the program has them. -/
def ints (l : List Nat) : List Int := l.map (fun n : Nat => (n : Int))
theorem go_ints : ∀ (l : List Nat) (n : Nat), n < 2 ^ 32 → (∀ x ∈ l, x < 256) → batch_Sum.go (ints l) (n : Int) = ((crcN l n : Nat) : Int)
  | [], n, _, _ => rfl
  | c :: t, n, h, hl => by
    have hc := hl c List.mem_cons_self
    have := go_ints t (oneN n c) (oneN_lt h hc) (fun x hx => hl x (List.mem_cons_of_mem _ hx))
    unfold batch_Sum.go ints at this ⊢
    rw [List.map_cons, List.foldl_cons, one_at n c h hc, this]
    rfl
def sumN (l : List Nat) : Nat := 4294967295 ^^^ crcN l 4294967295
theorem sumN_lt (l : List Nat) (hl : ∀ x ∈ l, x < 256) : sumN l < 2 ^ 32 := Nat.xor_lt_two_pow (by decide) (crcN_lt l _ (by decide) hl)
theorem Sum_at (l : List Nat) (hl : ∀ x ∈ l, x < 256) (hn : l.length ≤ 1000000000000) : batch_Sum.f (ints l) = some ((sumN l : Nat) : Int) := by
  unfold batch_Sum.f
  rw [if_pos (by simpa [ints] using hn)]
  have := go_ints l 4294967295 (by decide) hl
  rw [show ((4294967295 : Nat) : Int) = 4294967295 from rfl] at this
  rw [this, show IntKind.u32.max = ((4294967295 : Nat) : Int) from rfl, xor32 _ _ (by decide) (crcN_lt l _ (by decide) hl)]
  rfl
theorem u64w {n : Int} (h0 : 0 ≤ n) (h1 : n < 18446744073709551616) : IntKind.u64.wrap n = n := by
  show n % 18446744073709551616 = n
  omega
theorem ints_len (l : List Nat) : (ints l).length = l.length := by simp [ints]
theorem ints_append (a b : List Nat) : ints a ++ ints b = ints (a ++ b) := by simp [ints]
theorem rd_ints (l : List Nat) (i : Nat) (h : i < l.length) : rd (ints l) (i : Int) = ((l[i] : Nat) : Int) := by
  simp [rd, ints, List.getElem?_eq_getElem h]
/-! numbers as bytes -/
def leb : Nat → Nat → List Nat
  | 0, _ => []
  | k + 1, n => n % 256 :: leb k (n / 256)
def val : List Nat → Nat
  | [] => 0
  | b :: t => b + 256 * val t
theorem leb_len : ∀ k n, (leb k n).length = k
  | 0, _ => rfl
  | k + 1, n => by rw [leb, List.length_cons, leb_len]
theorem leb_lt : ∀ k n, ∀ x ∈ leb k n, x < 256
  | 0, _, x, h => by cases h
  | k + 1, n, x, h => by
    rw [leb] at h
    rcases List.mem_cons.mp h with rfl | h
    · omega
    · exact leb_lt k _ x h
theorem val_leb : ∀ k n, val (leb k n) = n % 256 ^ k
  | 0, n => by rw [leb, val, Nat.pow_zero, Nat.mod_one]
  | k + 1, n => by rw [leb, val, val_leb k, Nat.pow_succ, Nat.mul_comm (256 ^ k) 256, Nat.mod_mul]
theorem leb_val : ∀ l : List Nat, (∀ x ∈ l, x < 256) → leb l.length (val l) = l
  | [], _ => rfl
  | b :: t, h => by
    have hb := h b List.mem_cons_self
    rw [List.length_cons, leb, val, show (b + 256 * val t) % 256 = b by omega, show (b + 256 * val t) / 256 = val t by omega, leb_val t (fun x hx => h x (List.mem_cons_of_mem _ hx))]
theorem val_lt : ∀ l : List Nat, (∀ x ∈ l, x < 256) → val l < 256 ^ l.length
  | [], _ => by simp [val]
  | b :: t, h => by
    have hb := h b List.mem_cons_self
    have := val_lt t (fun x hx => h x (List.mem_cons_of_mem _ hx))
    rw [val, List.length_cons, Nat.pow_succ]; omega
theorem val_append (a b : List Nat) : val (a ++ b) = val a + 256 ^ a.length * val b := by
  induction a with
  | nil => simp [val]
  | cons x t ih => rw [List.cons_append, val, ih, val, List.length_cons, Nat.pow_succ, Nat.mul_add]; rw [← Nat.mul_assoc, Nat.mul_comm 256 (256 ^ t.length)]; omega
theorem shr_at (n i : Nat) (hi : i ≤ 8) : shr .u64 (n : Int) ((8 * i : Nat) : Int) = ((n / 256 ^ i : Nat) : Int) := by
  unfold shr
  have e : min ((8 * i : Nat) : Int).toNat IntKind.u64.bits = 8 * i := by
    have : IntKind.u64.bits = 64 := rfl
    rw [Int.toNat_natCast]; omega
  rw [e, show (256 : Nat) = 2 ^ 8 from rfl, ← Nat.pow_mul]
  simp
theorem pow_next (n i : Nat) : n / 256 ^ i / 256 = n / 256 ^ (i + 1) := by rw [Nat.div_div_eq_div_mul, Nat.pow_succ]

theorem batch_put_int_l0 (v : Nat) (x : Int) (hx : IntKind.u64.wrap x = (v : Int)) (sz : Nat) (hs : sz ≤ 8) (m : Nat) : ∀ (d i : Nat) (acc : List Nat), i + d = sz → acc.length + d ≤ 1000000000 →
    batch_put_int.l0 (m + d + 1) (ints acc) x (sz : Int) (i : Int) = some (ints (acc ++ leb d (v / 256 ^ i))) := by
  intro d
  induction d with
  | zero =>
    intro i acc hi ha
    rw [batch_put_int.l0, if_neg (by omega), leb, List.append_nil]
  | succ d ih =>
    intro i acc hi ha
    have e8 : wrap64 (8 * (i : Int)) = ((8 * i : Nat) : Int) := by rw [w64 (by omega) (by omega)]; omega
    rw [batch_put_int.l0, if_pos (by omega), e8, if_pos (by omega), if_pos (by rw [ints_len]; omega), hx, shr_at v i (by omega), w64 (x := (i : Int) + 1) (by omega) (by omega), show ((i : Int) + 1) = ((i + 1 : Nat) : Int) by omega]
    have eb : [((v / 256 ^ i : Nat) : Int) % 256] = ints [v / 256 ^ i % 256] := by simp [ints]
    rw [eb, ints_append, show m + (d + 1) = m + d + 1 from rfl, ih (i + 1) _ (by omega) (by simp; omega), leb, pow_next, List.append_assoc]
    rfl
theorem batch_put_int_at (k : Nat) (v : Nat) (x : Int) (hx : IntKind.u64.wrap x = (v : Int)) (sz : Nat) (hs : sz ≤ 8) (acc : List Nat) (ha : acc.length ≤ 1000000) (hk : 9 ≤ k) : batch_put_int.f k (ints acc) x (sz : Int) = some (ints (acc ++ leb sz v)) := by
  obtain ⟨m, rfl⟩ : ∃ m, k = m + sz + 1 := ⟨k - sz - 1, by omega⟩
  have := batch_put_int_l0 v x hx sz hs m sz 0 acc (by omega) (by omega)
  rw [Nat.pow_zero, Nat.div_one] at this
  exact this

theorem batch_put_int64_l0 (v : Nat) (x : Int) (hx : IntKind.u64.wrap x = (v : Int)) (sz : Nat) (hs : sz ≤ 8) (m : Nat) : ∀ (d i : Nat) (acc : List Nat), i + d = sz → acc.length + d ≤ 1000000000 →
    batch_put_int64.l0 (m + d + 1) (ints acc) x (sz : Int) (i : Int) = some (ints (acc ++ leb d (v / 256 ^ i))) := by
  intro d
  induction d with
  | zero =>
    intro i acc hi ha
    rw [batch_put_int64.l0, if_neg (by omega), leb, List.append_nil]
  | succ d ih =>
    intro i acc hi ha
    have e8 : wrap64 (8 * (i : Int)) = ((8 * i : Nat) : Int) := by rw [w64 (by omega) (by omega)]; omega
    rw [batch_put_int64.l0, if_pos (by omega), e8, if_pos (by omega), if_pos (by rw [ints_len]; omega), hx, shr_at v i (by omega), w64 (x := (i : Int) + 1) (by omega) (by omega), show ((i : Int) + 1) = ((i + 1 : Nat) : Int) by omega]
    have eb : [((v / 256 ^ i : Nat) : Int) % 256] = ints [v / 256 ^ i % 256] := by simp [ints]
    rw [eb, ints_append, show m + (d + 1) = m + d + 1 from rfl, ih (i + 1) _ (by omega) (by simp; omega), leb, pow_next, List.append_assoc]
    rfl
theorem batch_put_int64_at (k : Nat) (v : Nat) (x : Int) (hx : IntKind.u64.wrap x = (v : Int)) (sz : Nat) (hs : sz ≤ 8) (acc : List Nat) (ha : acc.length ≤ 1000000) (hk : 9 ≤ k) : batch_put_int64.f k (ints acc) x (sz : Int) = some (ints (acc ++ leb sz v)) := by
  obtain ⟨m, rfl⟩ : ∃ m, k = m + sz + 1 := ⟨k - sz - 1, by omega⟩
  have := batch_put_int64_l0 v x hx sz hs m sz 0 acc (by omega) (by omega)
  rw [Nat.pow_zero, Nat.div_one] at this
  exact this

theorem batch_put_uint32_l0 (v : Nat) (x : Int) (hx : IntKind.u64.wrap x = (v : Int)) (sz : Nat) (hs : sz ≤ 8) (m : Nat) : ∀ (d i : Nat) (acc : List Nat), i + d = sz → acc.length + d ≤ 1000000000 →
    batch_put_uint32.l0 (m + d + 1) (ints acc) x (sz : Int) (i : Int) = some (ints (acc ++ leb d (v / 256 ^ i))) := by
  intro d
  induction d with
  | zero =>
    intro i acc hi ha
    rw [batch_put_uint32.l0, if_neg (by omega), leb, List.append_nil]
  | succ d ih =>
    intro i acc hi ha
    have e8 : wrap64 (8 * (i : Int)) = ((8 * i : Nat) : Int) := by rw [w64 (by omega) (by omega)]; omega
    rw [batch_put_uint32.l0, if_pos (by omega), e8, if_pos (by omega), if_pos (by rw [ints_len]; omega), hx, shr_at v i (by omega), w64 (x := (i : Int) + 1) (by omega) (by omega), show ((i : Int) + 1) = ((i + 1 : Nat) : Int) by omega]
    have eb : [((v / 256 ^ i : Nat) : Int) % 256] = ints [v / 256 ^ i % 256] := by simp [ints]
    rw [eb, ints_append, show m + (d + 1) = m + d + 1 from rfl, ih (i + 1) _ (by omega) (by simp; omega), leb, pow_next, List.append_assoc]
    rfl
theorem batch_put_uint32_at (k : Nat) (v : Nat) (x : Int) (hx : IntKind.u64.wrap x = (v : Int)) (sz : Nat) (hs : sz ≤ 8) (acc : List Nat) (ha : acc.length ≤ 1000000) (hk : 9 ≤ k) : batch_put_uint32.f k (ints acc) x (sz : Int) = some (ints (acc ++ leb sz v)) := by
  obtain ⟨m, rfl⟩ : ∃ m, k = m + sz + 1 := ⟨k - sz - 1, by omega⟩
  have := batch_put_uint32_l0 v x hx sz hs m sz 0 acc (by omega) (by omega)
  rw [Nat.pow_zero, Nat.div_one] at this
  exact this

theorem val_take (l : List Nat) (i : Nat) (h : i < l.length) : val (l.take (i + 1)) = val (l.take i) + 256 ^ i * l[i] := by
  rw [List.take_succ_eq_append_getElem h, val_append, List.length_take, Nat.min_eq_left (by omega), val, val]
  simp
theorem val_take_lt (l : List Nat) (hb : ∀ x ∈ l, x < 256) (hl : l.length ≤ 8) (i : Nat) : val (l.take i) < 18446744073709551616 := by
  have h := val_lt (l.take i) (fun x hx => hb x (List.mem_of_mem_take hx))
  have h2 : 256 ^ (l.take i).length ≤ 256 ^ 8 := Nat.pow_le_pow_right (by decide) (by rw [List.length_take]; omega)
  have e : (256 : Nat) ^ 8 = 18446744073709551616 := by decide
  omega
theorem value_l0 (l : List Nat) (hb : ∀ x ∈ l, x < 256) (hl : l.length ≤ 8) (m : Nat) : ∀ (d i : Nat), i + d = l.length →
    lombardref18_value.l0 (m + d + 1) ((val (l.take i) : Nat) : Int) (ints l) ((ints l).length : Int) (i : Int) = some ((val l : Nat) : Int) := by
  intro d
  induction d with
  | zero =>
    intro i hi
    rw [lombardref18_value.l0, if_neg (by rw [ints_len]; omega), List.take_of_length_le (by omega)]
  | succ d ih =>
    intro i hi
    have c : i < l.length := by omega
    have hc := hb _ (List.getElem_mem c)
    have e8 : IntKind.u64.wrap (wrap64 (8 * (i : Int))) = ((8 * i : Nat) : Int) := by rw [w64 (by omega) (by omega), u64w (by omega) (by omega)]; omega
    have hnext := val_take l i c
    have hlt := val_take_lt l hb hl (i + 1)
    have es : shl .u64 (IntKind.u64.wrap ((l[i] : Nat) : Int)) ((8 * i : Nat) : Int) = ((256 ^ i * l[i] : Nat) : Int) := by
      unfold shl
      have e : min ((8 * i : Nat) : Int).toNat IntKind.u64.bits = 8 * i := by
        have : IntKind.u64.bits = 64 := rfl
        rw [Int.toNat_natCast]; omega
      rw [e]
      have e0 : IntKind.u64.wrap ((l[i] : Nat) : Int) = ((l[i] : Nat) : Int) := u64w (by omega) (by omega)
      have e2 : ((l[i] : Nat) : Int) * 2 ^ (8 * i) = ((256 ^ i * l[i] : Nat) : Int) := by
        rw [show (256 : Nat) = 2 ^ 8 from rfl, ← Nat.pow_mul, Nat.mul_comm (2 ^ (8 * i)) l[i]]
        simp
      rw [e0, e2]
      have hq : 256 ^ i * l[i] < 18446744073709551616 := by omega
      exact u64w (Int.natCast_nonneg _) (by omega)
    rw [lombardref18_value.l0, if_pos (by rw [ints_len]; omega), if_pos (by omega), if_pos (by rw [ints_len]; omega), e8, if_pos (by omega), rd_ints l i c, es, w64 (x := (i : Int) + 1) (by omega) (by omega), show ((i : Int) + 1) = ((i + 1 : Nat) : Int) by omega]
    have ew : IntKind.u64.wrap (((val (l.take i) : Nat) : Int) + ((256 ^ i * l[i] : Nat) : Int)) = ((val (l.take (i + 1)) : Nat) : Int) := by
      rw [u64w (by omega) (by omega)]; omega
    rw [ew, show m + (d + 1) = m + d + 1 from rfl, ih (i + 1) (by omega)]
theorem value_at (k : Nat) (l : List Nat) (hb : ∀ x ∈ l, x < 256) (hl : l.length ≤ 8) (hk : 9 ≤ k) : lombardref18_value.f k (ints l) = some ((val l : Nat) : Int) := by
  obtain ⟨m, rfl⟩ : ∃ m, k = m + l.length + 1 := ⟨k - l.length - 1, by omega⟩
  have := value_l0 l hb hl m l.length 0 (by omega)
  exact this
theorem val_drop_lt (l : List Nat) (hb : ∀ x ∈ l, x < 256) (hl : l.length ≤ 8) (i : Nat) : val (l.drop i) < 18446744073709551616 := by
  have h := val_lt (l.drop i) (fun x hx => hb x (List.mem_of_mem_drop hx))
  have h2 : 256 ^ (l.drop i).length ≤ 256 ^ 8 := Nat.pow_le_pow_right (by decide) (by rw [List.length_drop]; omega)
  have e : (256 : Nat) ^ 8 = 18446744073709551616 := by decide
  omega
theorem or_join (x b : Nat) (hx : x * 256 + 255 < 18446744073709551616) (hb : b < 256) : Go.bits .or .u64 (IntKind.u64.wrap ((x : Int) * 256)) (IntKind.u64.wrap (b : Int)) = ((b + 256 * x : Nat) : Int) := by
  rw [u64w (by omega) (by omega), u64w (by omega) (by omega), bits_join .u64 64 (by decide) (fun n h0 h1 => u64w h0 (by omega)) 8 _ _ (by omega) (by omega) (by omega) (by omega) (by omega) (by omega)]
  omega

theorem batch_get_uint32_l0 (l : List Nat) (hb : ∀ x ∈ l, x < 256) (hl : l.length ≤ 8) (m : Nat) : ∀ (d : Nat), d ≤ l.length →
    batch_get_uint32.l0 (m + d + 1) (ints l) ((val (l.drop d) : Nat) : Int) ((d : Int) - 1) = some (((val l : Nat) : Int) % 4294967296) := by
  intro d
  induction d with
  | zero =>
    intro hd
    rw [batch_get_uint32.l0, if_neg (by omega), List.drop_zero]
  | succ d ih =>
    intro hd
    have c : d < l.length := by omega
    have hc := hb _ (List.getElem_mem c)
    have e : ((d + 1 : Nat) : Int) - 1 = (d : Int) := by omega
    have hv : val (l.drop d) = l[d] + 256 * val (l.drop (d + 1)) := by rw [List.drop_eq_getElem_cons c, val]
    have hlt := val_drop_lt l hb hl d
    rw [e, batch_get_uint32.l0, if_pos (by omega), if_pos (by omega), if_pos (by rw [ints_len]; omega), rd_ints l d c, or_join _ _ (by omega) hc, ← hv, w64 (by omega) (by omega), show m + (d + 1) = m + d + 1 from rfl, ih (by omega)]
theorem batch_get_uint32_at (k : Nat) (l : List Nat) (hb : ∀ x ∈ l, x < 256) (hl : l.length ≤ 8) (hk : 9 ≤ k) : batch_get_uint32.f k (ints l) = some (((val l : Nat) : Int) % 4294967296) := by
  obtain ⟨m, rfl⟩ : ∃ m, k = m + l.length + 1 := ⟨k - l.length - 1, by omega⟩
  have := batch_get_uint32_l0 l hb hl m l.length (Nat.le_refl _)
  rw [List.drop_length] at this
  unfold batch_get_uint32.f
  rw [ints_len, w64 (by omega) (by omega)]
  exact this

theorem batch_get_int_l0 (l : List Nat) (hb : ∀ x ∈ l, x < 256) (hl : l.length ≤ 8) (m : Nat) : ∀ (d : Nat), d ≤ l.length →
    batch_get_int.l0 (m + d + 1) (ints l) ((val (l.drop d) : Nat) : Int) ((d : Int) - 1) = some (wrap64 ((val l : Nat) : Int)) := by
  intro d
  induction d with
  | zero =>
    intro hd
    rw [batch_get_int.l0, if_neg (by omega), List.drop_zero]
  | succ d ih =>
    intro hd
    have c : d < l.length := by omega
    have hc := hb _ (List.getElem_mem c)
    have e : ((d + 1 : Nat) : Int) - 1 = (d : Int) := by omega
    have hv : val (l.drop d) = l[d] + 256 * val (l.drop (d + 1)) := by rw [List.drop_eq_getElem_cons c, val]
    have hlt := val_drop_lt l hb hl d
    rw [e, batch_get_int.l0, if_pos (by omega), if_pos (by omega), if_pos (by rw [ints_len]; omega), rd_ints l d c, or_join _ _ (by omega) hc, ← hv, w64 (by omega) (by omega), show m + (d + 1) = m + d + 1 from rfl, ih (by omega)]
theorem batch_get_int_at (k : Nat) (l : List Nat) (hb : ∀ x ∈ l, x < 256) (hl : l.length ≤ 8) (hk : 9 ≤ k) : batch_get_int.f k (ints l) = some (wrap64 ((val l : Nat) : Int)) := by
  obtain ⟨m, rfl⟩ : ∃ m, k = m + l.length + 1 := ⟨k - l.length - 1, by omega⟩
  have := batch_get_int_l0 l hb hl m l.length (Nat.le_refl _)
  rw [List.drop_length] at this
  unfold batch_get_int.f
  rw [ints_len, w64 (by omega) (by omega)]
  exact this

theorem batch_get_int64_l0 (l : List Nat) (hb : ∀ x ∈ l, x < 256) (hl : l.length ≤ 8) (m : Nat) : ∀ (d : Nat), d ≤ l.length →
    batch_get_int64.l0 (m + d + 1) (ints l) ((val (l.drop d) : Nat) : Int) ((d : Int) - 1) = some (wrap64 ((val l : Nat) : Int)) := by
  intro d
  induction d with
  | zero =>
    intro hd
    rw [batch_get_int64.l0, if_neg (by omega), List.drop_zero]
  | succ d ih =>
    intro hd
    have c : d < l.length := by omega
    have hc := hb _ (List.getElem_mem c)
    have e : ((d + 1 : Nat) : Int) - 1 = (d : Int) := by omega
    have hv : val (l.drop d) = l[d] + 256 * val (l.drop (d + 1)) := by rw [List.drop_eq_getElem_cons c, val]
    have hlt := val_drop_lt l hb hl d
    rw [e, batch_get_int64.l0, if_pos (by omega), if_pos (by omega), if_pos (by rw [ints_len]; omega), rd_ints l d c, or_join _ _ (by omega) hc, ← hv, w64 (by omega) (by omega), show m + (d + 1) = m + d + 1 from rfl, ih (by omega)]
theorem batch_get_int64_at (k : Nat) (l : List Nat) (hb : ∀ x ∈ l, x < 256) (hl : l.length ≤ 8) (hk : 9 ≤ k) : batch_get_int64.f k (ints l) = some (wrap64 ((val l : Nat) : Int)) := by
  obtain ⟨m, rfl⟩ : ∃ m, k = m + l.length + 1 := ⟨k - l.length - 1, by omega⟩
  have := batch_get_int64_l0 l hb hl m l.length (Nat.le_refl _)
  rw [List.drop_length] at this
  unfold batch_get_int64.f
  rw [ints_len, w64 (by omega) (by omega)]
  exact this


/-! the document's sum: bit by bit -/
theorem rSum_l1 (l : List Nat) (hl : l.length ≤ 1000000) (c : Nat) (hc : c < 256) (j : Nat) (m : Nat) : ∀ (d i n : Nat), i + d = 8 → n < 2 ^ 32 →
    lombardref18_Sum.l1 (m + d + 1) (n : Int) (c : Int) (i : Int) (ints l) ((ints l).length : Int) (j : Int) = lombardref18_Sum.l0 m ((stepsN d (n ^^^ c / 2 ^ i) ^^^ c / 2 ^ 8 : Nat) : Int) (ints l) ((ints l).length : Int) (wrap64 ((j : Int) + 1)) := by
  intro d
  induction d with
  | zero =>
    intro i n hi hn
    obtain rfl : i = 8 := by omega
    rw [lombardref18_Sum.l1, if_neg (by omega)]
    congr 2
    rw [stepsN, Nat.xor_assoc, Nat.xor_self, Nat.xor_zero]
  | succ d ih =>
    intro i n hi hn
    have hs : shr .u32 ((c : Int) % 4294967296) (IntKind.u64.wrap (i : Int)) = ((c / 2 ^ i : Nat) : Int) := by
      rw [u64w (by omega) (by omega)]
      unfold shr
      have e1 : (c : Int) % 4294967296 = (c : Int) := by omega
      have e2 : min ((i : Int)).toNat IntKind.u32.bits = i := by
        have : IntKind.u32.bits = 32 := rfl
        rw [Int.toNat_natCast]; omega
      rw [e1, e2]
      simp
    have hci : c / 2 ^ i < 2 ^ 32 := Nat.lt_of_le_of_lt (Nat.div_le_self _ _) (by omega)
    have hdiv : c / 2 ^ (i + 1) = c / 2 ^ i / 2 := by rw [Nat.pow_succ, Nat.div_div_eq_div_mul]
    rw [lombardref18_Sum.l1, if_pos (by omega), if_pos (by rw [u64w (by omega) (by omega)]; omega), hs, xor32 n _ hn hci, and1 _ (Nat.xor_lt_two_pow hn hci), w64 (x := (i : Int) + 1) (by omega) (by omega)]
    have e2 : (n : Int) / 2 = ((n / 2 : Nat) : Int) := by omega
    have e1 : ((i : Int) + 1) = ((i + 1 : Nat) : Int) := by omega
    have hstep : ∀ x : Nat, stepsN (d + 1) x = stepsN d (stepN x) := by
      clear ih hi
      induction d with
      | zero => intro x; rfl
      | succ d ih => intro x; rw [stepsN, ih, ← stepsN]
    rw [e2, e1, show m + (d + 1) = m + d + 1 from rfl, hstep]
    by_cases b : (n ^^^ c / 2 ^ i) % 2 = 1
    · rw [if_pos (by rw [b]; rfl), show (3988292384 : Int) = ((P32 : Nat) : Int) from rfl, xor32 _ _ (by omega) (by decide), ih (i + 1) _ (by omega) (Nat.xor_lt_two_pow (by omega) (by decide))]
      have : n / 2 ^^^ P32 ^^^ c / 2 ^ (i + 1) = stepN (n ^^^ c / 2 ^ i) := by
        unfold stepN
        rw [if_pos b, xor_div2, hdiv, Nat.xor_assoc, Nat.xor_comm P32, ← Nat.xor_assoc]
      rw [this]
    · rw [if_neg (by omega), ih (i + 1) _ (by omega) (by omega)]
      have : n / 2 ^^^ c / 2 ^ (i + 1) = stepN (n ^^^ c / 2 ^ i) := by
        unfold stepN
        rw [if_neg b, xor_div2, hdiv, Nat.xor_zero]
      rw [this]
theorem rSum_l0 (l : List Nat) (hl : l.length ≤ 1000000) (hb : ∀ x ∈ l, x < 256) (m : Nat) : ∀ (d j n : Nat), j + d = l.length → n < 2 ^ 32 →
    lombardref18_Sum.l0 (m + 10 * d + 1) (n : Int) (ints l) ((ints l).length : Int) (j : Int) = some ((crcN (l.drop j) n ^^^ 4294967295 : Nat) : Int) := by
  intro d
  induction d with
  | zero =>
    intro j n hj hn
    rw [lombardref18_Sum.l0, if_neg (by rw [ints_len]; omega), List.drop_of_length_le (by omega)]
    have := xor32 n 4294967295 hn (by decide)
    rw [show ((4294967295 : Nat) : Int) = 4294967295 from rfl] at this
    rw [this]; rfl
  | succ d ih =>
    intro j n hj hn
    have c : j < l.length := by omega
    have hc : l[j] < 256 := hb _ (List.getElem_mem c)
    have h1 := rSum_l1 l hl l[j] hc j (m + 10 * d + 1) 8 0 n rfl hn
    rw [Nat.pow_zero, Nat.div_one, show l[j] / 2 ^ 8 = 0 by omega, Nat.xor_zero] at h1
    rw [lombardref18_Sum.l0, if_pos (by rw [ints_len]; omega), if_pos (by omega), if_pos (by rw [ints_len]; omega), rd_ints l j c, show m + 10 * (d + 1) = m + 10 * d + 1 + 8 + 1 by omega]
    simp only [Int.natCast_zero] at h1
    rw [h1, w64 (x := (j : Int) + 1) (by omega) (by omega), show ((j : Int) + 1) = ((j + 1 : Nat) : Int) by omega, ih (j + 1) _ (by omega) (stepsN_lt (Nat.xor_lt_two_pow hn (by omega))), List.drop_eq_getElem_cons c]
    rfl
theorem rSum_at (k : Nat) (l : List Nat) (hl : l.length ≤ 1000000) (hb : ∀ x ∈ l, x < 256) (hk : 10 * l.length + 1 ≤ k) : lombardref18_Sum.f k (ints l) = some ((sumN l : Nat) : Int) := by
  obtain ⟨m, rfl⟩ : ∃ m, k = m + 10 * l.length + 1 := ⟨k - 10 * l.length - 1, by omega⟩
  have := rSum_l0 l hl hb m l.length 0 4294967295 (by omega) (by decide)
  unfold lombardref18_Sum.f
  simp only [Int.natCast_zero] at this
  rw [show ((4294967295 : Nat) : Int) = 4294967295 from rfl] at this
  rw [this, List.drop_zero]
  unfold sumN
  rw [Nat.xor_comm]
theorem number_l0 (v sz : Nat) (hs : sz ≤ 8) (m : Nat) : ∀ (d i : Nat) (acc : List Nat), i + d = sz → acc.length + d ≤ 1000000000 →
    lombardref18_number.l0 (m + d + 1) (v : Int) (sz : Int) (ints acc) (i : Int) = some (ints (acc ++ leb d (v / 256 ^ i))) := by
  intro d
  induction d with
  | zero =>
    intro i acc hi ha
    rw [lombardref18_number.l0, if_neg (by omega), leb, List.append_nil]
  | succ d ih =>
    intro i acc hi ha
    have e8 : IntKind.u64.wrap (wrap64 (8 * (i : Int))) = ((8 * i : Nat) : Int) := by rw [w64 (by omega) (by omega), u64w (by omega) (by omega)]; omega
    rw [lombardref18_number.l0, if_pos (by omega), e8, if_pos (by omega), if_pos (by rw [ints_len]; omega), shr_at v i (by omega), w64 (x := (i : Int) + 1) (by omega) (by omega), show ((i : Int) + 1) = ((i + 1 : Nat) : Int) by omega]
    have eb : [((v / 256 ^ i : Nat) : Int) % 256] = ints [v / 256 ^ i % 256] := by simp [ints]
    rw [eb, ints_append, show m + (d + 1) = m + d + 1 from rfl, ih (i + 1) _ (by omega) (by simp; omega), leb, pow_next, List.append_assoc]
    rfl
theorem number_at (k : Nat) (v sz : Nat) (hs : sz ≤ 8) (hk : 9 ≤ k) : lombardref18_number.f k (v : Int) (sz : Int) = some (ints (leb sz v)) := by
  obtain ⟨m, rfl⟩ : ∃ m, k = m + sz + 1 := ⟨k - sz - 1, by omega⟩
  have := number_l0 v sz hs m sz 0 [] (by omega) (by simp; omega)
  rw [Nat.pow_zero, Nat.div_one, List.nil_append] at this
  exact this

/-! batches as bytes, in plain numbers -/
def u64N (x : Int) : Nat := (x % 18446744073709551616).toNat
theorem u64N_at (x : Int) : IntKind.u64.wrap x = ((u64N x : Nat) : Int) := by
  show x % 18446744073709551616 = _
  unfold u64N
  omega
def lineB (x : S53) : List Nat := (x.f0 % 256).toNat :: leb 8 (u64N x.f1)
theorem lineB_len (x : S53) : (lineB x).length = 9 := by rw [lineB, List.length_cons, leb_len]
theorem lineB_lt (x : S53) : ∀ b ∈ lineB x, b < 256 := by
  intro b hb
  rcases List.mem_cons.mp hb with rfl | hb
  · omega
  · exact leb_lt _ _ b hb
def linesB : List S53 → List Nat
  | [] => []
  | x :: t => lineB x ++ linesB t
theorem linesB_len : ∀ l, (linesB l).length = 9 * l.length
  | [] => rfl
  | x :: t => by rw [linesB, List.length_append, lineB_len, linesB_len, List.length_cons]; omega
theorem linesB_lt : ∀ l, ∀ b ∈ linesB l, b < 256
  | [], b, h => by cases h
  | x :: t, b, h => by
    rw [linesB] at h
    rcases List.mem_append.mp h with h | h
    · exact lineB_lt x b h
    · exact linesB_lt t b h
theorem linesB_append (a b : List S53) : linesB (a ++ b) = linesB a ++ linesB b := by
  induction a with
  | nil => rfl
  | cons x t ih => rw [List.cons_append, linesB, ih, linesB, List.append_assoc]
def headN (seq ev n : Nat) : List Nat := [76, 66] ++ leb 4 seq ++ leb 4 ev ++ [n % 256]
theorem headN_len (a b c : Nat) : (headN a b c).length = 11 := by simp [headN, leb_len]
def bodyN (seq ev : Nat) (l : List S53) : List Nat := headN seq ev l.length ++ linesB l
def putN (seq ev : Nat) (l : List S53) : List Nat := bodyN seq ev l ++ leb 4 (sumN (bodyN seq ev l))
theorem bodyN_len (a b : Nat) (l : List S53) : (bodyN a b l).length = 11 + 9 * l.length := by rw [bodyN, List.length_append, headN_len, linesB_len]
theorem putN_len (a b : Nat) (l : List S53) : (putN a b l).length = 15 + 9 * l.length := by rw [putN, List.length_append, bodyN_len, leb_len]; omega
theorem bodyN_lt (a b : Nat) (l : List S53) : ∀ x ∈ bodyN a b l, x < 256 := by
  intro x hx
  rw [bodyN, headN] at hx
  simp only [List.mem_append, List.mem_cons, List.not_mem_nil, or_false] at hx
  rcases hx with ((((rfl | rfl) | h) | h) | rfl) | h
  · omega
  · omega
  · exact leb_lt _ _ x h
  · exact leb_lt _ _ x h
  · omega
  · exact linesB_lt _ x h
theorem putN_lt (a b : Nat) (l : List S53) : ∀ x ∈ putN a b l, x < 256 := by
  intro x hx
  rw [putN] at hx
  rcases List.mem_append.mp hx with h | h
  · exact bodyN_lt _ _ _ x h
  · exact leb_lt _ _ x h
/-- Lines out of bytes. -/
def parseN : Nat → List Nat → List S53
  | 0, _ => []
  | n + 1, b => ⟨((b.getD 0 0 : Nat) : Int), wrap64 ((val ((b.take 9).drop 1) : Nat) : Int)⟩ :: parseN n (b.drop 9)
def fine (x : S53) : Prop := (0 ≤ x.f0 ∧ x.f0 < 256) ∧ -9223372036854775808 ≤ x.f1 ∧ x.f1 ≤ 9223372036854775807
theorem parse_line (x : S53) (h : fine x) (t : List Nat) (n : Nat) : parseN (n + 1) (lineB x ++ t) = x :: parseN n t := by
  obtain ⟨⟨h1, h2⟩, h3, h4⟩ := h
  have hl := lineB_len x
  have e1 : (lineB x ++ t).drop 9 = t := by rw [← hl, List.drop_left]
  have e2 : (lineB x ++ t).take 9 = lineB x := by rw [← hl, List.take_left]
  have e3 : (lineB x).drop 1 = leb 8 (u64N x.f1) := rfl
  have e4 : (lineB x ++ t).getD 0 0 = (x.f0 % 256).toNat := rfl
  rw [parseN, e1, e2, e3, e4, val_leb]
  have e5 : u64N x.f1 % 256 ^ 8 = u64N x.f1 := by
    have : (256 : Nat) ^ 8 = 18446744073709551616 := by decide
    rw [this]
    unfold u64N
    omega
  rw [e5]
  have e6 : wrap64 ((u64N x.f1 : Nat) : Int) = x.f1 := by unfold u64N wrap64; omega
  rw [e6]
  have e7 : (((x.f0 % 256).toNat : Nat) : Int) = x.f0 := by omega
  rw [e7]
theorem parse_lines : ∀ (l : List S53), (∀ x ∈ l, fine x) → parseN l.length (linesB l) = l
  | [], _ => rfl
  | x :: t, h => by
    rw [linesB, List.length_cons, parse_line x (h x List.mem_cons_self), parse_lines t (fun y hy => h y (List.mem_cons_of_mem _ hy))]
theorem parse_back : ∀ (n : Nat) (b : List Nat), b.length = 9 * n → (∀ x ∈ b, x < 256) → linesB (parseN n b) = b
  | 0, b, h, _ => by
    have : b = [] := List.eq_nil_of_length_eq_zero (by omega)
    rw [this]; rfl
  | n + 1, b, h, hb => by
    have h9 : (b.take 9).length = 9 := by rw [List.length_take]; omega
    have ht : lineB ⟨((b.getD 0 0 : Nat) : Int), wrap64 ((val ((b.take 9).drop 1) : Nat) : Int)⟩ = b.take 9 := by
      have hd : ((b.take 9).drop 1).length = 8 := by rw [List.length_drop]; omega
      have hdl : ∀ x ∈ (b.take 9).drop 1, x < 256 := fun x hx => hb x (List.mem_of_mem_take (List.mem_of_mem_drop hx))
      have hv := val_lt _ hdl
      rw [hd] at hv
      have hp : (256 : Nat) ^ 8 = 18446744073709551616 := by decide
      rw [hp] at hv
      have h0 : b.getD 0 0 < 256 := by
        cases b with
        | nil => simp
        | cons c u => exact hb c List.mem_cons_self
      have e1 : u64N (wrap64 ((val ((b.take 9).drop 1) : Nat) : Int)) = val ((b.take 9).drop 1) := by
        unfold u64N wrap64; omega
      have e2 : ((((b.getD 0 0 : Nat) : Int)) % 256).toNat = b.getD 0 0 := by omega
      unfold lineB
      dsimp only
      rw [e1, e2]
      have := leb_val _ hdl
      rw [hd] at this
      rw [this]
      cases b with
      | nil => simp at h
      | cons c u => rfl
    rw [parseN, linesB, ht, parse_back n (b.drop 9) (by rw [List.length_drop]; omega) (fun x hx => hb x (List.mem_of_mem_drop hx)), List.take_append_drop]
theorem parseN_len : ∀ (n : Nat) (b : List Nat), (parseN n b).length = n
  | 0, _ => rfl
  | n + 1, b => by rw [parseN, List.length_cons, parseN_len]
/-- The accounts' names. -/
def nm (n : Int) : ByteArray := if n = 1 then ⟨#[99, 97, 115, 104]⟩ else if n = 2 then ⟨#[108, 111, 97, 110, 115]⟩ else if n = 3 then ⟨#[97, 108, 108, 111, 119, 97, 110, 99, 101]⟩ else if n = 4 then ⟨#[105, 110, 99, 111, 109, 101]⟩ else if n = 5 then ⟨#[101, 102, 102, 101, 99, 116, 115]⟩ else if n = 6 then ⟨#[105, 109, 112, 97, 105, 114, 101, 100]⟩ else if n = 7 then ⟨#[114, 101, 99, 111, 118, 101, 114, 101, 100]⟩ else ⟨#[]⟩
theorem find_acc (n : Int) : (chart_account_int.g ((chart_accounts.f).getD []) n).f1 = nm n := by
  unfold chart_account_int.g chart_accounts.f nm
  simp only [Option.getD_some, List.find?_cons]
  by_cases h1 : n = 1
  · subst h1; rfl
  by_cases h2 : n = 2
  · subst h2; rfl
  by_cases h3 : n = 3
  · subst h3; rfl
  by_cases h4 : n = 4
  · subst h4; rfl
  by_cases h5 : n = 5
  · subst h5; rfl
  by_cases h6 : n = 6
  · subst h6; rfl
  by_cases h7 : n = 7
  · subst h7; rfl
  have f : ∀ a : Int, n ≠ a → (a == n) = false := fun a h => by rw [beq_eq_false_iff_ne]; exact fun e => h e.symm
  simp only [f _ h1, f _ h2, f _ h3, f _ h4, f _ h5, f _ h6, f _ h7, if_neg h1, if_neg h2, if_neg h3, if_neg h4, if_neg h5, if_neg h6, if_neg h7]
  rfl
theorem Name_at (n : Int) : chart_Name.f n = some (nm n) := by
  rw [← find_acc]; rfl
theorem nm_empty (n : Int) : (nm n).toList = [] ↔ ¬ (1 ≤ n ∧ n ≤ 7) := by
  by_cases c : 1 ≤ n ∧ n ≤ 7
  · have : n = 1 ∨ n = 2 ∨ n = 3 ∨ n = 4 ∨ n = 5 ∨ n = 6 ∨ n = 7 := by omega
    rcases this with rfl | rfl | rfl | rfl | rfl | rfl | rfl <;> simp [nm, ByteArray.toList_eq]
  · have : nm n = ⟨#[]⟩ := by
      unfold nm
      rw [if_neg (by omega), if_neg (by omega), if_neg (by omega), if_neg (by omega), if_neg (by omega), if_neg (by omega), if_neg (by omega)]
    rw [this]
    simp only [c, not_false_iff, iff_true]
    rw [ByteArray.toList_eq]
theorem rd48 (l : List S59) (i : Nat) (h : i < l.length) : rd_T59 l (i : Int) = l[i] := by simp [rd_T59, List.getElem?_eq_getElem h]
theorem rd45 (l : List S53) (i : Nat) (h : i < l.length) : rd_T53 l (i : Int) = l[i] := by simp [rd_T53, List.getElem?_eq_getElem h]
def good (x : S53) : Prop := (1 ≤ x.f0 ∧ x.f0 ≤ 7) ∧ -1125899906842624 ≤ x.f1 ∧ x.f1 ≤ 1125899906842624 ∧ x.f1 ≠ 0
instance (x : S53) : Decidable (good x) := by unfold good; infer_instance
def chkGo : List S53 → Int → Int
  | [], s => if s = 0 then 0 else 2
  | x :: t, s => if good x then chkGo t (s + x.f1) else 2
def chk (l : List S53) : Int := if l.length > 64 then 10 else if l = [] then 2 else chkGo l 0
theorem Check_l0 (l : List S53) (hl : l.length ≤ 64) : ∀ (k i : Nat) (s : Int), i ≤ l.length → l.length < k + i → -(i * 1125899906842624 : Int) ≤ s → s ≤ i * 1125899906842624 →
    chart_Check.l0 k s l (l.length : Int) (i : Int) = some (chkGo (l.drop i) s) := by
  intro k
  induction k with
  | zero => intro i s h1 h2; omega
  | succ k ih =>
    intro i s h1 h2 h3 h4
    by_cases c : i < l.length
    · rw [chart_Check.l0, if_pos (by omega), if_pos (by omega), if_pos (by omega), rd45 l i c, Name_at, Option.bind_some, w64 (x := (i : Int) + 1) (by omega) (by omega), List.drop_eq_getElem_cons c, chkGo]
      by_cases c1 : 1 ≤ l[i].f0 ∧ l[i].f0 ≤ 7
      · rw [if_neg (fun z => (nm_empty _).mp z c1)]
        by_cases c2 : l[i].f1 = 0
        · rw [if_pos c2, if_neg (fun h => h.2.2.2 c2)]
        · rw [if_neg c2]
          by_cases c3 : l[i].f1 < -1125899906842624
          · rw [if_pos c3, if_neg (fun h => by have := h.2.1; omega)]
          · rw [if_neg c3]
            by_cases c4 : l[i].f1 > 1125899906842624
            · rw [if_pos c4, if_neg (fun h => by have := h.2.2.1; omega)]
            · rw [if_neg c4, if_pos ⟨c1, by omega, by omega, c2⟩, w64 (by omega) (by omega)]
              have := ih (i + 1) (s + l[i].f1) (by omega) (by omega) (by rw [Int.natCast_add, Int.add_mul]; omega) (by rw [Int.natCast_add, Int.add_mul]; omega)
              rw [Int.natCast_add, Int.natCast_one] at this
              exact this
      · rw [if_pos ((nm_empty _).mpr c1), if_neg (fun h => c1 h.1)]
    · rw [chart_Check.l0, if_neg (by omega), List.drop_of_length_le (by omega), chkGo]
      by_cases z : s = 0
      · rw [if_pos z, if_pos z]
      · rw [if_neg z, if_neg z]
theorem Check_at (k : Nat) (l : List S53) (hk : 65 ≤ k) : chart_Check.f k l = some (chk l) := by
  unfold chart_Check.f chk
  by_cases c : l.length > 64
  · rw [if_pos (by omega), if_pos c]
  · rw [if_neg (by omega), if_neg c]
    by_cases d : l = []
    · subst d; rfl
    · have : l.length ≠ 0 := fun h => d (List.eq_nil_of_length_eq_zero h)
      rw [if_neg (by omega), if_neg d]
      have := Check_l0 l (by omega) k 0 0 (by omega) (by omega) (by omega) (by omega)
      simpa using this

/-- May a batch be? -/
def bchk (seq ev : Int) (l : List S53) : Int := if seq < 0 ∨ 2147483647 < seq ∨ ev < 0 ∨ 2147483647 < ev then 2 else if (l.length : Int) = 0 then 0 else chk l
theorem bCheck_at (k : Nat) (seq ev : Int) (l : List S53) (hk : 65 ≤ k) : batch_Check.f k seq ev l = some (bchk seq ev l) := by
  unfold batch_Check.f bchk
  by_cases c : seq < 0 ∨ 2147483647 < seq ∨ ev < 0 ∨ 2147483647 < ev
  · rw [if_pos c, if_pos c]
  · rw [if_neg c, if_neg c]
    by_cases d : (l.length : Int) = 0
    · rw [if_pos d, if_pos d]
    · rw [if_neg d, if_neg d, Check_at k l hk]
theorem bchk_len {seq ev : Int} {l : List S53} (h : bchk seq ev l = 0) : l.length ≤ 64 := by
  unfold bchk at h
  split at h
  · exact absurd h (by decide)
  · split at h
    · omega
    · unfold chk at h
      split at h
      · exact absurd h (by decide)
      · omega
theorem chkGo_fine : ∀ (l : List S53) (s : Int), chkGo l s = 0 → ∀ x ∈ l, fine x
  | [], _, _, x, h => by cases h
  | y :: t, s, h, x, hx => by
    rw [chkGo] at h
    by_cases c : good y
    · rw [if_pos c] at h
      rcases List.mem_cons.mp hx with rfl | hx
      · obtain ⟨⟨c1, c2⟩, c3, c4, c5⟩ := c
        exact ⟨⟨by omega, by omega⟩, by omega, by omega⟩
      · exact chkGo_fine t _ h x hx
    · rw [if_neg c] at h; exact absurd h (by decide)
theorem bchk_zero {seq ev : Int} {l : List S53} (h : bchk seq ev l = 0) : (0 ≤ seq ∧ seq ≤ 2147483647 ∧ 0 ≤ ev ∧ ev ≤ 2147483647) ∧ ∀ x ∈ l, fine x := by
  unfold bchk at h
  by_cases c : seq < 0 ∨ 2147483647 < seq ∨ ev < 0 ∨ 2147483647 < ev
  · rw [if_pos c] at h; exact absurd h (by decide)
  · rw [if_neg c] at h
    refine ⟨by omega, ?_⟩
    by_cases d : (l.length : Int) = 0
    · have : l = [] := List.eq_nil_of_length_eq_zero (by omega)
      rw [this]; intro x hx; cases hx
    · rw [if_neg d] at h
      unfold chk at h
      split at h
      · exact absurd h (by decide)
      · split at h
        · exact absurd h (by decide)
        · exact chkGo_fine l 0 h

end Go.Proofs.Ytepgponpnijonaa.Print
