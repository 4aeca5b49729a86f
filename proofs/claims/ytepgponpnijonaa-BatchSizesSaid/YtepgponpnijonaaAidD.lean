import Derived.Test.YtepgponpnijonaaPrint15
import Derived.Test.YtepgponpnijonaaAidC
namespace Go.Proofs.Ytepgponpnijonaa.Print
open Go.RowKit Go.Proofs.YtepgponpnijonaaW.PrintWords Go.Proofs.YtepgponpnijonaaW.PrintLast Go.Proofs.YtepgponpnijonaaW.PrintMore
set_option linter.unusedVariables false
set_option linter.unusedSimpArgs false

/-! the document's sum: bit by bit -/
theorem rSum_l1 (l : List Nat) (hl : l.length ≤ 1000000) (c : Nat) (hc : c < 256) (j : Nat) (m : Nat) : ∀ (d i n : Nat), i + d = 8 → n < 2 ^ 32 →
    lombardref18_Sum.l1 (m + d + 1) (n : Int) (c : Int) (i : Int) (ints l) ((ints l).length : Int) (j : Int) = lombardref18_Sum.l0 m ((stepsN d (n ^^^ c / 2 ^ i) ^^^ c / 2 ^ 8 : Nat) : Int) (ints l) ((ints l).length : Int) (wrap64 ((j : Int) + 1)) := by
  intro d
  induction d with
  | zero =>
    intro i n hi hn
    obtain rfl : i = 8 := by omega
    rw [lombardref18_Sum.l1, if_neg (by omega)]
    congr 2
    rw [stepsN, Nat.xor_assoc, Nat.xor_self, Nat.xor_zero]
  | succ d ih =>
    intro i n hi hn
    have hs : shr .u32 ((c : Int) % 4294967296) (IntKind.u64.wrap (i : Int)) = ((c / 2 ^ i : Nat) : Int) := by
      rw [u64w (by omega) (by omega)]
      unfold shr
      have e1 : (c : Int) % 4294967296 = (c : Int) := by omega
      have e2 : min ((i : Int)).toNat IntKind.u32.bits = i := by
        have : IntKind.u32.bits = 32 := rfl
        rw [Int.toNat_natCast]; omega
      rw [e1, e2]
      simp
    have hci : c / 2 ^ i < 2 ^ 32 := Nat.lt_of_le_of_lt (Nat.div_le_self _ _) (by omega)
    have hdiv : c / 2 ^ (i + 1) = c / 2 ^ i / 2 := by rw [Nat.pow_succ, Nat.div_div_eq_div_mul]
    rw [lombardref18_Sum.l1, if_pos (by omega), if_pos (by rw [u64w (by omega) (by omega)]; omega), hs, xor32 n _ hn hci, and1 _ (Nat.xor_lt_two_pow hn hci), w64 (x := (i : Int) + 1) (by omega) (by omega)]
    have e2 : (n : Int) / 2 = ((n / 2 : Nat) : Int) := by omega
    have e1 : ((i : Int) + 1) = ((i + 1 : Nat) : Int) := by omega
    have hstep : ∀ x : Nat, stepsN (d + 1) x = stepsN d (stepN x) := by
      clear ih hi
      induction d with
      | zero => intro x; rfl
      | succ d ih => intro x; rw [stepsN, ih, ← stepsN]
    rw [e2, e1, show m + (d + 1) = m + d + 1 from rfl, hstep]
    by_cases b : (n ^^^ c / 2 ^ i) % 2 = 1
    · rw [if_pos (by rw [b]; rfl), show (3988292384 : Int) = ((P32 : Nat) : Int) from rfl, xor32 _ _ (by omega) (by decide), ih (i + 1) _ (by omega) (Nat.xor_lt_two_pow (by omega) (by decide))]
      have : n / 2 ^^^ P32 ^^^ c / 2 ^ (i + 1) = stepN (n ^^^ c / 2 ^ i) := by
        unfold stepN
        rw [if_pos b, xor_div2, hdiv, Nat.xor_assoc, Nat.xor_comm P32, ← Nat.xor_assoc]
      rw [this]
    · rw [if_neg (by omega), ih (i + 1) _ (by omega) (by omega)]
      have : n / 2 ^^^ c / 2 ^ (i + 1) = stepN (n ^^^ c / 2 ^ i) := by
        unfold stepN
        rw [if_neg b, xor_div2, hdiv, Nat.xor_zero]
      rw [this]
theorem rSum_l0 (l : List Nat) (hl : l.length ≤ 1000000) (hb : ∀ x ∈ l, x < 256) (m : Nat) : ∀ (d j n : Nat), j + d = l.length → n < 2 ^ 32 →
    lombardref18_Sum.l0 (m + 10 * d + 1) (n : Int) (ints l) ((ints l).length : Int) (j : Int) = some ((crcN (l.drop j) n ^^^ 4294967295 : Nat) : Int) := by
  intro d
  induction d with
  | zero =>
    intro j n hj hn
    rw [lombardref18_Sum.l0, if_neg (by rw [ints_len]; omega), List.drop_of_length_le (by omega)]
    have := xor32 n 4294967295 hn (by decide)
    rw [show ((4294967295 : Nat) : Int) = 4294967295 from rfl] at this
    rw [this]; rfl
  | succ d ih =>
    intro j n hj hn
    have c : j < l.length := by omega
    have hc : l[j] < 256 := hb _ (List.getElem_mem c)
    have h1 := rSum_l1 l hl l[j] hc j (m + 10 * d + 1) 8 0 n rfl hn
    rw [Nat.pow_zero, Nat.div_one, show l[j] / 2 ^ 8 = 0 by omega, Nat.xor_zero] at h1
    rw [lombardref18_Sum.l0, if_pos (by rw [ints_len]; omega), if_pos (by omega), if_pos (by rw [ints_len]; omega), rd_ints l j c, show m + 10 * (d + 1) = m + 10 * d + 1 + 8 + 1 by omega]
    simp only [Int.natCast_zero] at h1
    rw [h1, w64 (x := (j : Int) + 1) (by omega) (by omega), show ((j : Int) + 1) = ((j + 1 : Nat) : Int) by omega, ih (j + 1) _ (by omega) (stepsN_lt (Nat.xor_lt_two_pow hn (by omega))), List.drop_eq_getElem_cons c]
    rfl
theorem rSum_at (k : Nat) (l : List Nat) (hl : l.length ≤ 1000000) (hb : ∀ x ∈ l, x < 256) (hk : 10 * l.length + 1 ≤ k) : lombardref18_Sum.f k (ints l) = some ((sumN l : Nat) : Int) := by
  obtain ⟨m, rfl⟩ : ∃ m, k = m + 10 * l.length + 1 := ⟨k - 10 * l.length - 1, by omega⟩
  have := rSum_l0 l hl hb m l.length 0 4294967295 (by omega) (by decide)
  unfold lombardref18_Sum.f
  simp only [Int.natCast_zero] at this
  rw [show ((4294967295 : Nat) : Int) = 4294967295 from rfl] at this
  rw [this, List.drop_zero]
  unfold sumN
  rw [Nat.xor_comm]
theorem number_l0 (v sz : Nat) (hs : sz ≤ 8) (m : Nat) : ∀ (d i : Nat) (acc : List Nat), i + d = sz → acc.length + d ≤ 1000000000 →
    lombardref18_number.l0 (m + d + 1) (v : Int) (sz : Int) (ints acc) (i : Int) = some (ints (acc ++ leb d (v / 256 ^ i))) := by
  intro d
  induction d with
  | zero =>
    intro i acc hi ha
    rw [lombardref18_number.l0, if_neg (by omega), leb, List.append_nil]
  | succ d ih =>
    intro i acc hi ha
    have e8 : IntKind.u64.wrap (wrap64 (8 * (i : Int))) = ((8 * i : Nat) : Int) := by rw [w64 (by omega) (by omega), u64w (by omega) (by omega)]; omega
    rw [lombardref18_number.l0, if_pos (by omega), e8, if_pos (by omega), if_pos (by rw [ints_len]; omega), shr_at v i (by omega), w64 (x := (i : Int) + 1) (by omega) (by omega), show ((i : Int) + 1) = ((i + 1 : Nat) : Int) by omega]
    have eb : [((v / 256 ^ i : Nat) : Int) % 256] = ints [v / 256 ^ i % 256] := by simp [ints]
    rw [eb, ints_append, show m + (d + 1) = m + d + 1 from rfl, ih (i + 1) _ (by omega) (by simp; omega), leb, pow_next, List.append_assoc]
    rfl
theorem number_at (k : Nat) (v sz : Nat) (hs : sz ≤ 8) (hk : 9 ≤ k) : lombardref18_number.f k (v : Int) (sz : Int) = some (ints (leb sz v)) := by
  obtain ⟨m, rfl⟩ : ∃ m, k = m + sz + 1 := ⟨k - sz - 1, by omega⟩
  have := number_l0 v sz hs m sz 0 [] (by omega) (by simp; omega)
  rw [Nat.pow_zero, Nat.div_one, List.nil_append] at this
  exact this
end Go.Proofs.Ytepgponpnijonaa.Print
