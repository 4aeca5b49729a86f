import Derived.Test.YtepgponpnijonaaPrint10
import Derived.Test.YtepgponpnijonaaPrint11
import Derived.Test.YtepgponpnijonaaPrint17
import Derived.Test.YtepgponpnijonaaAidA
namespace Go.Proofs.Ytepgponpnijonaa.Print
open Go.RowKit Go.Proofs.YtepgponpnijonaaW.PrintWords Go.Proofs.YtepgponpnijonaaW.PrintLast Go.Proofs.YtepgponpnijonaaW.PrintMore
set_option linter.unusedVariables false
set_option linter.unusedSimpArgs false

theorem u64w {n : Int} (h0 : 0 ≤ n) (h1 : n < 18446744073709551616) : IntKind.u64.wrap n = n := by
  show n % 18446744073709551616 = n
  omega
theorem ints_len (l : List Nat) : (ints l).length = l.length := by simp [ints]
theorem ints_append (a b : List Nat) : ints a ++ ints b = ints (a ++ b) := by simp [ints]
theorem rd_ints (l : List Nat) (i : Nat) (h : i < l.length) : rd (ints l) (i : Int) = ((l[i] : Nat) : Int) := by
  simp [rd, ints, List.getElem?_eq_getElem h]
/-! numbers as bytes -/
def leb : Nat → Nat → List Nat
  | 0, _ => []
  | k + 1, n => n % 256 :: leb k (n / 256)
def val : List Nat → Nat
  | [] => 0
  | b :: t => b + 256 * val t
theorem leb_len : ∀ k n, (leb k n).length = k
  | 0, _ => rfl
  | k + 1, n => by rw [leb, List.length_cons, leb_len]
theorem leb_lt : ∀ k n, ∀ x ∈ leb k n, x < 256
  | 0, _, x, h => by cases h
  | k + 1, n, x, h => by
    rw [leb] at h
    rcases List.mem_cons.mp h with rfl | h
    · omega
    · exact leb_lt k _ x h
theorem val_leb : ∀ k n, val (leb k n) = n % 256 ^ k
  | 0, n => by rw [leb, val, Nat.pow_zero, Nat.mod_one]
  | k + 1, n => by rw [leb, val, val_leb k, Nat.pow_succ, Nat.mul_comm (256 ^ k) 256, Nat.mod_mul]
theorem leb_val : ∀ l : List Nat, (∀ x ∈ l, x < 256) → leb l.length (val l) = l
  | [], _ => rfl
  | b :: t, h => by
    have hb := h b List.mem_cons_self
    rw [List.length_cons, leb, val, show (b + 256 * val t) % 256 = b by omega, show (b + 256 * val t) / 256 = val t by omega, leb_val t (fun x hx => h x (List.mem_cons_of_mem _ hx))]
theorem val_lt : ∀ l : List Nat, (∀ x ∈ l, x < 256) → val l < 256 ^ l.length
  | [], _ => by simp [val]
  | b :: t, h => by
    have hb := h b List.mem_cons_self
    have := val_lt t (fun x hx => h x (List.mem_cons_of_mem _ hx))
    rw [val, List.length_cons, Nat.pow_succ]; omega
theorem val_append (a b : List Nat) : val (a ++ b) = val a + 256 ^ a.length * val b := by
  induction a with
  | nil => simp [val]
  | cons x t ih => rw [List.cons_append, val, ih, val, List.length_cons, Nat.pow_succ, Nat.mul_add]; rw [← Nat.mul_assoc, Nat.mul_comm 256 (256 ^ t.length)]; omega
theorem shr_at (n i : Nat) (hi : i ≤ 8) : shr .u64 (n : Int) ((8 * i : Nat) : Int) = ((n / 256 ^ i : Nat) : Int) := by
  unfold shr
  have e : min ((8 * i : Nat) : Int).toNat IntKind.u64.bits = 8 * i := by
    have : IntKind.u64.bits = 64 := rfl
    rw [Int.toNat_natCast]; omega
  rw [e, show (256 : Nat) = 2 ^ 8 from rfl, ← Nat.pow_mul]
  simp
theorem pow_next (n i : Nat) : n / 256 ^ i / 256 = n / 256 ^ (i + 1) := by rw [Nat.div_div_eq_div_mul, Nat.pow_succ]
end Go.Proofs.Ytepgponpnijonaa.Print
