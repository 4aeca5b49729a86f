/- Sums belong to bytes one by one: two rows of bytes have, bit by bit, the sum of what they have together, and of nothing. For any two rows of bytes. -/
import Derived.Test.YtepgponpnijonaaStBatchSums
import Derived.Test.YtepgponpnijonaaAidH
namespace Go.Proofs.Ytepgponpnijonaa.Print
open Go.RowKit Go.Proofs.YtepgponpnijonaaW.PrintWords Go.Proofs.YtepgponpnijonaaW.PrintLast Go.Proofs.YtepgponpnijonaaW.PrintMore
set_option linter.unusedVariables false
set_option linter.unusedSimpArgs false

def both (a b : List Nat) : List Nat := List.zipWith (· ^^^ ·) a b
theorem both_len (a b : List Nat) (h : a.length = b.length) : (both a b).length = a.length := by simp [both, h]
theorem both_lt {a b : List Nat} (ha : ∀ x ∈ a, x < 256) (hb : ∀ x ∈ b, x < 256) : ∀ x ∈ both a b, x < 256 := by
  induction a generalizing b with
  | nil => intro x hx; simp [both] at hx
  | cons c t ih =>
    cases b with
    | nil => intro x hx; simp [both] at hx
    | cons d u =>
      intro x hx
      rw [both, List.zipWith_cons_cons] at hx
      rcases List.mem_cons.mp hx with rfl | hx
      · have : c ^^^ d < 2 ^ 8 := Nat.xor_lt_two_pow (ha c List.mem_cons_self) (hb d List.mem_cons_self)
        omega
      · exact ih (fun y hy => ha y (List.mem_cons_of_mem _ hy)) (fun y hy => hb y (List.mem_cons_of_mem _ hy)) x hx
theorem both_zero (a : List Nat) : both a (List.replicate a.length 0) = a := by
  induction a with
  | nil => rfl
  | cons c t ih =>
    rw [List.length_cons, List.replicate_succ, both, List.zipWith_cons_cons, Nat.xor_zero]
    unfold both at ih
    rw [ih]
theorem sums (a b : List Nat) (h : a.length = b.length) : sumN a ^^^ sumN b = sumN (both a b) ^^^ sumN (List.replicate a.length 0) := by
  have h1 := crcN_xor a b 4294967295 4294967295 h
  have h2 := crcN_xor (both a b) (List.replicate a.length 0) 4294967295 4294967295 (by rw [both_len a b h]; simp)
  have h3 : both (both a b) (List.replicate a.length 0) = both a b := by
    have := both_zero (both a b)
    rw [both_len a b h] at this
    exact this
  unfold both at h3 h2
  rw [h3, Nat.xor_self] at h2
  rw [Nat.xor_self] at h1
  have key : crcN a 4294967295 ^^^ crcN b 4294967295 = crcN (both a b) 4294967295 ^^^ crcN (List.replicate a.length 0) 4294967295 := h1.symm.trans h2
  have e : ∀ m x y : Nat, (m ^^^ x) ^^^ (m ^^^ y) = x ^^^ y := fun m x y => by
    rw [Nat.xor_assoc, Nat.xor_comm m y, ← Nat.xor_assoc x, Nat.xor_comm (x ^^^ y) m, ← Nat.xor_assoc, Nat.xor_self, Nat.zero_xor]
  unfold sumN
  rw [e, e, key]
def upto (a b : List Nat) (n i : Nat) : List Nat := both (a.take i) (b.take i) ++ List.replicate (n - i) 0
theorem upto_next (a b : List Nat) (n i : Nat) (hn : i < n) (ha : i < a.length) (hb : i < b.length) : (upto a b n i).set i (a[i] ^^^ b[i]) = upto a b n (i + 1) := by
  unfold upto both
  have hl : (List.zipWith (· ^^^ ·) (a.take i) (b.take i)).length = i := by simp; omega
  rw [List.set_append_right _ _ (by omega), hl, Nat.sub_self, show n - i = (n - (i + 1)) + 1 by omega, List.replicate_succ, List.set_cons_zero, List.take_succ_eq_append_getElem ha, List.take_succ_eq_append_getElem hb,
    List.zipWith_append (by simp; omega), List.append_assoc]
  rfl
theorem upto_zero (a b : List Nat) (n : Nat) : upto a b n 0 = List.replicate n 0 := rfl
theorem upto_len (a b : List Nat) (n i : Nat) (hi : i ≤ n) (ha : i ≤ a.length) (hb : i ≤ b.length) : (upto a b n i).length = n := by
  unfold upto both; simp; omega
theorem sums_l0 (a b : List Nat) (ha : ∀ x ∈ a, x < 256) (hb : ∀ x ∈ b, x < 256) (n : Nat) (hn : n ≤ 500) (hna : n ≤ a.length) (hnb : n ≤ b.length) (m : Nat) : ∀ (d i : Nat), i + d = n →
    lombardlaw18_BatchSums.l0 (m + d + 1) (ints a) (ints b) (n : Int) (ints (upto a b n i)) (ints (List.replicate n 0)) (n : Int) (i : Int) = some true := by
  intro d
  induction d with
  | zero =>
    intro i hi
    obtain rfl : i = n := by omega
    have ta : ∀ x ∈ a.take i, x < 256 := fun x hx => ha x (List.mem_of_mem_take hx)
    have tb : ∀ x ∈ b.take i, x < 256 := fun x hx => hb x (List.mem_of_mem_take hx)
    have la : (a.take i).length = i := by rw [List.length_take]; omega
    have lb : (b.take i).length = i := by rw [List.length_take]; omega
    have hu : upto a b i i = both (a.take i) (b.take i) := by unfold upto; rw [Nat.sub_self]; simp
    have hz : ∀ x ∈ List.replicate i 0, x < 256 := fun x hx => by rw [List.eq_of_mem_replicate hx]; decide
    have hs := sums (a.take i) (b.take i) (by rw [la, lb])
    rw [la] at hs
    have hbl := both_len (a.take i) (b.take i) (by rw [la, lb])
    rw [lombardlaw18_BatchSums.l0, if_neg (by omega), if_pos (by omega), if_pos (by rw [ints_len]; omega), Int.toNat_natCast, ints_take, Sum_at _ ta (by omega), Option.bind_some, if_pos (by rw [ints_len]; omega), ints_take, Sum_at _ tb (by omega), Option.bind_some,
      hu, Sum_at _ (both_lt ta tb) (by omega), Option.bind_some, Sum_at _ hz (by simp; omega), Option.bind_some, xor32 _ _ (sumN_lt _ ta) (sumN_lt _ tb), xor32 _ _ (sumN_lt _ (both_lt ta tb)) (sumN_lt _ hz), hs]
    simp
  | succ d ih =>
    intro i hi
    have hul := upto_len a b n i (by omega) (by omega) (by omega)
    rw [lombardlaw18_BatchSums.l0, if_pos (by omega), if_pos (by omega), if_pos (by rw [ints_len]; omega), if_pos (by rw [ints_len]; omega), if_pos (by rw [ints_len]; omega), Int.toNat_natCast, rd_ints a i (by omega), rd_ints b i (by omega),
      xor8 _ _ (ha _ (List.getElem_mem _)) (hb _ (List.getElem_mem _)), w64 (by omega) (by omega), show ((i : Int) + 1) = ((i + 1 : Nat) : Int) by omega]
    have hset : (ints (upto a b n i)).set i ((a[i] ^^^ b[i] : Nat) : Int) = ints (upto a b n (i + 1)) := by
      rw [← upto_next a b n i (by omega) (by omega) (by omega)]
      unfold ints; rw [List.map_set]
    rw [hset, show m + (d + 1) = m + d + 1 from rfl, ih (i + 1) (by omega)]
theorem mn_nat (a b : Nat) : mn (a : Int) (b : Int) = ((min a b : Nat) : Int) := by
  unfold mn
  split <;> omega
theorem Pure.BatchSums : BatchSumsPure := by
  intro x y wx wy
  obtain ⟨a, rfl, hal, ha⟩ := ints_of x (bytes_wf wx.2)
  obtain ⟨b, rfl, hbl, hb⟩ := ints_of y (bytes_wf wy.2)
  refine ⟨2000, ?_⟩
  unfold lombardlaw18_BatchSums.f
  rw [alive_at _ (by omega), Option.bind_some, if_pos rfl, ints_len, ints_len, mn_nat]
  have e5 : mn ((min a.length b.length : Nat) : Int) 500 = ((min (min a.length b.length) 500 : Nat) : Int) := mn_nat _ 500
  rw [e5]
  have h1 : min (min a.length b.length) 500 ≤ 500 := Nat.min_le_right _ _
  have h2 : min (min a.length b.length) 500 ≤ a.length := Nat.le_trans (Nat.min_le_left _ _) (Nat.min_le_left _ _)
  have h3 : min (min a.length b.length) 500 ≤ b.length := Nat.le_trans (Nat.min_le_left _ _) (Nat.min_le_right _ _)
  generalize min (min a.length b.length) 500 = n at h1 h2 h3
  have hr : (List.replicate n 0 : List Int) = ints (List.replicate n 0) := by unfold ints; rw [List.map_replicate]; rfl
  rw [Int.toNat_natCast, if_pos (by omega), if_pos (by omega), hr]
  have := sums_l0 a b ha hb n h1 h2 h3 (1999 - n) n 0 (by omega)
  rw [upto_zero, show 1999 - n + n + 1 = 2000 by omega] at this
  exact this

end Go.Proofs.Ytepgponpnijonaa.Print
