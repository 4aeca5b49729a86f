-- written by this session's program wip/hybrid.py over the kit's printer, and by hand. Not trusted: Lean checks it.
import Derived.Test.YtgeeffnokedllaaPrint0
import Derived.Test.YtgeeffnokedllaaPrint1
import Derived.Test.YtgeeffnokedllaaPrint6
import Derived.Test.YtgeeffnokedllaaPrint12
import Derived.Test.YtgeeffnokedllaaPrint19
import Derived.Test.YtgeeffnokedllaaPrint20
namespace Go.Proofs.Ytgeeffnokedllaa.Print
open Go.RowKit Go.Proofs.YtgeeffnokedllaaW.PrintWords Go.Proofs.YtgeeffnokedllaaW.PrintLast Go.Proofs.YtgeeffnokedllaaW.PrintMore
attribute [local go_sem] max2_int min2_int max_two min_two max_three min_three max_four min_four   -- for this text's walks alone
set_option linter.unusedVariables false
set_option linter.unusedSimpArgs false

/-! ### lombardref16_Net: function 15 -/
theorem rn_w64 {x : Int} (h0 : -9223372036854775808 ≤ x) (h1 : x ≤ 9223372036854775807) : wrap64 x = x := by unfold wrap64; omega
def rn_inr (x : Int) : Prop := -9223372036854775808 ≤ x ∧ x ≤ 9223372036854775807
instance (x : Int) : Decidable (rn_inr x) := by unfold rn_inr; infer_instance
def rn_told (t : Int) : Int × Int := if rn_inr t then (t, 0) else (0, 3)
theorem rn_told_in {t : Int} (h0 : -9223372036854775808 ≤ t) (h1 : t ≤ 9223372036854775807) : rn_told t = (t, 0) := by unfold rn_told; rw [if_pos ⟨h0, h1⟩]
theorem rn_told_out {t : Int} (h : t < -9223372036854775808 ∨ 9223372036854775807 < t) : rn_told t = (0, 3) := by
  unfold rn_told; rw [if_neg (fun z => by obtain ⟨z1, z2⟩ := z; omega)]
theorem rn_Add_at (a b : Int) (ha : rn_inr a) (hb : rn_inr b) : lombardref01_Add.f a b = some (rn_told (a + b)) := by
  obtain ⟨a1, a2⟩ := ha
  obtain ⟨b1, b2⟩ := hb
  unfold lombardref01_Add.f
  by_cases c : b > 0
  · rw [if_pos c, rn_w64 (by omega) (by omega)]
    by_cases d : a > 9223372036854775807 - b
    · rw [if_pos d, rn_told_out (by omega)]
    · rw [if_neg d, if_neg (by omega), rn_told_in (by omega) (by omega), rn_w64 (by omega) (by omega)]
  · rw [if_neg c]
    by_cases e : b < 0
    · rw [if_pos e, rn_w64 (x := -9223372036854775808 - b) (by omega) (by omega)]
      by_cases d : a < -9223372036854775808 - b
      · rw [if_pos d, rn_told_out (by omega)]
      · rw [if_neg d, rn_told_in (by omega) (by omega), rn_w64 (by omega) (by omega)]
    · rw [if_neg e, rn_told_in (by omega) (by omega), rn_w64 (by omega) (by omega)]
/-- Of another sign. -/
def opp (n x : Int) : Prop := ¬ (x < 0 ↔ n < 0)
theorem opp_iff (n x : Int) : ((decide (x < 0)) != (decide (n < 0))) = true ↔ opp n x := by
  unfold opp
  by_cases a : x < 0 <;> by_cases b : n < 0 <;> simp [a, b]
theorem sum_erase (l : List Int) (i : Nat) (h : i < l.length) : l[i] + (l.eraseIdx i).sum = l.sum := by
  induction l generalizing i with
  | nil => simp at h
  | cons a t ih =>
    cases i with
    | zero => simp
    | succ i =>
      have := ih i (by simpa using h)
      simp only [List.eraseIdx_cons_succ, List.sum_cons, List.getElem_cons_succ]
      omega
theorem sum_sign (l : List Int) : ((∀ x ∈ l, 0 ≤ x) → 0 ≤ l.sum) ∧ ((∀ x ∈ l, x ≤ 0) → l.sum ≤ 0) := by
  induction l with
  | nil => simp
  | cons a t ih =>
    simp only [List.mem_cons, forall_eq_or_imp, List.sum_cons]
    exact ⟨fun h => by have := ih.1 h.2; omega, fun h => by have := ih.2 h.2; omega⟩
theorem rd_at (l : List Int) (i : Nat) (h : i < l.length) : rd l (i : Int) = l[i] := by simp [rd, List.getElem?_eq_getElem h]
/-- The inner loop looks for one of another sign; what follows is the outer loop's next round. -/
theorem Sum_l1 (l : List Int) (n : Int) (hl : l.length ≤ 8796093022208) : ∀ (k i at_ : Nat), i ≤ l.length → at_ < l.length → l.length < k + i →
    (opp n (l.getD at_ 0) ∨ ∀ j, j < i → ¬ opp n (l.getD j 0)) →
    ∃ a, a < l.length ∧ (opp n (l.getD a 0) ∨ ∀ j, j < l.length → ¬ opp n (l.getD j 0)) ∧ ∃ k', k ≤ k' + (l.length - i) + 1 ∧ 
      lombardref01_Sum.l1 k l n (at_ : Int) l (l.length : Int) (i : Int) = ((lombardref01_Add.f n (l.getD a 0)).bind fun bt => (if bt.2 = 0 then lombardref01_Sum.l0 k' (l.eraseIdx a) bt.1 else some (0, bt.2))) := by
  intro k
  induction k with
  | zero => intro i a h1 h2 h3; omega
  | succ k ih =>
    intro i a h1 h2 h3 h4
    by_cases c : i < l.length
    · have e : rd l (i : Int) = l.getD i 0 := by rw [rd_at l i c, List.getD_eq_getElem?_getD, List.getElem?_eq_getElem c]; rfl
      rw [lombardref01_Sum.l1, if_pos (by omega), if_pos (by omega), if_pos (by omega), rn_w64 (by omega) (by omega), e]
      have hn : ((i : Int) + 1) = ((i + 1 : Nat) : Int) := by omega
      rw [hn]
      by_cases o : opp n (l.getD i 0)
      · rw [if_pos ((opp_iff _ _).mpr o)]
        obtain ⟨b, hb, hb2, k', hk', he⟩ := ih (i + 1) i (by omega) c (by omega) (.inl o)
        exact ⟨b, hb, hb2, k', by omega, he⟩
      · rw [if_neg (fun z => o ((opp_iff _ _).mp z))]
        obtain ⟨b, hb, hb2, k', hk', he⟩ := ih (i + 1) a (by omega) h2 (by omega) (h4.imp id fun h j hj => by
          by_cases e : j < i
          · exact h j e
          · obtain rfl : j = i := by omega
            exact o)
        exact ⟨b, hb, hb2, k', by omega, he⟩
    · obtain rfl : i = l.length := by omega
      refine ⟨a, h2, h4, k, by omega, ?_⟩
      have e : rd l (a : Int) = l.getD a 0 := by rw [rd_at l a h2, List.getD_eq_getElem?_getD, List.getElem?_eq_getElem h2]; rfl
      rw [lombardref01_Sum.l1, if_neg (by omega), if_pos (by omega), if_pos (by omega), e, rn_w64 (x := (a : Int) + 1) (by omega) (by omega)]
      simp only [if_pos (show (a : Int) ≤ l.length by omega), if_pos (show (0 : Int) ≤ (a : Int) + 1 by omega), if_pos (show (a : Int) + 1 ≤ l.length by omega), Int.toNat_natCast]
theorem Sum_l0 : ∀ (m : Nat) (l : List Int) (n : Int) (k : Nat), l.length = m → m ≤ 1000000 → rn_inr n → (∀ x ∈ l, rn_inr x) → (m + 2) * (m + 2) ≤ k → lombardref01_Sum.l0 k l n = some (rn_told (n + l.sum)) := by
  intro m
  induction m with
  | zero =>
    intro l n k hm _ hn hx hk
    obtain rfl : l = [] := List.eq_nil_of_length_eq_zero hm
    obtain ⟨k, rfl⟩ : ∃ j, k = j + 1 := ⟨k - 1, by omega⟩
    rw [lombardref01_Sum.l0, if_neg (by simp)]
    simp [rn_told, hn]
  | succ m ih =>
    intro l n k hm hm1 hn hx hk
    obtain ⟨k, rfl⟩ : ∃ j, k = j + 1 := ⟨k - 1, by have : 0 < (m + 1 + 2) * (m + 1 + 2) := Nat.mul_pos (by omega) (by omega); omega⟩
    rw [lombardref01_Sum.l0, if_pos (by omega)]
    have hk2 : (m + 2) * (m + 2) + 2 * m + 5 ≤ k + 1 := by
      have : (m + 1 + 2) * (m + 1 + 2) = (m + 2) * (m + 2) + 2 * m + 5 := by
        rw [show m + 1 + 2 = (m + 2) + 1 from rfl, Nat.add_mul, Nat.mul_add]; omega
      omega
    have hsq : 0 < (m + 2) * (m + 2) := Nat.mul_pos (by omega) (by omega)
    obtain ⟨a, ha, hop, k', hk', he⟩ := Sum_l1 l n (by omega) k 0 0 (Nat.zero_le _) (by omega) (by omega) (.inr fun j hj => by omega)
    simp only [Int.natCast_zero] at he
    rw [he]
    have eg : l.getD a 0 = l[a] := by rw [List.getD_eq_getElem?_getD, List.getElem?_eq_getElem ha]; rfl
    rw [eg] at hop ⊢
    have hxa := hx _ (List.getElem_mem ha)
    rw [rn_Add_at _ _ hn hxa, Option.bind_some]
    have hs := sum_erase l a ha
    have hmem : ∀ x ∈ l.eraseIdx a, rn_inr x := fun x hx' => hx x (List.mem_of_mem_eraseIdx hx')
    by_cases c : rn_inr (n + l[a])
    · have et : rn_told (n + l[a]) = (n + l[a], 0) := by unfold rn_told; rw [if_pos c]
      rw [et]
      rw [if_pos rfl, ih (l.eraseIdx a) (n + l[a]) k' (by rw [List.length_eraseIdx_of_lt ha]; omega) (by omega) c hmem (by omega)]
      have : n + l[a] + (l.eraseIdx a).sum = n + l.sum := by omega
      rw [this]
    · have et : rn_told (n + l[a]) = (0, 3) := by unfold rn_told; rw [if_neg c]
      rw [et]
      rw [if_neg (by decide)]
      have hno : ¬ opp n l[a] := by
        intro o
        unfold opp at o
        obtain ⟨n1, n2⟩ := hn
        obtain ⟨x1, x2⟩ := hxa
        apply c
        unfold rn_inr
        omega
      have hall : ∀ j, j < l.length → ¬ opp n (l.getD j 0) := hop.resolve_left hno
      have hall' : ∀ x ∈ l, (x < 0 ↔ n < 0) := by
        intro x hxm
        obtain ⟨j, hj, rfl⟩ := List.mem_iff_getElem.mp hxm
        have := hall j hj
        rw [List.getD_eq_getElem?_getD, List.getElem?_eq_getElem hj] at this
        unfold opp at this
        exact Classical.not_not.mp this
      have hsgn := sum_sign (l.eraseIdx a)
      have hn' := hall' _ (List.getElem_mem ha)
      have : ¬ rn_inr (n + l.sum) := by
        by_cases z : n < 0
        · have := hsgn.2 (fun x hx' => by have := (hall' x (List.mem_of_mem_eraseIdx hx')).mpr z; omega)
          unfold rn_inr at c ⊢
          omega
        · have := hsgn.1 (fun x hx' => by have := hall' x (List.mem_of_mem_eraseIdx hx'); omega)
          unfold rn_inr at c ⊢
          omega
      unfold rn_told
      rw [if_neg this]
theorem rSum_at (k : Nat) (l : List Int) (hl : l.length ≤ 1000000) (hx : ∀ x ∈ l, rn_inr x) (hk : (l.length + 2) * (l.length + 2) ≤ k) : lombardref01_Sum.f k l = some (rn_told l.sum) := by
  unfold lombardref01_Sum.f
  rw [Option.bind_some, if_pos (by simp; omega), List.nil_append, Sum_l0 l.length l 0 k rfl hl (by unfold rn_inr; omega) hx hk, Int.zero_add]

theorem lombardref16_Net.ix0 (a b c : Row6) (w : World) : (Instr.index 34 (.agg (row18 a b c)) (.int .i64 0)).run Try.prog w = .ok (.agg #[.int .i64 a.o, .int .i64 a.i, .int .i64 a.u, .int .i64 a.n, .int .i64 a.w, .int .i64 a.c]) w := by kernel_rfl
theorem lombardref16_Net.ix1 (a b c : Row6) (w : World) : (Instr.index 34 (.agg (row18 a b c)) (.int .i64 1)).run Try.prog w = .ok (.agg #[.int .i64 b.o, .int .i64 b.i, .int .i64 b.u, .int .i64 b.n, .int .i64 b.w, .int .i64 b.c]) w := by kernel_rfl
theorem lombardref16_Net.ix2 (a b c : Row6) (w : World) : (Instr.index 34 (.agg (row18 a b c)) (.int .i64 2)).run Try.prog w = .ok (.agg #[.int .i64 c.o, .int .i64 c.i, .int .i64 c.u, .int .i64 c.n, .int .i64 c.w, .int .i64 c.c]) w := by kernel_rfl
theorem lombardref16_Net.jx0 (a : Row6) (w : World) : (Instr.index 66 (.agg #[.int .i64 a.o, .int .i64 a.i, .int .i64 a.u, .int .i64 a.n, .int .i64 a.w, .int .i64 a.c]) (.int .i64 0)).run Try.prog w = .ok (.int .i64 a.o) w := by kernel_rfl
theorem lombardref16_Net.jx1 (a : Row6) (w : World) : (Instr.index 66 (.agg #[.int .i64 a.o, .int .i64 a.i, .int .i64 a.u, .int .i64 a.n, .int .i64 a.w, .int .i64 a.c]) (.int .i64 1)).run Try.prog w = .ok (.int .i64 a.i) w := by kernel_rfl
theorem lombardref16_Net.jx2 (a : Row6) (w : World) : (Instr.index 66 (.agg #[.int .i64 a.o, .int .i64 a.i, .int .i64 a.u, .int .i64 a.n, .int .i64 a.w, .int .i64 a.c]) (.int .i64 2)).run Try.prog w = .ok (.int .i64 a.u) w := by kernel_rfl
theorem lombardref16_Net.jx3 (a : Row6) (w : World) : (Instr.index 66 (.agg #[.int .i64 a.o, .int .i64 a.i, .int .i64 a.u, .int .i64 a.n, .int .i64 a.w, .int .i64 a.c]) (.int .i64 3)).run Try.prog w = .ok (.int .i64 a.n) w := by kernel_rfl
theorem lombardref16_Net.jx4 (a : Row6) (w : World) : (Instr.index 66 (.agg #[.int .i64 a.o, .int .i64 a.i, .int .i64 a.u, .int .i64 a.n, .int .i64 a.w, .int .i64 a.c]) (.int .i64 4)).run Try.prog w = .ok (.int .i64 a.w) w := by kernel_rfl
theorem lombardref16_Net.jx5 (a : Row6) (w : World) : (Instr.index 66 (.agg #[.int .i64 a.o, .int .i64 a.i, .int .i64 a.u, .int .i64 a.n, .int .i64 a.w, .int .i64 a.c]) (.int .i64 5)).run Try.prog w = .ok (.int .i64 a.c) w := by kernel_rfl
theorem lombardref16_Net.sum3 (x y z : Int) (hx : inr64 x) (hy : inr64 y) (hz : inr64 z) : lombardref01_Sum.f 25 [x, y, z] = some (if inr64 (x + y + z) then (x + y + z, 0) else (0, 3)) := by
  have e : ([x, y, z] : List Int).sum = x + y + z := by simp; omega
  rw [rSum_at 25 [x, y, z] (by simp) (by simp; exact ⟨hx, hy, hz⟩) (by simp), e]
  rfl
theorem lombardref16_Net.sumc {x y z s e : Int} {A : Option Addr} {c : Nat} {W : World} (h : lombardref01_Sum.f 25 [x, y, z] = some (s, e)) (hr : Kd.C (Kd.int .i64) W A ([x, y, z] : List Int).length [x, y, z]) (hc : ([x, y, z] : List Int).length ≤ c) : Calls Try.prog 35 #[.slice A 3 c] W fun e' w' => e' = .returned (.tuple #[.int .i64 s, .int .i64 e]) ∧ Below W.heap.size W w' :=
  lombardref01_Sum.calls 25 A c [x, y, z] s e W hr hc h
theorem lombardref16_Net.start (w : World) (a b c : Row6) : Below w.heap.size w (((w.alloc (.cells (row18 a b c) 34)).alloc (.cells #[.int .i64 0, .int .i64 0, .int .i64 0, .int .i64 0, .int .i64 0, .int .i64 0] 33)).alloc (.cells #[.int .i64 0, .int .i64 0, .int .i64 0, .int .i64 0, .int .i64 0, .int .i64 0] 66)) ∧ (((w.alloc (.cells (row18 a b c) 34)).alloc (.cells #[.int .i64 0, .int .i64 0, .int .i64 0, .int .i64 0, .int .i64 0, .int .i64 0] 33)).alloc (.cells #[.int .i64 0, .int .i64 0, .int .i64 0, .int .i64 0, .int .i64 0, .int .i64 0] 66)).heap[w.heap.size]? = some (.cells (row18 a b c) 34 (0, 0)) ∧ (((w.alloc (.cells (row18 a b c) 34)).alloc (.cells #[.int .i64 0, .int .i64 0, .int .i64 0, .int .i64 0, .int .i64 0, .int .i64 0] 33)).alloc (.cells #[.int .i64 0, .int .i64 0, .int .i64 0, .int .i64 0, .int .i64 0, .int .i64 0] 66)).heap[w.heap.size + 1]? = some (.cells (row6 Row6.z) 33 (0, 0)) ∧ (((w.alloc (.cells (row18 a b c) 34)).alloc (.cells #[.int .i64 0, .int .i64 0, .int .i64 0, .int .i64 0, .int .i64 0, .int .i64 0] 33)).alloc (.cells #[.int .i64 0, .int .i64 0, .int .i64 0, .int .i64 0, .int .i64 0, .int .i64 0] 66)).heap[w.heap.size + 1 + 1]? = some (.cells #[.int .i64 0, .int .i64 0, .int .i64 0, .int .i64 0, .int .i64 0, .int .i64 0] 66 (0, 0)) :=
  ⟨below_alloc (below_alloc (below_alloc (Below.refl _ _) _) _) _, blk_alloc (blk_alloc (blk_new w _) _) _, blk_alloc (blk_new1 w _ _) _, blk_new2 w _ _ _⟩
def lombardref16_Net.loopsOf : Code → List Code
  | .loop c => [c]
  | .seq a b => lombardref16_Net.loopsOf a ++ lombardref16_Net.loopsOf b
  | .block _ c => lombardref16_Net.loopsOf c
  | .cond _ a b => lombardref16_Net.loopsOf a ++ lombardref16_Net.loopsOf b
  | _ => []
noncomputable def lombardref16_Net.body : Code := ((Try.f15.body.map lombardref16_Net.loopsOf).getD []).getD 0 .skip
set_option maxHeartbeats 16000000 in
set_option maxRecDepth 1000000 in
theorem lombardref16_Net.round0 {a b c : Row6} (ha : Aside0 a.inr) (hb0 : Aside0 b.inr) (hc : Aside0 c.inr) {w v0 : World} {g2 g4 : Nat} (hlt2 : w.heap.size < g2) (hlt4 : g2 < g4) {p1 p2 p3 p4 p5 : Int} {K : Act → World → Prop} {Q0 : Exit → Act → World → Prop} {c0 c7 c50 c51 c52 c53 c54 c55 c56 c57 c58 c59 c60 c61 c62 : Value} {u5 u6 u8 u9 u10 u12 u13 u14 u15 u16 u17 u18 u19 u20 u21 u22 u23 u24 u25 u26 u27 u28 u29 u30 u31 u32 u33 u34 u35 u36 u37 u38 u39 u40 u41 u42 u43 u44 u45 u46 u47 u48 u49 : Value}
    (BK1 : Aside0 (v0.heap[w.heap.size]? = some (.cells (row18 a b c) 34 (0, 0)))) (BK2 : Aside0 (v0.heap[g2]? = some (.cells (row6 Row6.z) 33 (0, 0)))) (BK4 : Aside0 (v0.heap[g4]? = some (.cells #[.int .i64 0, .int .i64 p1, .int .i64 p2, .int .i64 p3, .int .i64 p4, .int .i64 p5] 66 (0, 0)))) (HB : Aside0 (Below w.heap.size w v0))
    (herr : ∀ (x5 x6 x8 x9 x10 x11 x12 x13 x14 x15 x16 x17 x18 x19 x20 x21 x22 x23 x24 x25 x26 x27 x28 x29 x30 x31 x32 x33 x34 x35 x36 x37 x38 x39 x40 x41 x42 x43 x44 x45 x46 x47 x48 x49 : Value) (w1 : World), (¬ inr64 (a.o + b.o + c.o) ∧ Aside0 (w1.heap[g2]? = some (.cells (row6 Row6.z) 33 (0, 0))) ∧ Aside0 (Below w.heap.size w w1)) → Q0 Exit.ret ⟨List.toArray (c0 :: .pointer (some ⟨w.heap.size, 0, none⟩) :: .pointer (some ⟨g2, 0, none⟩) :: .int .i64 3 :: .pointer (some ⟨g4, 0, none⟩) :: x5 :: x6 :: c7 :: x8 :: x9 :: x10 :: x11 :: x12 :: x13 :: x14 :: x15 :: x16 :: x17 :: x18 :: x19 :: x20 :: x21 :: x22 :: x23 :: x24 :: x25 :: x26 :: x27 :: x28 :: x29 :: x30 :: x31 :: x32 :: x33 :: x34 :: x35 :: x36 :: x37 :: x38 :: x39 :: x40 :: x41 :: x42 :: x43 :: x44 :: x45 :: x46 :: x47 :: x48 :: x49 :: c50 :: c51 :: c52 :: c53 :: c54 :: c55 :: c56 :: c57 :: c58 :: c59 :: c60 :: c61 :: c62 :: []), []⟩ w1)
    (hK : ∀ (x5 x6 x8 x9 x10 x12 x13 x14 x15 x16 x17 x18 x19 x20 x21 x22 x23 x24 x25 x26 x27 x28 x29 x30 x31 x32 x33 x34 x35 x36 x37 x38 x39 x40 x41 x42 x43 x44 x45 x46 x47 x48 x49 : Value) (w1 : World), (inr64 (a.o + b.o + c.o) ∧ Aside0 (w1.heap[w.heap.size]? = some (.cells (row18 a b c) 34 (0, 0))) ∧ Aside0 (w1.heap[g2]? = some (.cells (row6 Row6.z) 33 (0, 0))) ∧ Aside0 (w1.heap[g4]? = some (.cells #[.int .i64 (a.o + b.o + c.o), .int .i64 p1, .int .i64 p2, .int .i64 p3, .int .i64 p4, .int .i64 p5] 66 (0, 0))) ∧ Aside0 (Below w.heap.size w w1)) → K ⟨List.toArray (c0 :: .pointer (some ⟨w.heap.size, 0, none⟩) :: .pointer (some ⟨g2, 0, none⟩) :: .int .i64 0 :: .pointer (some ⟨g4, 0, none⟩) :: x5 :: x6 :: c7 :: x8 :: x9 :: x10 :: .int .i64 1 :: x12 :: x13 :: x14 :: x15 :: x16 :: x17 :: x18 :: x19 :: x20 :: x21 :: x22 :: x23 :: x24 :: x25 :: x26 :: x27 :: x28 :: x29 :: x30 :: x31 :: x32 :: x33 :: x34 :: x35 :: x36 :: x37 :: x38 :: x39 :: x40 :: x41 :: x42 :: x43 :: x44 :: x45 :: x46 :: x47 :: x48 :: x49 :: c50 :: c51 :: c52 :: c53 :: c54 :: c55 :: c56 :: c57 :: c58 :: c59 :: c60 :: c61 :: c62 :: []), []⟩ w1) :
    Code.wp Try.prog lombardref16_Net.body (Exit.then K Q0) ⟨List.toArray (c0 :: .pointer (some ⟨w.heap.size, 0, none⟩) :: .pointer (some ⟨g2, 0, none⟩) :: .int .i64 0 :: .pointer (some ⟨g4, 0, none⟩) :: u5 :: u6 :: c7 :: u8 :: u9 :: u10 :: .int .i64 0 :: u12 :: u13 :: u14 :: u15 :: u16 :: u17 :: u18 :: u19 :: u20 :: u21 :: u22 :: u23 :: u24 :: u25 :: u26 :: u27 :: u28 :: u29 :: u30 :: u31 :: u32 :: u33 :: u34 :: u35 :: u36 :: u37 :: u38 :: u39 :: u40 :: u41 :: u42 :: u43 :: u44 :: u45 :: u46 :: u47 :: u48 :: u49 :: c50 :: c51 :: c52 :: c53 :: c54 :: c55 :: c56 :: c57 :: c58 :: c59 :: c60 :: c61 :: c62 :: []), []⟩ v0 := by
  conv => arg 2; whnf
  have HERR := Aside0.mk herr
  have HKK := Aside0.mk hK
  clear herr hK
  have hix0 := fun W => lombardref16_Net.ix0 a b c W
  have hix1 := fun W => lombardref16_Net.ix1 a b c W
  have hix2 := fun W => lombardref16_Net.ix2 a b c W
  go_wp2_with ((with_reducible refine gate_dst (N := 14) rfl ?_); refine wpList_load_row rfl 34 (.tmp 1) rfl w.heap.size rfl 34 _ (0, 0) _ BK1.out Try.underlying34 rfl (by kernel_rfl) ?_)
  refine wp_loop_rounds 4 ?_
  rw [rounds_succ]
  have R6 := Aside0.mk (Kd.R_nil (Kd.int .i64) 2 v0 w.heap.size (fun _ => True))
  have hjx := fun W => lombardref16_Net.jx0 a W
  obtain ⟨hnb, hnk⟩ := newrow6 v0 #[.int .i64 0, .int .i64 0, .int .i64 0, .int .i64 0, .int .i64 0, .int .i64 0] #[.int .i64 a.o, .int .i64 a.i, .int .i64 a.u, .int .i64 a.n, .int .i64 a.w, .int .i64 a.c] 33
  go_wp2_with ((with_reducible refine gate_store (t := 33) (p := 8) (v := .tmp 17) rfl ?_); refine Shut.out ?_)
  unfold Shut
  refine store_rowTo rfl 33 (.tmp 8) (.tmp 17) rfl rfl v0.heap.size #[.int .i64 a.o, .int .i64 a.i, .int .i64 a.u, .int .i64 a.n, .int .i64 a.w, .int .i64 a.c] rfl rfl 33 _ (blk_new v0 _) (by kernel_rfl) rfl (all6 _ _ _ _ _ _) ?_
  have n_HB := Aside0.mk (below_step HB.out hnb)
  have n_BK1 := Aside0.mk (blk_below BK1.out hnb)
  have n_BK2 := Aside0.mk (blk_below BK2.out hnb)
  have n_BK4 := Aside0.mk (blk_below BK4.out hnb)
  have n_R6 := Aside0.mk (Kd.R_below R6.out hnb)
  have n_BK8 := Aside0.mk hnk
  clear HB BK1 BK2 BK4 R6 hnb hnk
  generalize (v0.alloc (.cells #[.int .i64 0, .int .i64 0, .int .i64 0, .int .i64 0, .int .i64 0, .int .i64 0] 33)).setRow v0.heap.size #[.int .i64 a.o, .int .i64 a.i, .int .i64 a.u, .int .i64 a.n, .int .i64 a.w, .int .i64 a.c] = z0_0 at n_HB n_BK1 n_BK2 n_BK4 n_BK8 n_R6 ⊢
  generalize v0.heap.size = g8 at n_BK8 ⊢
  have HB := n_HB
  clear n_HB
  have BK1 := n_BK1
  clear n_BK1
  have BK2 := n_BK2
  clear n_BK2
  have BK4 := n_BK4
  clear n_BK4
  have R6 := n_R6
  clear n_R6
  have BK8 := n_BK8
  clear n_BK8
  have hk0 : z0_0.cell? ⟨g8, 0, none⟩ = some (.int .i64 a.o) := blk_cell BK8.out 0
  have hk1 : z0_0.cell? ⟨g8, 1, none⟩ = some (.int .i64 a.i) := blk_cell BK8.out 1
  have hk2 : z0_0.cell? ⟨g8, 2, none⟩ = some (.int .i64 a.u) := blk_cell BK8.out 2
  have hk3 : z0_0.cell? ⟨g8, 3, none⟩ = some (.int .i64 a.n) := blk_cell BK8.out 3
  have hk4 : z0_0.cell? ⟨g8, 4, none⟩ = some (.int .i64 a.w) := blk_cell BK8.out 4
  have hk5 : z0_0.cell? ⟨g8, 5, none⟩ = some (.int .i64 a.c) := blk_cell BK8.out 5
  go_wp2_with ((with_reducible refine gate_builtin (b := .append) (xs := #[.tmp 18, .tmp 34]) rfl ?_); refine Shut.out ?_)
  unfold Shut
  refine Kd.R_append (Kd.int .i64) (w0 := w) w.heap.size rfl (.tmp 18) (.tmp 34) 53 2 (.int .i64 0) 8 rfl Try.underlying53 info2 rfl (by decide) (by omega) (.slice none 0 0) ([] : List Int) a.o [.int .i64 a.o] (fun _ => True) (fun _ => False) rfl rfl ?aP (fun _ hk => hk.elim) ?aF ?aO ?aB ?aS ?aL ?_
  case aP => exact rfl
  case aB => exact HB.out
  case aF => exact (fun _ _ => trivial)
  case aO => exact R6.out
  case aS => exact below_size HB.out
  case aL => simp
  intro u0_0 y0_0 ho hb hg hat
  have n_BK1 := Aside0.mk (blk_grown BK1.out hg (Kd.R_ne R6.out BK1.out (by decide)))
  have n_BK2 := Aside0.mk (blk_grown BK2.out hg (Kd.R_ne R6.out BK2.out (by decide)))
  have n_BK4 := Aside0.mk (blk_grown BK4.out hg (Kd.R_ne R6.out BK4.out (by decide)))
  have n_HB := Aside0.mk hb
  have n_R6 : Aside0 (Kd.R (Kd.int .i64) 2 y0_0 w.heap.size (fun _ => True) u0_0 ([a.o] : List Int)) := ⟨ho⟩
  clear HB BK1 BK2 BK4 R6 BK8 hk0 hk1 hk2 hk3 hk4 hk5 ho hb hg hat hjx
  have HB := n_HB
  clear n_HB
  have BK1 := n_BK1
  clear n_BK1
  have BK2 := n_BK2
  clear n_BK2
  have BK4 := n_BK4
  clear n_BK4
  have R6 := n_R6
  clear n_R6
  go_wp2_with fail
  rw [rounds_succ]
  have hjx := fun W => lombardref16_Net.jx0 b W
  obtain ⟨hnb, hnk⟩ := newrow6 y0_0 #[.int .i64 0, .int .i64 0, .int .i64 0, .int .i64 0, .int .i64 0, .int .i64 0] #[.int .i64 b.o, .int .i64 b.i, .int .i64 b.u, .int .i64 b.n, .int .i64 b.w, .int .i64 b.c] 33
  go_wp2_with ((with_reducible refine gate_store (t := 33) (p := 8) (v := .tmp 17) rfl ?_); refine Shut.out ?_)
  unfold Shut
  refine store_rowTo rfl 33 (.tmp 8) (.tmp 17) rfl rfl y0_0.heap.size #[.int .i64 b.o, .int .i64 b.i, .int .i64 b.u, .int .i64 b.n, .int .i64 b.w, .int .i64 b.c] rfl rfl 33 _ (blk_new y0_0 _) (by kernel_rfl) rfl (all6 _ _ _ _ _ _) ?_
  have n_HB := Aside0.mk (below_step HB.out hnb)
  have n_BK1 := Aside0.mk (blk_below BK1.out hnb)
  have n_BK2 := Aside0.mk (blk_below BK2.out hnb)
  have n_BK4 := Aside0.mk (blk_below BK4.out hnb)
  have n_R6 := Aside0.mk (Kd.R_below R6.out hnb)
  have n_BK8 := Aside0.mk hnk
  clear HB BK1 BK2 BK4 R6 hnb hnk
  generalize (y0_0.alloc (.cells #[.int .i64 0, .int .i64 0, .int .i64 0, .int .i64 0, .int .i64 0, .int .i64 0] 33)).setRow y0_0.heap.size #[.int .i64 b.o, .int .i64 b.i, .int .i64 b.u, .int .i64 b.n, .int .i64 b.w, .int .i64 b.c] = z0_1 at n_HB n_BK1 n_BK2 n_BK4 n_BK8 n_R6 ⊢
  generalize y0_0.heap.size = g8 at n_BK8 ⊢
  have HB := n_HB
  clear n_HB
  have BK1 := n_BK1
  clear n_BK1
  have BK2 := n_BK2
  clear n_BK2
  have BK4 := n_BK4
  clear n_BK4
  have R6 := n_R6
  clear n_R6
  have BK8 := n_BK8
  clear n_BK8
  have hk0 : z0_1.cell? ⟨g8, 0, none⟩ = some (.int .i64 b.o) := blk_cell BK8.out 0
  have hk1 : z0_1.cell? ⟨g8, 1, none⟩ = some (.int .i64 b.i) := blk_cell BK8.out 1
  have hk2 : z0_1.cell? ⟨g8, 2, none⟩ = some (.int .i64 b.u) := blk_cell BK8.out 2
  have hk3 : z0_1.cell? ⟨g8, 3, none⟩ = some (.int .i64 b.n) := blk_cell BK8.out 3
  have hk4 : z0_1.cell? ⟨g8, 4, none⟩ = some (.int .i64 b.w) := blk_cell BK8.out 4
  have hk5 : z0_1.cell? ⟨g8, 5, none⟩ = some (.int .i64 b.c) := blk_cell BK8.out 5
  go_wp2_with ((with_reducible refine gate_builtin (b := .append) (xs := #[.tmp 18, .tmp 34]) rfl ?_); refine Shut.out ?_)
  unfold Shut
  refine Kd.R_append (Kd.int .i64) (w0 := w) w.heap.size rfl (.tmp 18) (.tmp 34) 53 2 (.int .i64 0) 8 rfl Try.underlying53 info2 rfl (by decide) (by omega) u0_0 ([a.o] : List Int) b.o [.int .i64 b.o] (fun _ => True) (fun _ => False) rfl rfl ?aP (fun _ hk => hk.elim) ?aF ?aO ?aB ?aS ?aL ?_
  case aP => exact rfl
  case aB => exact HB.out
  case aF => exact (fun _ _ => trivial)
  case aO => exact R6.out
  case aS => exact below_size HB.out
  case aL => simp
  intro u0_1 y0_1 ho hb hg hat
  have n_BK1 := Aside0.mk (blk_grown BK1.out hg (Kd.R_ne R6.out BK1.out (by decide)))
  have n_BK2 := Aside0.mk (blk_grown BK2.out hg (Kd.R_ne R6.out BK2.out (by decide)))
  have n_BK4 := Aside0.mk (blk_grown BK4.out hg (Kd.R_ne R6.out BK4.out (by decide)))
  have n_HB := Aside0.mk hb
  have n_R6 : Aside0 (Kd.R (Kd.int .i64) 2 y0_1 w.heap.size (fun _ => True) u0_1 ([a.o, b.o] : List Int)) := ⟨ho⟩
  clear HB BK1 BK2 BK4 R6 BK8 hk0 hk1 hk2 hk3 hk4 hk5 ho hb hg hat hjx
  have HB := n_HB
  clear n_HB
  have BK1 := n_BK1
  clear n_BK1
  have BK2 := n_BK2
  clear n_BK2
  have BK4 := n_BK4
  clear n_BK4
  have R6 := n_R6
  clear n_R6
  go_wp2_with fail
  rw [rounds_succ]
  have hjx := fun W => lombardref16_Net.jx0 c W
  obtain ⟨hnb, hnk⟩ := newrow6 y0_1 #[.int .i64 0, .int .i64 0, .int .i64 0, .int .i64 0, .int .i64 0, .int .i64 0] #[.int .i64 c.o, .int .i64 c.i, .int .i64 c.u, .int .i64 c.n, .int .i64 c.w, .int .i64 c.c] 33
  go_wp2_with ((with_reducible refine gate_store (t := 33) (p := 8) (v := .tmp 17) rfl ?_); refine Shut.out ?_)
  unfold Shut
  refine store_rowTo rfl 33 (.tmp 8) (.tmp 17) rfl rfl y0_1.heap.size #[.int .i64 c.o, .int .i64 c.i, .int .i64 c.u, .int .i64 c.n, .int .i64 c.w, .int .i64 c.c] rfl rfl 33 _ (blk_new y0_1 _) (by kernel_rfl) rfl (all6 _ _ _ _ _ _) ?_
  have n_HB := Aside0.mk (below_step HB.out hnb)
  have n_BK1 := Aside0.mk (blk_below BK1.out hnb)
  have n_BK2 := Aside0.mk (blk_below BK2.out hnb)
  have n_BK4 := Aside0.mk (blk_below BK4.out hnb)
  have n_R6 := Aside0.mk (Kd.R_below R6.out hnb)
  have n_BK8 := Aside0.mk hnk
  clear HB BK1 BK2 BK4 R6 hnb hnk
  generalize (y0_1.alloc (.cells #[.int .i64 0, .int .i64 0, .int .i64 0, .int .i64 0, .int .i64 0, .int .i64 0] 33)).setRow y0_1.heap.size #[.int .i64 c.o, .int .i64 c.i, .int .i64 c.u, .int .i64 c.n, .int .i64 c.w, .int .i64 c.c] = z0_2 at n_HB n_BK1 n_BK2 n_BK4 n_BK8 n_R6 ⊢
  generalize y0_1.heap.size = g8 at n_BK8 ⊢
  have HB := n_HB
  clear n_HB
  have BK1 := n_BK1
  clear n_BK1
  have BK2 := n_BK2
  clear n_BK2
  have BK4 := n_BK4
  clear n_BK4
  have R6 := n_R6
  clear n_R6
  have BK8 := n_BK8
  clear n_BK8
  have hk0 : z0_2.cell? ⟨g8, 0, none⟩ = some (.int .i64 c.o) := blk_cell BK8.out 0
  have hk1 : z0_2.cell? ⟨g8, 1, none⟩ = some (.int .i64 c.i) := blk_cell BK8.out 1
  have hk2 : z0_2.cell? ⟨g8, 2, none⟩ = some (.int .i64 c.u) := blk_cell BK8.out 2
  have hk3 : z0_2.cell? ⟨g8, 3, none⟩ = some (.int .i64 c.n) := blk_cell BK8.out 3
  have hk4 : z0_2.cell? ⟨g8, 4, none⟩ = some (.int .i64 c.w) := blk_cell BK8.out 4
  have hk5 : z0_2.cell? ⟨g8, 5, none⟩ = some (.int .i64 c.c) := blk_cell BK8.out 5
  go_wp2_with ((with_reducible refine gate_builtin (b := .append) (xs := #[.tmp 18, .tmp 34]) rfl ?_); refine Shut.out ?_)
  unfold Shut
  refine Kd.R_append (Kd.int .i64) (w0 := w) w.heap.size rfl (.tmp 18) (.tmp 34) 53 2 (.int .i64 0) 8 rfl Try.underlying53 info2 rfl (by decide) (by omega) u0_1 ([a.o, b.o] : List Int) c.o [.int .i64 c.o] (fun _ => True) (fun _ => False) rfl rfl ?aP (fun _ hk => hk.elim) ?aF ?aO ?aB ?aS ?aL ?_
  case aP => exact rfl
  case aB => exact HB.out
  case aF => exact (fun _ _ => trivial)
  case aO => exact R6.out
  case aS => exact below_size HB.out
  case aL => simp
  intro u0_2 y0_2 ho hb hg hat
  have n_BK1 := Aside0.mk (blk_grown BK1.out hg (Kd.R_ne R6.out BK1.out (by decide)))
  have n_BK2 := Aside0.mk (blk_grown BK2.out hg (Kd.R_ne R6.out BK2.out (by decide)))
  have n_BK4 := Aside0.mk (blk_grown BK4.out hg (Kd.R_ne R6.out BK4.out (by decide)))
  have n_HB := Aside0.mk hb
  have n_R6 : Aside0 (Kd.R (Kd.int .i64) 2 y0_2 w.heap.size (fun _ => True) u0_2 ([a.o, b.o, c.o] : List Int)) := ⟨ho⟩
  clear HB BK1 BK2 BK4 R6 BK8 hk0 hk1 hk2 hk3 hk4 hk5 ho hb hg hat hjx
  have HB := n_HB
  clear n_HB
  have BK1 := n_BK1
  clear n_BK1
  have BK2 := n_BK2
  clear n_BK2
  have BK4 := n_BK4
  clear n_BK4
  have R6 := n_R6
  clear n_R6
  go_wp2_with fail
  rw [rounds_succ]
  obtain ⟨A6, c6, hA6⟩ := Kd.R_slice R6.out
  subst hA6
  go_wp2_with fail
  obtain ⟨⟨s0, e0⟩, hse⟩ : ∃ r, r = (if inr64 (a.o + b.o + c.o) then ((a.o + b.o + c.o), (0 : Int)) else (0, 3)) := ⟨_, rfl⟩
  have hsum := lombardref16_Net.sum3 a.o b.o c.o (by have := ha.out; unfold Row6.inr at this; exact this.1) (by have := hb0.out; unfold Row6.inr at this; exact this.1) (by have := hc.out; unfold Row6.inr at this; exact this.1)
  rw [← hse] at hsum
  have HSE0 := Aside0.mk hse
  have HSUM := Aside0.mk hsum
  clear hse hsum
  with_reducible refine (lombardref16_Net.sumc HSUM.out (Kd.R_reads' R6.out).2.2 (Kd.R_reads' R6.out).2.1).mono ?_
  rintro e x0 ⟨rfl, hb⟩
  have n_HB := Aside0.mk (below_step HB.out hb)
  have n_BK1 := Aside0.mk (blk_below BK1.out hb)
  have n_BK2 := Aside0.mk (blk_below BK2.out hb)
  have n_BK4 := Aside0.mk (blk_below BK4.out hb)
  clear HB BK1 BK2 BK4 R6 hb HSUM
  have HB := n_HB
  clear n_HB
  have BK1 := n_BK1
  clear n_BK1
  have BK2 := n_BK2
  clear n_BK2
  have BK4 := n_BK4
  clear n_BK4
  by_cases hi : inr64 (a.o + b.o + c.o)
  case neg =>
    have hq := HSE0.out
    rw [if_neg hi] at hq
    simp only [Prod.mk.injEq] at hq
    obtain ⟨rfl, rfl⟩ := hq
    have HI := Aside0.mk hi
    clear hi
    go_wp2_with ((with_reducible refine gate_store (t := 33) (p := 2) (v := .tmp 44) rfl ?_); refine Shut.out ?_)
    unfold Shut
    refine store_rowTo rfl 33 (.tmp 2) (.tmp 44) rfl rfl g2 (row6 Row6.z) rfl rfl 33 _ BK2.out (by kernel_rfl) rfl (all6n _ _ _ _ _ _) ?_
    have HBn := Aside0.mk (row_below (g := g2) HB.out (by omega) (row6 Row6.z))
    have BKn := Aside0.mk (setRow_heap _ _ _ (row6 Row6.z) _ _ BK2.out)
    clear HB BK2
    go_wp2_with fail
    exact HERR.out _ _ _ _ _ _ _ _ _ _ _ _ _ _ _ _ _ _ _ _ _ _ _ _ _ _ _ _ _ _ _ _ _ _ _ _ _ _ _ _ _ _ _ _ _ ⟨HI.out, BKn, HBn⟩
  have hq := HSE0.out
  rw [if_pos hi] at hq
  simp only [Prod.mk.injEq] at hq
  obtain ⟨hs, rfl⟩ := hq
  have HS := Aside0.mk hs
  have HI := Aside0.mk hi
  clear hs hi HSE0 HERR
  have kc : x0.cell? ⟨g4, 0, none⟩ = some (.int .i64 0) := blk_cell BK4.out 0
  have kf := blk_frozen BK4.out 0
  go_wp2_with fail
  have n_HB := Aside0.mk (HB.out.setCell (p := ⟨g4, 0, none⟩) (show w.heap.size ≤ g4 by omega) (.int .i64 s0))
  have n_BK1 := Aside0.mk ((Below.heap_setCell x0 ⟨g4, 0, none⟩ (.int .i64 s0) w.heap.size (show w.heap.size ≠ g4 by omega)).trans BK1.out)
  have n_BK2 := Aside0.mk ((Below.heap_setCell x0 ⟨g4, 0, none⟩ (.int .i64 s0) g2 (show g2 ≠ g4 by omega)).trans BK2.out)
  have n_BK4 := Aside0.mk (blk_put BK4.out 0 (.int .i64 s0) (show _ = (#[.int .i64 (a.o + b.o + c.o), .int .i64 p1, .int .i64 p2, .int .i64 p3, .int .i64 p4, .int .i64 p5] : Array Value) from by rw [HS.out]; rfl))
  exact HKK.out _ _ _ _ _ _ _ _ _ _ _ _ _ _ _ _ _ _ _ _ _ _ _ _ _ _ _ _ _ _ _ _ _ _ _ _ _ _ _ _ _ _ _ _ ⟨HI.out, n_BK1, n_BK2, n_BK4, n_HB⟩
set_option maxHeartbeats 16000000 in
set_option maxRecDepth 1000000 in
theorem lombardref16_Net.round1 {a b c : Row6} (ha : Aside0 a.inr) (hb0 : Aside0 b.inr) (hc : Aside0 c.inr) {w v0 : World} {g2 g4 : Nat} (hlt2 : w.heap.size < g2) (hlt4 : g2 < g4) {p0 p2 p3 p4 p5 : Int} {K : Act → World → Prop} {Q0 : Exit → Act → World → Prop} {c0 c7 c50 c51 c52 c53 c54 c55 c56 c57 c58 c59 c60 c61 c62 : Value} {u5 u6 u8 u9 u10 u12 u13 u14 u15 u16 u17 u18 u19 u20 u21 u22 u23 u24 u25 u26 u27 u28 u29 u30 u31 u32 u33 u34 u35 u36 u37 u38 u39 u40 u41 u42 u43 u44 u45 u46 u47 u48 u49 : Value}
    (BK1 : Aside0 (v0.heap[w.heap.size]? = some (.cells (row18 a b c) 34 (0, 0)))) (BK2 : Aside0 (v0.heap[g2]? = some (.cells (row6 Row6.z) 33 (0, 0)))) (BK4 : Aside0 (v0.heap[g4]? = some (.cells #[.int .i64 p0, .int .i64 0, .int .i64 p2, .int .i64 p3, .int .i64 p4, .int .i64 p5] 66 (0, 0)))) (HB : Aside0 (Below w.heap.size w v0))
    (herr : ∀ (x5 x6 x8 x9 x10 x11 x12 x13 x14 x15 x16 x17 x18 x19 x20 x21 x22 x23 x24 x25 x26 x27 x28 x29 x30 x31 x32 x33 x34 x35 x36 x37 x38 x39 x40 x41 x42 x43 x44 x45 x46 x47 x48 x49 : Value) (w1 : World), (¬ inr64 (a.i + b.i + c.i) ∧ Aside0 (w1.heap[g2]? = some (.cells (row6 Row6.z) 33 (0, 0))) ∧ Aside0 (Below w.heap.size w w1)) → Q0 Exit.ret ⟨List.toArray (c0 :: .pointer (some ⟨w.heap.size, 0, none⟩) :: .pointer (some ⟨g2, 0, none⟩) :: .int .i64 3 :: .pointer (some ⟨g4, 0, none⟩) :: x5 :: x6 :: c7 :: x8 :: x9 :: x10 :: x11 :: x12 :: x13 :: x14 :: x15 :: x16 :: x17 :: x18 :: x19 :: x20 :: x21 :: x22 :: x23 :: x24 :: x25 :: x26 :: x27 :: x28 :: x29 :: x30 :: x31 :: x32 :: x33 :: x34 :: x35 :: x36 :: x37 :: x38 :: x39 :: x40 :: x41 :: x42 :: x43 :: x44 :: x45 :: x46 :: x47 :: x48 :: x49 :: c50 :: c51 :: c52 :: c53 :: c54 :: c55 :: c56 :: c57 :: c58 :: c59 :: c60 :: c61 :: c62 :: []), []⟩ w1)
    (hK : ∀ (x5 x6 x8 x9 x10 x12 x13 x14 x15 x16 x17 x18 x19 x20 x21 x22 x23 x24 x25 x26 x27 x28 x29 x30 x31 x32 x33 x34 x35 x36 x37 x38 x39 x40 x41 x42 x43 x44 x45 x46 x47 x48 x49 : Value) (w1 : World), (inr64 (a.i + b.i + c.i) ∧ Aside0 (w1.heap[w.heap.size]? = some (.cells (row18 a b c) 34 (0, 0))) ∧ Aside0 (w1.heap[g2]? = some (.cells (row6 Row6.z) 33 (0, 0))) ∧ Aside0 (w1.heap[g4]? = some (.cells #[.int .i64 p0, .int .i64 (a.i + b.i + c.i), .int .i64 p2, .int .i64 p3, .int .i64 p4, .int .i64 p5] 66 (0, 0))) ∧ Aside0 (Below w.heap.size w w1)) → K ⟨List.toArray (c0 :: .pointer (some ⟨w.heap.size, 0, none⟩) :: .pointer (some ⟨g2, 0, none⟩) :: .int .i64 0 :: .pointer (some ⟨g4, 0, none⟩) :: x5 :: x6 :: c7 :: x8 :: x9 :: x10 :: .int .i64 2 :: x12 :: x13 :: x14 :: x15 :: x16 :: x17 :: x18 :: x19 :: x20 :: x21 :: x22 :: x23 :: x24 :: x25 :: x26 :: x27 :: x28 :: x29 :: x30 :: x31 :: x32 :: x33 :: x34 :: x35 :: x36 :: x37 :: x38 :: x39 :: x40 :: x41 :: x42 :: x43 :: x44 :: x45 :: x46 :: x47 :: x48 :: x49 :: c50 :: c51 :: c52 :: c53 :: c54 :: c55 :: c56 :: c57 :: c58 :: c59 :: c60 :: c61 :: c62 :: []), []⟩ w1) :
    Code.wp Try.prog lombardref16_Net.body (Exit.then K Q0) ⟨List.toArray (c0 :: .pointer (some ⟨w.heap.size, 0, none⟩) :: .pointer (some ⟨g2, 0, none⟩) :: .int .i64 0 :: .pointer (some ⟨g4, 0, none⟩) :: u5 :: u6 :: c7 :: u8 :: u9 :: u10 :: .int .i64 1 :: u12 :: u13 :: u14 :: u15 :: u16 :: u17 :: u18 :: u19 :: u20 :: u21 :: u22 :: u23 :: u24 :: u25 :: u26 :: u27 :: u28 :: u29 :: u30 :: u31 :: u32 :: u33 :: u34 :: u35 :: u36 :: u37 :: u38 :: u39 :: u40 :: u41 :: u42 :: u43 :: u44 :: u45 :: u46 :: u47 :: u48 :: u49 :: c50 :: c51 :: c52 :: c53 :: c54 :: c55 :: c56 :: c57 :: c58 :: c59 :: c60 :: c61 :: c62 :: []), []⟩ v0 := by
  conv => arg 2; whnf
  have HERR := Aside0.mk herr
  have HKK := Aside0.mk hK
  clear herr hK
  have hix0 := fun W => lombardref16_Net.ix0 a b c W
  have hix1 := fun W => lombardref16_Net.ix1 a b c W
  have hix2 := fun W => lombardref16_Net.ix2 a b c W
  go_wp2_with ((with_reducible refine gate_dst (N := 14) rfl ?_); refine wpList_load_row rfl 34 (.tmp 1) rfl w.heap.size rfl 34 _ (0, 0) _ BK1.out Try.underlying34 rfl (by kernel_rfl) ?_)
  refine wp_loop_rounds 4 ?_
  rw [rounds_succ]
  have R6 := Aside0.mk (Kd.R_nil (Kd.int .i64) 2 v0 w.heap.size (fun _ => True))
  have hjx := fun W => lombardref16_Net.jx1 a W
  obtain ⟨hnb, hnk⟩ := newrow6 v0 #[.int .i64 0, .int .i64 0, .int .i64 0, .int .i64 0, .int .i64 0, .int .i64 0] #[.int .i64 a.o, .int .i64 a.i, .int .i64 a.u, .int .i64 a.n, .int .i64 a.w, .int .i64 a.c] 33
  go_wp2_with ((with_reducible refine gate_store (t := 33) (p := 8) (v := .tmp 17) rfl ?_); refine Shut.out ?_)
  unfold Shut
  refine store_rowTo rfl 33 (.tmp 8) (.tmp 17) rfl rfl v0.heap.size #[.int .i64 a.o, .int .i64 a.i, .int .i64 a.u, .int .i64 a.n, .int .i64 a.w, .int .i64 a.c] rfl rfl 33 _ (blk_new v0 _) (by kernel_rfl) rfl (all6 _ _ _ _ _ _) ?_
  have n_HB := Aside0.mk (below_step HB.out hnb)
  have n_BK1 := Aside0.mk (blk_below BK1.out hnb)
  have n_BK2 := Aside0.mk (blk_below BK2.out hnb)
  have n_BK4 := Aside0.mk (blk_below BK4.out hnb)
  have n_R6 := Aside0.mk (Kd.R_below R6.out hnb)
  have n_BK8 := Aside0.mk hnk
  clear HB BK1 BK2 BK4 R6 hnb hnk
  generalize (v0.alloc (.cells #[.int .i64 0, .int .i64 0, .int .i64 0, .int .i64 0, .int .i64 0, .int .i64 0] 33)).setRow v0.heap.size #[.int .i64 a.o, .int .i64 a.i, .int .i64 a.u, .int .i64 a.n, .int .i64 a.w, .int .i64 a.c] = z1_0 at n_HB n_BK1 n_BK2 n_BK4 n_BK8 n_R6 ⊢
  generalize v0.heap.size = g8 at n_BK8 ⊢
  have HB := n_HB
  clear n_HB
  have BK1 := n_BK1
  clear n_BK1
  have BK2 := n_BK2
  clear n_BK2
  have BK4 := n_BK4
  clear n_BK4
  have R6 := n_R6
  clear n_R6
  have BK8 := n_BK8
  clear n_BK8
  have hk0 : z1_0.cell? ⟨g8, 0, none⟩ = some (.int .i64 a.o) := blk_cell BK8.out 0
  have hk1 : z1_0.cell? ⟨g8, 1, none⟩ = some (.int .i64 a.i) := blk_cell BK8.out 1
  have hk2 : z1_0.cell? ⟨g8, 2, none⟩ = some (.int .i64 a.u) := blk_cell BK8.out 2
  have hk3 : z1_0.cell? ⟨g8, 3, none⟩ = some (.int .i64 a.n) := blk_cell BK8.out 3
  have hk4 : z1_0.cell? ⟨g8, 4, none⟩ = some (.int .i64 a.w) := blk_cell BK8.out 4
  have hk5 : z1_0.cell? ⟨g8, 5, none⟩ = some (.int .i64 a.c) := blk_cell BK8.out 5
  go_wp2_with ((with_reducible refine gate_builtin (b := .append) (xs := #[.tmp 18, .tmp 34]) rfl ?_); refine Shut.out ?_)
  unfold Shut
  refine Kd.R_append (Kd.int .i64) (w0 := w) w.heap.size rfl (.tmp 18) (.tmp 34) 53 2 (.int .i64 0) 8 rfl Try.underlying53 info2 rfl (by decide) (by omega) (.slice none 0 0) ([] : List Int) a.i [.int .i64 a.i] (fun _ => True) (fun _ => False) rfl rfl ?aP (fun _ hk => hk.elim) ?aF ?aO ?aB ?aS ?aL ?_
  case aP => exact rfl
  case aB => exact HB.out
  case aF => exact (fun _ _ => trivial)
  case aO => exact R6.out
  case aS => exact below_size HB.out
  case aL => simp
  intro u1_0 y1_0 ho hb hg hat
  have n_BK1 := Aside0.mk (blk_grown BK1.out hg (Kd.R_ne R6.out BK1.out (by decide)))
  have n_BK2 := Aside0.mk (blk_grown BK2.out hg (Kd.R_ne R6.out BK2.out (by decide)))
  have n_BK4 := Aside0.mk (blk_grown BK4.out hg (Kd.R_ne R6.out BK4.out (by decide)))
  have n_HB := Aside0.mk hb
  have n_R6 : Aside0 (Kd.R (Kd.int .i64) 2 y1_0 w.heap.size (fun _ => True) u1_0 ([a.i] : List Int)) := ⟨ho⟩
  clear HB BK1 BK2 BK4 R6 BK8 hk0 hk1 hk2 hk3 hk4 hk5 ho hb hg hat hjx
  have HB := n_HB
  clear n_HB
  have BK1 := n_BK1
  clear n_BK1
  have BK2 := n_BK2
  clear n_BK2
  have BK4 := n_BK4
  clear n_BK4
  have R6 := n_R6
  clear n_R6
  go_wp2_with fail
  rw [rounds_succ]
  have hjx := fun W => lombardref16_Net.jx1 b W
  obtain ⟨hnb, hnk⟩ := newrow6 y1_0 #[.int .i64 0, .int .i64 0, .int .i64 0, .int .i64 0, .int .i64 0, .int .i64 0] #[.int .i64 b.o, .int .i64 b.i, .int .i64 b.u, .int .i64 b.n, .int .i64 b.w, .int .i64 b.c] 33
  go_wp2_with ((with_reducible refine gate_store (t := 33) (p := 8) (v := .tmp 17) rfl ?_); refine Shut.out ?_)
  unfold Shut
  refine store_rowTo rfl 33 (.tmp 8) (.tmp 17) rfl rfl y1_0.heap.size #[.int .i64 b.o, .int .i64 b.i, .int .i64 b.u, .int .i64 b.n, .int .i64 b.w, .int .i64 b.c] rfl rfl 33 _ (blk_new y1_0 _) (by kernel_rfl) rfl (all6 _ _ _ _ _ _) ?_
  have n_HB := Aside0.mk (below_step HB.out hnb)
  have n_BK1 := Aside0.mk (blk_below BK1.out hnb)
  have n_BK2 := Aside0.mk (blk_below BK2.out hnb)
  have n_BK4 := Aside0.mk (blk_below BK4.out hnb)
  have n_R6 := Aside0.mk (Kd.R_below R6.out hnb)
  have n_BK8 := Aside0.mk hnk
  clear HB BK1 BK2 BK4 R6 hnb hnk
  generalize (y1_0.alloc (.cells #[.int .i64 0, .int .i64 0, .int .i64 0, .int .i64 0, .int .i64 0, .int .i64 0] 33)).setRow y1_0.heap.size #[.int .i64 b.o, .int .i64 b.i, .int .i64 b.u, .int .i64 b.n, .int .i64 b.w, .int .i64 b.c] = z1_1 at n_HB n_BK1 n_BK2 n_BK4 n_BK8 n_R6 ⊢
  generalize y1_0.heap.size = g8 at n_BK8 ⊢
  have HB := n_HB
  clear n_HB
  have BK1 := n_BK1
  clear n_BK1
  have BK2 := n_BK2
  clear n_BK2
  have BK4 := n_BK4
  clear n_BK4
  have R6 := n_R6
  clear n_R6
  have BK8 := n_BK8
  clear n_BK8
  have hk0 : z1_1.cell? ⟨g8, 0, none⟩ = some (.int .i64 b.o) := blk_cell BK8.out 0
  have hk1 : z1_1.cell? ⟨g8, 1, none⟩ = some (.int .i64 b.i) := blk_cell BK8.out 1
  have hk2 : z1_1.cell? ⟨g8, 2, none⟩ = some (.int .i64 b.u) := blk_cell BK8.out 2
  have hk3 : z1_1.cell? ⟨g8, 3, none⟩ = some (.int .i64 b.n) := blk_cell BK8.out 3
  have hk4 : z1_1.cell? ⟨g8, 4, none⟩ = some (.int .i64 b.w) := blk_cell BK8.out 4
  have hk5 : z1_1.cell? ⟨g8, 5, none⟩ = some (.int .i64 b.c) := blk_cell BK8.out 5
  go_wp2_with ((with_reducible refine gate_builtin (b := .append) (xs := #[.tmp 18, .tmp 34]) rfl ?_); refine Shut.out ?_)
  unfold Shut
  refine Kd.R_append (Kd.int .i64) (w0 := w) w.heap.size rfl (.tmp 18) (.tmp 34) 53 2 (.int .i64 0) 8 rfl Try.underlying53 info2 rfl (by decide) (by omega) u1_0 ([a.i] : List Int) b.i [.int .i64 b.i] (fun _ => True) (fun _ => False) rfl rfl ?aP (fun _ hk => hk.elim) ?aF ?aO ?aB ?aS ?aL ?_
  case aP => exact rfl
  case aB => exact HB.out
  case aF => exact (fun _ _ => trivial)
  case aO => exact R6.out
  case aS => exact below_size HB.out
  case aL => simp
  intro u1_1 y1_1 ho hb hg hat
  have n_BK1 := Aside0.mk (blk_grown BK1.out hg (Kd.R_ne R6.out BK1.out (by decide)))
  have n_BK2 := Aside0.mk (blk_grown BK2.out hg (Kd.R_ne R6.out BK2.out (by decide)))
  have n_BK4 := Aside0.mk (blk_grown BK4.out hg (Kd.R_ne R6.out BK4.out (by decide)))
  have n_HB := Aside0.mk hb
  have n_R6 : Aside0 (Kd.R (Kd.int .i64) 2 y1_1 w.heap.size (fun _ => True) u1_1 ([a.i, b.i] : List Int)) := ⟨ho⟩
  clear HB BK1 BK2 BK4 R6 BK8 hk0 hk1 hk2 hk3 hk4 hk5 ho hb hg hat hjx
  have HB := n_HB
  clear n_HB
  have BK1 := n_BK1
  clear n_BK1
  have BK2 := n_BK2
  clear n_BK2
  have BK4 := n_BK4
  clear n_BK4
  have R6 := n_R6
  clear n_R6
  go_wp2_with fail
  rw [rounds_succ]
  have hjx := fun W => lombardref16_Net.jx1 c W
  obtain ⟨hnb, hnk⟩ := newrow6 y1_1 #[.int .i64 0, .int .i64 0, .int .i64 0, .int .i64 0, .int .i64 0, .int .i64 0] #[.int .i64 c.o, .int .i64 c.i, .int .i64 c.u, .int .i64 c.n, .int .i64 c.w, .int .i64 c.c] 33
  go_wp2_with ((with_reducible refine gate_store (t := 33) (p := 8) (v := .tmp 17) rfl ?_); refine Shut.out ?_)
  unfold Shut
  refine store_rowTo rfl 33 (.tmp 8) (.tmp 17) rfl rfl y1_1.heap.size #[.int .i64 c.o, .int .i64 c.i, .int .i64 c.u, .int .i64 c.n, .int .i64 c.w, .int .i64 c.c] rfl rfl 33 _ (blk_new y1_1 _) (by kernel_rfl) rfl (all6 _ _ _ _ _ _) ?_
  have n_HB := Aside0.mk (below_step HB.out hnb)
  have n_BK1 := Aside0.mk (blk_below BK1.out hnb)
  have n_BK2 := Aside0.mk (blk_below BK2.out hnb)
  have n_BK4 := Aside0.mk (blk_below BK4.out hnb)
  have n_R6 := Aside0.mk (Kd.R_below R6.out hnb)
  have n_BK8 := Aside0.mk hnk
  clear HB BK1 BK2 BK4 R6 hnb hnk
  generalize (y1_1.alloc (.cells #[.int .i64 0, .int .i64 0, .int .i64 0, .int .i64 0, .int .i64 0, .int .i64 0] 33)).setRow y1_1.heap.size #[.int .i64 c.o, .int .i64 c.i, .int .i64 c.u, .int .i64 c.n, .int .i64 c.w, .int .i64 c.c] = z1_2 at n_HB n_BK1 n_BK2 n_BK4 n_BK8 n_R6 ⊢
  generalize y1_1.heap.size = g8 at n_BK8 ⊢
  have HB := n_HB
  clear n_HB
  have BK1 := n_BK1
  clear n_BK1
  have BK2 := n_BK2
  clear n_BK2
  have BK4 := n_BK4
  clear n_BK4
  have R6 := n_R6
  clear n_R6
  have BK8 := n_BK8
  clear n_BK8
  have hk0 : z1_2.cell? ⟨g8, 0, none⟩ = some (.int .i64 c.o) := blk_cell BK8.out 0
  have hk1 : z1_2.cell? ⟨g8, 1, none⟩ = some (.int .i64 c.i) := blk_cell BK8.out 1
  have hk2 : z1_2.cell? ⟨g8, 2, none⟩ = some (.int .i64 c.u) := blk_cell BK8.out 2
  have hk3 : z1_2.cell? ⟨g8, 3, none⟩ = some (.int .i64 c.n) := blk_cell BK8.out 3
  have hk4 : z1_2.cell? ⟨g8, 4, none⟩ = some (.int .i64 c.w) := blk_cell BK8.out 4
  have hk5 : z1_2.cell? ⟨g8, 5, none⟩ = some (.int .i64 c.c) := blk_cell BK8.out 5
  go_wp2_with ((with_reducible refine gate_builtin (b := .append) (xs := #[.tmp 18, .tmp 34]) rfl ?_); refine Shut.out ?_)
  unfold Shut
  refine Kd.R_append (Kd.int .i64) (w0 := w) w.heap.size rfl (.tmp 18) (.tmp 34) 53 2 (.int .i64 0) 8 rfl Try.underlying53 info2 rfl (by decide) (by omega) u1_1 ([a.i, b.i] : List Int) c.i [.int .i64 c.i] (fun _ => True) (fun _ => False) rfl rfl ?aP (fun _ hk => hk.elim) ?aF ?aO ?aB ?aS ?aL ?_
  case aP => exact rfl
  case aB => exact HB.out
  case aF => exact (fun _ _ => trivial)
  case aO => exact R6.out
  case aS => exact below_size HB.out
  case aL => simp
  intro u1_2 y1_2 ho hb hg hat
  have n_BK1 := Aside0.mk (blk_grown BK1.out hg (Kd.R_ne R6.out BK1.out (by decide)))
  have n_BK2 := Aside0.mk (blk_grown BK2.out hg (Kd.R_ne R6.out BK2.out (by decide)))
  have n_BK4 := Aside0.mk (blk_grown BK4.out hg (Kd.R_ne R6.out BK4.out (by decide)))
  have n_HB := Aside0.mk hb
  have n_R6 : Aside0 (Kd.R (Kd.int .i64) 2 y1_2 w.heap.size (fun _ => True) u1_2 ([a.i, b.i, c.i] : List Int)) := ⟨ho⟩
  clear HB BK1 BK2 BK4 R6 BK8 hk0 hk1 hk2 hk3 hk4 hk5 ho hb hg hat hjx
  have HB := n_HB
  clear n_HB
  have BK1 := n_BK1
  clear n_BK1
  have BK2 := n_BK2
  clear n_BK2
  have BK4 := n_BK4
  clear n_BK4
  have R6 := n_R6
  clear n_R6
  go_wp2_with fail
  rw [rounds_succ]
  obtain ⟨A6, c6, hA6⟩ := Kd.R_slice R6.out
  subst hA6
  go_wp2_with fail
  obtain ⟨⟨s1, e1⟩, hse⟩ : ∃ r, r = (if inr64 (a.i + b.i + c.i) then ((a.i + b.i + c.i), (0 : Int)) else (0, 3)) := ⟨_, rfl⟩
  have hsum := lombardref16_Net.sum3 a.i b.i c.i (by have := ha.out; unfold Row6.inr at this; exact this.2.1) (by have := hb0.out; unfold Row6.inr at this; exact this.2.1) (by have := hc.out; unfold Row6.inr at this; exact this.2.1)
  rw [← hse] at hsum
  have HSE1 := Aside0.mk hse
  have HSUM := Aside0.mk hsum
  clear hse hsum
  with_reducible refine (lombardref16_Net.sumc HSUM.out (Kd.R_reads' R6.out).2.2 (Kd.R_reads' R6.out).2.1).mono ?_
  rintro e x1 ⟨rfl, hb⟩
  have n_HB := Aside0.mk (below_step HB.out hb)
  have n_BK1 := Aside0.mk (blk_below BK1.out hb)
  have n_BK2 := Aside0.mk (blk_below BK2.out hb)
  have n_BK4 := Aside0.mk (blk_below BK4.out hb)
  clear HB BK1 BK2 BK4 R6 hb HSUM
  have HB := n_HB
  clear n_HB
  have BK1 := n_BK1
  clear n_BK1
  have BK2 := n_BK2
  clear n_BK2
  have BK4 := n_BK4
  clear n_BK4
  by_cases hi : inr64 (a.i + b.i + c.i)
  case neg =>
    have hq := HSE1.out
    rw [if_neg hi] at hq
    simp only [Prod.mk.injEq] at hq
    obtain ⟨rfl, rfl⟩ := hq
    have HI := Aside0.mk hi
    clear hi
    go_wp2_with ((with_reducible refine gate_store (t := 33) (p := 2) (v := .tmp 44) rfl ?_); refine Shut.out ?_)
    unfold Shut
    refine store_rowTo rfl 33 (.tmp 2) (.tmp 44) rfl rfl g2 (row6 Row6.z) rfl rfl 33 _ BK2.out (by kernel_rfl) rfl (all6n _ _ _ _ _ _) ?_
    have HBn := Aside0.mk (row_below (g := g2) HB.out (by omega) (row6 Row6.z))
    have BKn := Aside0.mk (setRow_heap _ _ _ (row6 Row6.z) _ _ BK2.out)
    clear HB BK2
    go_wp2_with fail
    exact HERR.out _ _ _ _ _ _ _ _ _ _ _ _ _ _ _ _ _ _ _ _ _ _ _ _ _ _ _ _ _ _ _ _ _ _ _ _ _ _ _ _ _ _ _ _ _ ⟨HI.out, BKn, HBn⟩
  have hq := HSE1.out
  rw [if_pos hi] at hq
  simp only [Prod.mk.injEq] at hq
  obtain ⟨hs, rfl⟩ := hq
  have HS := Aside0.mk hs
  have HI := Aside0.mk hi
  clear hs hi HSE1 HERR
  have kc : x1.cell? ⟨g4, 1, none⟩ = some (.int .i64 0) := blk_cell BK4.out 1
  have kf := blk_frozen BK4.out 1
  go_wp2_with fail
  have n_HB := Aside0.mk (HB.out.setCell (p := ⟨g4, 1, none⟩) (show w.heap.size ≤ g4 by omega) (.int .i64 s1))
  have n_BK1 := Aside0.mk ((Below.heap_setCell x1 ⟨g4, 1, none⟩ (.int .i64 s1) w.heap.size (show w.heap.size ≠ g4 by omega)).trans BK1.out)
  have n_BK2 := Aside0.mk ((Below.heap_setCell x1 ⟨g4, 1, none⟩ (.int .i64 s1) g2 (show g2 ≠ g4 by omega)).trans BK2.out)
  have n_BK4 := Aside0.mk (blk_put BK4.out 1 (.int .i64 s1) (show _ = (#[.int .i64 p0, .int .i64 (a.i + b.i + c.i), .int .i64 p2, .int .i64 p3, .int .i64 p4, .int .i64 p5] : Array Value) from by rw [HS.out]; rfl))
  exact HKK.out _ _ _ _ _ _ _ _ _ _ _ _ _ _ _ _ _ _ _ _ _ _ _ _ _ _ _ _ _ _ _ _ _ _ _ _ _ _ _ _ _ _ _ _ ⟨HI.out, n_BK1, n_BK2, n_BK4, n_HB⟩
set_option maxHeartbeats 16000000 in
set_option maxRecDepth 1000000 in
theorem lombardref16_Net.round2 {a b c : Row6} (ha : Aside0 a.inr) (hb0 : Aside0 b.inr) (hc : Aside0 c.inr) {w v0 : World} {g2 g4 : Nat} (hlt2 : w.heap.size < g2) (hlt4 : g2 < g4) {p0 p1 p3 p4 p5 : Int} {K : Act → World → Prop} {Q0 : Exit → Act → World → Prop} {c0 c7 c50 c51 c52 c53 c54 c55 c56 c57 c58 c59 c60 c61 c62 : Value} {u5 u6 u8 u9 u10 u12 u13 u14 u15 u16 u17 u18 u19 u20 u21 u22 u23 u24 u25 u26 u27 u28 u29 u30 u31 u32 u33 u34 u35 u36 u37 u38 u39 u40 u41 u42 u43 u44 u45 u46 u47 u48 u49 : Value}
    (BK1 : Aside0 (v0.heap[w.heap.size]? = some (.cells (row18 a b c) 34 (0, 0)))) (BK2 : Aside0 (v0.heap[g2]? = some (.cells (row6 Row6.z) 33 (0, 0)))) (BK4 : Aside0 (v0.heap[g4]? = some (.cells #[.int .i64 p0, .int .i64 p1, .int .i64 0, .int .i64 p3, .int .i64 p4, .int .i64 p5] 66 (0, 0)))) (HB : Aside0 (Below w.heap.size w v0))
    (herr : ∀ (x5 x6 x8 x9 x10 x11 x12 x13 x14 x15 x16 x17 x18 x19 x20 x21 x22 x23 x24 x25 x26 x27 x28 x29 x30 x31 x32 x33 x34 x35 x36 x37 x38 x39 x40 x41 x42 x43 x44 x45 x46 x47 x48 x49 : Value) (w1 : World), (¬ inr64 (a.u + b.u + c.u) ∧ Aside0 (w1.heap[g2]? = some (.cells (row6 Row6.z) 33 (0, 0))) ∧ Aside0 (Below w.heap.size w w1)) → Q0 Exit.ret ⟨List.toArray (c0 :: .pointer (some ⟨w.heap.size, 0, none⟩) :: .pointer (some ⟨g2, 0, none⟩) :: .int .i64 3 :: .pointer (some ⟨g4, 0, none⟩) :: x5 :: x6 :: c7 :: x8 :: x9 :: x10 :: x11 :: x12 :: x13 :: x14 :: x15 :: x16 :: x17 :: x18 :: x19 :: x20 :: x21 :: x22 :: x23 :: x24 :: x25 :: x26 :: x27 :: x28 :: x29 :: x30 :: x31 :: x32 :: x33 :: x34 :: x35 :: x36 :: x37 :: x38 :: x39 :: x40 :: x41 :: x42 :: x43 :: x44 :: x45 :: x46 :: x47 :: x48 :: x49 :: c50 :: c51 :: c52 :: c53 :: c54 :: c55 :: c56 :: c57 :: c58 :: c59 :: c60 :: c61 :: c62 :: []), []⟩ w1)
    (hK : ∀ (x5 x6 x8 x9 x10 x12 x13 x14 x15 x16 x17 x18 x19 x20 x21 x22 x23 x24 x25 x26 x27 x28 x29 x30 x31 x32 x33 x34 x35 x36 x37 x38 x39 x40 x41 x42 x43 x44 x45 x46 x47 x48 x49 : Value) (w1 : World), (inr64 (a.u + b.u + c.u) ∧ Aside0 (w1.heap[w.heap.size]? = some (.cells (row18 a b c) 34 (0, 0))) ∧ Aside0 (w1.heap[g2]? = some (.cells (row6 Row6.z) 33 (0, 0))) ∧ Aside0 (w1.heap[g4]? = some (.cells #[.int .i64 p0, .int .i64 p1, .int .i64 (a.u + b.u + c.u), .int .i64 p3, .int .i64 p4, .int .i64 p5] 66 (0, 0))) ∧ Aside0 (Below w.heap.size w w1)) → K ⟨List.toArray (c0 :: .pointer (some ⟨w.heap.size, 0, none⟩) :: .pointer (some ⟨g2, 0, none⟩) :: .int .i64 0 :: .pointer (some ⟨g4, 0, none⟩) :: x5 :: x6 :: c7 :: x8 :: x9 :: x10 :: .int .i64 3 :: x12 :: x13 :: x14 :: x15 :: x16 :: x17 :: x18 :: x19 :: x20 :: x21 :: x22 :: x23 :: x24 :: x25 :: x26 :: x27 :: x28 :: x29 :: x30 :: x31 :: x32 :: x33 :: x34 :: x35 :: x36 :: x37 :: x38 :: x39 :: x40 :: x41 :: x42 :: x43 :: x44 :: x45 :: x46 :: x47 :: x48 :: x49 :: c50 :: c51 :: c52 :: c53 :: c54 :: c55 :: c56 :: c57 :: c58 :: c59 :: c60 :: c61 :: c62 :: []), []⟩ w1) :
    Code.wp Try.prog lombardref16_Net.body (Exit.then K Q0) ⟨List.toArray (c0 :: .pointer (some ⟨w.heap.size, 0, none⟩) :: .pointer (some ⟨g2, 0, none⟩) :: .int .i64 0 :: .pointer (some ⟨g4, 0, none⟩) :: u5 :: u6 :: c7 :: u8 :: u9 :: u10 :: .int .i64 2 :: u12 :: u13 :: u14 :: u15 :: u16 :: u17 :: u18 :: u19 :: u20 :: u21 :: u22 :: u23 :: u24 :: u25 :: u26 :: u27 :: u28 :: u29 :: u30 :: u31 :: u32 :: u33 :: u34 :: u35 :: u36 :: u37 :: u38 :: u39 :: u40 :: u41 :: u42 :: u43 :: u44 :: u45 :: u46 :: u47 :: u48 :: u49 :: c50 :: c51 :: c52 :: c53 :: c54 :: c55 :: c56 :: c57 :: c58 :: c59 :: c60 :: c61 :: c62 :: []), []⟩ v0 := by
  conv => arg 2; whnf
  have HERR := Aside0.mk herr
  have HKK := Aside0.mk hK
  clear herr hK
  have hix0 := fun W => lombardref16_Net.ix0 a b c W
  have hix1 := fun W => lombardref16_Net.ix1 a b c W
  have hix2 := fun W => lombardref16_Net.ix2 a b c W
  go_wp2_with ((with_reducible refine gate_dst (N := 14) rfl ?_); refine wpList_load_row rfl 34 (.tmp 1) rfl w.heap.size rfl 34 _ (0, 0) _ BK1.out Try.underlying34 rfl (by kernel_rfl) ?_)
  refine wp_loop_rounds 4 ?_
  rw [rounds_succ]
  have R6 := Aside0.mk (Kd.R_nil (Kd.int .i64) 2 v0 w.heap.size (fun _ => True))
  have hjx := fun W => lombardref16_Net.jx2 a W
  obtain ⟨hnb, hnk⟩ := newrow6 v0 #[.int .i64 0, .int .i64 0, .int .i64 0, .int .i64 0, .int .i64 0, .int .i64 0] #[.int .i64 a.o, .int .i64 a.i, .int .i64 a.u, .int .i64 a.n, .int .i64 a.w, .int .i64 a.c] 33
  go_wp2_with ((with_reducible refine gate_store (t := 33) (p := 8) (v := .tmp 17) rfl ?_); refine Shut.out ?_)
  unfold Shut
  refine store_rowTo rfl 33 (.tmp 8) (.tmp 17) rfl rfl v0.heap.size #[.int .i64 a.o, .int .i64 a.i, .int .i64 a.u, .int .i64 a.n, .int .i64 a.w, .int .i64 a.c] rfl rfl 33 _ (blk_new v0 _) (by kernel_rfl) rfl (all6 _ _ _ _ _ _) ?_
  have n_HB := Aside0.mk (below_step HB.out hnb)
  have n_BK1 := Aside0.mk (blk_below BK1.out hnb)
  have n_BK2 := Aside0.mk (blk_below BK2.out hnb)
  have n_BK4 := Aside0.mk (blk_below BK4.out hnb)
  have n_R6 := Aside0.mk (Kd.R_below R6.out hnb)
  have n_BK8 := Aside0.mk hnk
  clear HB BK1 BK2 BK4 R6 hnb hnk
  generalize (v0.alloc (.cells #[.int .i64 0, .int .i64 0, .int .i64 0, .int .i64 0, .int .i64 0, .int .i64 0] 33)).setRow v0.heap.size #[.int .i64 a.o, .int .i64 a.i, .int .i64 a.u, .int .i64 a.n, .int .i64 a.w, .int .i64 a.c] = z2_0 at n_HB n_BK1 n_BK2 n_BK4 n_BK8 n_R6 ⊢
  generalize v0.heap.size = g8 at n_BK8 ⊢
  have HB := n_HB
  clear n_HB
  have BK1 := n_BK1
  clear n_BK1
  have BK2 := n_BK2
  clear n_BK2
  have BK4 := n_BK4
  clear n_BK4
  have R6 := n_R6
  clear n_R6
  have BK8 := n_BK8
  clear n_BK8
  have hk0 : z2_0.cell? ⟨g8, 0, none⟩ = some (.int .i64 a.o) := blk_cell BK8.out 0
  have hk1 : z2_0.cell? ⟨g8, 1, none⟩ = some (.int .i64 a.i) := blk_cell BK8.out 1
  have hk2 : z2_0.cell? ⟨g8, 2, none⟩ = some (.int .i64 a.u) := blk_cell BK8.out 2
  have hk3 : z2_0.cell? ⟨g8, 3, none⟩ = some (.int .i64 a.n) := blk_cell BK8.out 3
  have hk4 : z2_0.cell? ⟨g8, 4, none⟩ = some (.int .i64 a.w) := blk_cell BK8.out 4
  have hk5 : z2_0.cell? ⟨g8, 5, none⟩ = some (.int .i64 a.c) := blk_cell BK8.out 5
  go_wp2_with ((with_reducible refine gate_builtin (b := .append) (xs := #[.tmp 18, .tmp 34]) rfl ?_); refine Shut.out ?_)
  unfold Shut
  refine Kd.R_append (Kd.int .i64) (w0 := w) w.heap.size rfl (.tmp 18) (.tmp 34) 53 2 (.int .i64 0) 8 rfl Try.underlying53 info2 rfl (by decide) (by omega) (.slice none 0 0) ([] : List Int) a.u [.int .i64 a.u] (fun _ => True) (fun _ => False) rfl rfl ?aP (fun _ hk => hk.elim) ?aF ?aO ?aB ?aS ?aL ?_
  case aP => exact rfl
  case aB => exact HB.out
  case aF => exact (fun _ _ => trivial)
  case aO => exact R6.out
  case aS => exact below_size HB.out
  case aL => simp
  intro u2_0 y2_0 ho hb hg hat
  have n_BK1 := Aside0.mk (blk_grown BK1.out hg (Kd.R_ne R6.out BK1.out (by decide)))
  have n_BK2 := Aside0.mk (blk_grown BK2.out hg (Kd.R_ne R6.out BK2.out (by decide)))
  have n_BK4 := Aside0.mk (blk_grown BK4.out hg (Kd.R_ne R6.out BK4.out (by decide)))
  have n_HB := Aside0.mk hb
  have n_R6 : Aside0 (Kd.R (Kd.int .i64) 2 y2_0 w.heap.size (fun _ => True) u2_0 ([a.u] : List Int)) := ⟨ho⟩
  clear HB BK1 BK2 BK4 R6 BK8 hk0 hk1 hk2 hk3 hk4 hk5 ho hb hg hat hjx
  have HB := n_HB
  clear n_HB
  have BK1 := n_BK1
  clear n_BK1
  have BK2 := n_BK2
  clear n_BK2
  have BK4 := n_BK4
  clear n_BK4
  have R6 := n_R6
  clear n_R6
  go_wp2_with fail
  rw [rounds_succ]
  have hjx := fun W => lombardref16_Net.jx2 b W
  obtain ⟨hnb, hnk⟩ := newrow6 y2_0 #[.int .i64 0, .int .i64 0, .int .i64 0, .int .i64 0, .int .i64 0, .int .i64 0] #[.int .i64 b.o, .int .i64 b.i, .int .i64 b.u, .int .i64 b.n, .int .i64 b.w, .int .i64 b.c] 33
  go_wp2_with ((with_reducible refine gate_store (t := 33) (p := 8) (v := .tmp 17) rfl ?_); refine Shut.out ?_)
  unfold Shut
  refine store_rowTo rfl 33 (.tmp 8) (.tmp 17) rfl rfl y2_0.heap.size #[.int .i64 b.o, .int .i64 b.i, .int .i64 b.u, .int .i64 b.n, .int .i64 b.w, .int .i64 b.c] rfl rfl 33 _ (blk_new y2_0 _) (by kernel_rfl) rfl (all6 _ _ _ _ _ _) ?_
  have n_HB := Aside0.mk (below_step HB.out hnb)
  have n_BK1 := Aside0.mk (blk_below BK1.out hnb)
  have n_BK2 := Aside0.mk (blk_below BK2.out hnb)
  have n_BK4 := Aside0.mk (blk_below BK4.out hnb)
  have n_R6 := Aside0.mk (Kd.R_below R6.out hnb)
  have n_BK8 := Aside0.mk hnk
  clear HB BK1 BK2 BK4 R6 hnb hnk
  generalize (y2_0.alloc (.cells #[.int .i64 0, .int .i64 0, .int .i64 0, .int .i64 0, .int .i64 0, .int .i64 0] 33)).setRow y2_0.heap.size #[.int .i64 b.o, .int .i64 b.i, .int .i64 b.u, .int .i64 b.n, .int .i64 b.w, .int .i64 b.c] = z2_1 at n_HB n_BK1 n_BK2 n_BK4 n_BK8 n_R6 ⊢
  generalize y2_0.heap.size = g8 at n_BK8 ⊢
  have HB := n_HB
  clear n_HB
  have BK1 := n_BK1
  clear n_BK1
  have BK2 := n_BK2
  clear n_BK2
  have BK4 := n_BK4
  clear n_BK4
  have R6 := n_R6
  clear n_R6
  have BK8 := n_BK8
  clear n_BK8
  have hk0 : z2_1.cell? ⟨g8, 0, none⟩ = some (.int .i64 b.o) := blk_cell BK8.out 0
  have hk1 : z2_1.cell? ⟨g8, 1, none⟩ = some (.int .i64 b.i) := blk_cell BK8.out 1
  have hk2 : z2_1.cell? ⟨g8, 2, none⟩ = some (.int .i64 b.u) := blk_cell BK8.out 2
  have hk3 : z2_1.cell? ⟨g8, 3, none⟩ = some (.int .i64 b.n) := blk_cell BK8.out 3
  have hk4 : z2_1.cell? ⟨g8, 4, none⟩ = some (.int .i64 b.w) := blk_cell BK8.out 4
  have hk5 : z2_1.cell? ⟨g8, 5, none⟩ = some (.int .i64 b.c) := blk_cell BK8.out 5
  go_wp2_with ((with_reducible refine gate_builtin (b := .append) (xs := #[.tmp 18, .tmp 34]) rfl ?_); refine Shut.out ?_)
  unfold Shut
  refine Kd.R_append (Kd.int .i64) (w0 := w) w.heap.size rfl (.tmp 18) (.tmp 34) 53 2 (.int .i64 0) 8 rfl Try.underlying53 info2 rfl (by decide) (by omega) u2_0 ([a.u] : List Int) b.u [.int .i64 b.u] (fun _ => True) (fun _ => False) rfl rfl ?aP (fun _ hk => hk.elim) ?aF ?aO ?aB ?aS ?aL ?_
  case aP => exact rfl
  case aB => exact HB.out
  case aF => exact (fun _ _ => trivial)
  case aO => exact R6.out
  case aS => exact below_size HB.out
  case aL => simp
  intro u2_1 y2_1 ho hb hg hat
  have n_BK1 := Aside0.mk (blk_grown BK1.out hg (Kd.R_ne R6.out BK1.out (by decide)))
  have n_BK2 := Aside0.mk (blk_grown BK2.out hg (Kd.R_ne R6.out BK2.out (by decide)))
  have n_BK4 := Aside0.mk (blk_grown BK4.out hg (Kd.R_ne R6.out BK4.out (by decide)))
  have n_HB := Aside0.mk hb
  have n_R6 : Aside0 (Kd.R (Kd.int .i64) 2 y2_1 w.heap.size (fun _ => True) u2_1 ([a.u, b.u] : List Int)) := ⟨ho⟩
  clear HB BK1 BK2 BK4 R6 BK8 hk0 hk1 hk2 hk3 hk4 hk5 ho hb hg hat hjx
  have HB := n_HB
  clear n_HB
  have BK1 := n_BK1
  clear n_BK1
  have BK2 := n_BK2
  clear n_BK2
  have BK4 := n_BK4
  clear n_BK4
  have R6 := n_R6
  clear n_R6
  go_wp2_with fail
  rw [rounds_succ]
  have hjx := fun W => lombardref16_Net.jx2 c W
  obtain ⟨hnb, hnk⟩ := newrow6 y2_1 #[.int .i64 0, .int .i64 0, .int .i64 0, .int .i64 0, .int .i64 0, .int .i64 0] #[.int .i64 c.o, .int .i64 c.i, .int .i64 c.u, .int .i64 c.n, .int .i64 c.w, .int .i64 c.c] 33
  go_wp2_with ((with_reducible refine gate_store (t := 33) (p := 8) (v := .tmp 17) rfl ?_); refine Shut.out ?_)
  unfold Shut
  refine store_rowTo rfl 33 (.tmp 8) (.tmp 17) rfl rfl y2_1.heap.size #[.int .i64 c.o, .int .i64 c.i, .int .i64 c.u, .int .i64 c.n, .int .i64 c.w, .int .i64 c.c] rfl rfl 33 _ (blk_new y2_1 _) (by kernel_rfl) rfl (all6 _ _ _ _ _ _) ?_
  have n_HB := Aside0.mk (below_step HB.out hnb)
  have n_BK1 := Aside0.mk (blk_below BK1.out hnb)
  have n_BK2 := Aside0.mk (blk_below BK2.out hnb)
  have n_BK4 := Aside0.mk (blk_below BK4.out hnb)
  have n_R6 := Aside0.mk (Kd.R_below R6.out hnb)
  have n_BK8 := Aside0.mk hnk
  clear HB BK1 BK2 BK4 R6 hnb hnk
  generalize (y2_1.alloc (.cells #[.int .i64 0, .int .i64 0, .int .i64 0, .int .i64 0, .int .i64 0, .int .i64 0] 33)).setRow y2_1.heap.size #[.int .i64 c.o, .int .i64 c.i, .int .i64 c.u, .int .i64 c.n, .int .i64 c.w, .int .i64 c.c] = z2_2 at n_HB n_BK1 n_BK2 n_BK4 n_BK8 n_R6 ⊢
  generalize y2_1.heap.size = g8 at n_BK8 ⊢
  have HB := n_HB
  clear n_HB
  have BK1 := n_BK1
  clear n_BK1
  have BK2 := n_BK2
  clear n_BK2
  have BK4 := n_BK4
  clear n_BK4
  have R6 := n_R6
  clear n_R6
  have BK8 := n_BK8
  clear n_BK8
  have hk0 : z2_2.cell? ⟨g8, 0, none⟩ = some (.int .i64 c.o) := blk_cell BK8.out 0
  have hk1 : z2_2.cell? ⟨g8, 1, none⟩ = some (.int .i64 c.i) := blk_cell BK8.out 1
  have hk2 : z2_2.cell? ⟨g8, 2, none⟩ = some (.int .i64 c.u) := blk_cell BK8.out 2
  have hk3 : z2_2.cell? ⟨g8, 3, none⟩ = some (.int .i64 c.n) := blk_cell BK8.out 3
  have hk4 : z2_2.cell? ⟨g8, 4, none⟩ = some (.int .i64 c.w) := blk_cell BK8.out 4
  have hk5 : z2_2.cell? ⟨g8, 5, none⟩ = some (.int .i64 c.c) := blk_cell BK8.out 5
  go_wp2_with ((with_reducible refine gate_builtin (b := .append) (xs := #[.tmp 18, .tmp 34]) rfl ?_); refine Shut.out ?_)
  unfold Shut
  refine Kd.R_append (Kd.int .i64) (w0 := w) w.heap.size rfl (.tmp 18) (.tmp 34) 53 2 (.int .i64 0) 8 rfl Try.underlying53 info2 rfl (by decide) (by omega) u2_1 ([a.u, b.u] : List Int) c.u [.int .i64 c.u] (fun _ => True) (fun _ => False) rfl rfl ?aP (fun _ hk => hk.elim) ?aF ?aO ?aB ?aS ?aL ?_
  case aP => exact rfl
  case aB => exact HB.out
  case aF => exact (fun _ _ => trivial)
  case aO => exact R6.out
  case aS => exact below_size HB.out
  case aL => simp
  intro u2_2 y2_2 ho hb hg hat
  have n_BK1 := Aside0.mk (blk_grown BK1.out hg (Kd.R_ne R6.out BK1.out (by decide)))
  have n_BK2 := Aside0.mk (blk_grown BK2.out hg (Kd.R_ne R6.out BK2.out (by decide)))
  have n_BK4 := Aside0.mk (blk_grown BK4.out hg (Kd.R_ne R6.out BK4.out (by decide)))
  have n_HB := Aside0.mk hb
  have n_R6 : Aside0 (Kd.R (Kd.int .i64) 2 y2_2 w.heap.size (fun _ => True) u2_2 ([a.u, b.u, c.u] : List Int)) := ⟨ho⟩
  clear HB BK1 BK2 BK4 R6 BK8 hk0 hk1 hk2 hk3 hk4 hk5 ho hb hg hat hjx
  have HB := n_HB
  clear n_HB
  have BK1 := n_BK1
  clear n_BK1
  have BK2 := n_BK2
  clear n_BK2
  have BK4 := n_BK4
  clear n_BK4
  have R6 := n_R6
  clear n_R6
  go_wp2_with fail
  rw [rounds_succ]
  obtain ⟨A6, c6, hA6⟩ := Kd.R_slice R6.out
  subst hA6
  go_wp2_with fail
  obtain ⟨⟨s2, e2⟩, hse⟩ : ∃ r, r = (if inr64 (a.u + b.u + c.u) then ((a.u + b.u + c.u), (0 : Int)) else (0, 3)) := ⟨_, rfl⟩
  have hsum := lombardref16_Net.sum3 a.u b.u c.u (by have := ha.out; unfold Row6.inr at this; exact this.2.2.1) (by have := hb0.out; unfold Row6.inr at this; exact this.2.2.1) (by have := hc.out; unfold Row6.inr at this; exact this.2.2.1)
  rw [← hse] at hsum
  have HSE2 := Aside0.mk hse
  have HSUM := Aside0.mk hsum
  clear hse hsum
  with_reducible refine (lombardref16_Net.sumc HSUM.out (Kd.R_reads' R6.out).2.2 (Kd.R_reads' R6.out).2.1).mono ?_
  rintro e x2 ⟨rfl, hb⟩
  have n_HB := Aside0.mk (below_step HB.out hb)
  have n_BK1 := Aside0.mk (blk_below BK1.out hb)
  have n_BK2 := Aside0.mk (blk_below BK2.out hb)
  have n_BK4 := Aside0.mk (blk_below BK4.out hb)
  clear HB BK1 BK2 BK4 R6 hb HSUM
  have HB := n_HB
  clear n_HB
  have BK1 := n_BK1
  clear n_BK1
  have BK2 := n_BK2
  clear n_BK2
  have BK4 := n_BK4
  clear n_BK4
  by_cases hi : inr64 (a.u + b.u + c.u)
  case neg =>
    have hq := HSE2.out
    rw [if_neg hi] at hq
    simp only [Prod.mk.injEq] at hq
    obtain ⟨rfl, rfl⟩ := hq
    have HI := Aside0.mk hi
    clear hi
    go_wp2_with ((with_reducible refine gate_store (t := 33) (p := 2) (v := .tmp 44) rfl ?_); refine Shut.out ?_)
    unfold Shut
    refine store_rowTo rfl 33 (.tmp 2) (.tmp 44) rfl rfl g2 (row6 Row6.z) rfl rfl 33 _ BK2.out (by kernel_rfl) rfl (all6n _ _ _ _ _ _) ?_
    have HBn := Aside0.mk (row_below (g := g2) HB.out (by omega) (row6 Row6.z))
    have BKn := Aside0.mk (setRow_heap _ _ _ (row6 Row6.z) _ _ BK2.out)
    clear HB BK2
    go_wp2_with fail
    exact HERR.out _ _ _ _ _ _ _ _ _ _ _ _ _ _ _ _ _ _ _ _ _ _ _ _ _ _ _ _ _ _ _ _ _ _ _ _ _ _ _ _ _ _ _ _ _ ⟨HI.out, BKn, HBn⟩
  have hq := HSE2.out
  rw [if_pos hi] at hq
  simp only [Prod.mk.injEq] at hq
  obtain ⟨hs, rfl⟩ := hq
  have HS := Aside0.mk hs
  have HI := Aside0.mk hi
  clear hs hi HSE2 HERR
  have kc : x2.cell? ⟨g4, 2, none⟩ = some (.int .i64 0) := blk_cell BK4.out 2
  have kf := blk_frozen BK4.out 2
  go_wp2_with fail
  have n_HB := Aside0.mk (HB.out.setCell (p := ⟨g4, 2, none⟩) (show w.heap.size ≤ g4 by omega) (.int .i64 s2))
  have n_BK1 := Aside0.mk ((Below.heap_setCell x2 ⟨g4, 2, none⟩ (.int .i64 s2) w.heap.size (show w.heap.size ≠ g4 by omega)).trans BK1.out)
  have n_BK2 := Aside0.mk ((Below.heap_setCell x2 ⟨g4, 2, none⟩ (.int .i64 s2) g2 (show g2 ≠ g4 by omega)).trans BK2.out)
  have n_BK4 := Aside0.mk (blk_put BK4.out 2 (.int .i64 s2) (show _ = (#[.int .i64 p0, .int .i64 p1, .int .i64 (a.u + b.u + c.u), .int .i64 p3, .int .i64 p4, .int .i64 p5] : Array Value) from by rw [HS.out]; rfl))
  exact HKK.out _ _ _ _ _ _ _ _ _ _ _ _ _ _ _ _ _ _ _ _ _ _ _ _ _ _ _ _ _ _ _ _ _ _ _ _ _ _ _ _ _ _ _ _ ⟨HI.out, n_BK1, n_BK2, n_BK4, n_HB⟩
set_option maxHeartbeats 16000000 in
set_option maxRecDepth 1000000 in
theorem lombardref16_Net.round3 {a b c : Row6} (ha : Aside0 a.inr) (hb0 : Aside0 b.inr) (hc : Aside0 c.inr) {w v0 : World} {g2 g4 : Nat} (hlt2 : w.heap.size < g2) (hlt4 : g2 < g4) {p0 p1 p2 p4 p5 : Int} {K : Act → World → Prop} {Q0 : Exit → Act → World → Prop} {c0 c7 c50 c51 c52 c53 c54 c55 c56 c57 c58 c59 c60 c61 c62 : Value} {u5 u6 u8 u9 u10 u12 u13 u14 u15 u16 u17 u18 u19 u20 u21 u22 u23 u24 u25 u26 u27 u28 u29 u30 u31 u32 u33 u34 u35 u36 u37 u38 u39 u40 u41 u42 u43 u44 u45 u46 u47 u48 u49 : Value}
    (BK1 : Aside0 (v0.heap[w.heap.size]? = some (.cells (row18 a b c) 34 (0, 0)))) (BK2 : Aside0 (v0.heap[g2]? = some (.cells (row6 Row6.z) 33 (0, 0)))) (BK4 : Aside0 (v0.heap[g4]? = some (.cells #[.int .i64 p0, .int .i64 p1, .int .i64 p2, .int .i64 0, .int .i64 p4, .int .i64 p5] 66 (0, 0)))) (HB : Aside0 (Below w.heap.size w v0))
    (herr : ∀ (x5 x6 x8 x9 x10 x11 x12 x13 x14 x15 x16 x17 x18 x19 x20 x21 x22 x23 x24 x25 x26 x27 x28 x29 x30 x31 x32 x33 x34 x35 x36 x37 x38 x39 x40 x41 x42 x43 x44 x45 x46 x47 x48 x49 : Value) (w1 : World), (¬ inr64 (a.n + b.n + c.n) ∧ Aside0 (w1.heap[g2]? = some (.cells (row6 Row6.z) 33 (0, 0))) ∧ Aside0 (Below w.heap.size w w1)) → Q0 Exit.ret ⟨List.toArray (c0 :: .pointer (some ⟨w.heap.size, 0, none⟩) :: .pointer (some ⟨g2, 0, none⟩) :: .int .i64 3 :: .pointer (some ⟨g4, 0, none⟩) :: x5 :: x6 :: c7 :: x8 :: x9 :: x10 :: x11 :: x12 :: x13 :: x14 :: x15 :: x16 :: x17 :: x18 :: x19 :: x20 :: x21 :: x22 :: x23 :: x24 :: x25 :: x26 :: x27 :: x28 :: x29 :: x30 :: x31 :: x32 :: x33 :: x34 :: x35 :: x36 :: x37 :: x38 :: x39 :: x40 :: x41 :: x42 :: x43 :: x44 :: x45 :: x46 :: x47 :: x48 :: x49 :: c50 :: c51 :: c52 :: c53 :: c54 :: c55 :: c56 :: c57 :: c58 :: c59 :: c60 :: c61 :: c62 :: []), []⟩ w1)
    (hK : ∀ (x5 x6 x8 x9 x10 x12 x13 x14 x15 x16 x17 x18 x19 x20 x21 x22 x23 x24 x25 x26 x27 x28 x29 x30 x31 x32 x33 x34 x35 x36 x37 x38 x39 x40 x41 x42 x43 x44 x45 x46 x47 x48 x49 : Value) (w1 : World), (inr64 (a.n + b.n + c.n) ∧ Aside0 (w1.heap[w.heap.size]? = some (.cells (row18 a b c) 34 (0, 0))) ∧ Aside0 (w1.heap[g2]? = some (.cells (row6 Row6.z) 33 (0, 0))) ∧ Aside0 (w1.heap[g4]? = some (.cells #[.int .i64 p0, .int .i64 p1, .int .i64 p2, .int .i64 (a.n + b.n + c.n), .int .i64 p4, .int .i64 p5] 66 (0, 0))) ∧ Aside0 (Below w.heap.size w w1)) → K ⟨List.toArray (c0 :: .pointer (some ⟨w.heap.size, 0, none⟩) :: .pointer (some ⟨g2, 0, none⟩) :: .int .i64 0 :: .pointer (some ⟨g4, 0, none⟩) :: x5 :: x6 :: c7 :: x8 :: x9 :: x10 :: .int .i64 4 :: x12 :: x13 :: x14 :: x15 :: x16 :: x17 :: x18 :: x19 :: x20 :: x21 :: x22 :: x23 :: x24 :: x25 :: x26 :: x27 :: x28 :: x29 :: x30 :: x31 :: x32 :: x33 :: x34 :: x35 :: x36 :: x37 :: x38 :: x39 :: x40 :: x41 :: x42 :: x43 :: x44 :: x45 :: x46 :: x47 :: x48 :: x49 :: c50 :: c51 :: c52 :: c53 :: c54 :: c55 :: c56 :: c57 :: c58 :: c59 :: c60 :: c61 :: c62 :: []), []⟩ w1) :
    Code.wp Try.prog lombardref16_Net.body (Exit.then K Q0) ⟨List.toArray (c0 :: .pointer (some ⟨w.heap.size, 0, none⟩) :: .pointer (some ⟨g2, 0, none⟩) :: .int .i64 0 :: .pointer (some ⟨g4, 0, none⟩) :: u5 :: u6 :: c7 :: u8 :: u9 :: u10 :: .int .i64 3 :: u12 :: u13 :: u14 :: u15 :: u16 :: u17 :: u18 :: u19 :: u20 :: u21 :: u22 :: u23 :: u24 :: u25 :: u26 :: u27 :: u28 :: u29 :: u30 :: u31 :: u32 :: u33 :: u34 :: u35 :: u36 :: u37 :: u38 :: u39 :: u40 :: u41 :: u42 :: u43 :: u44 :: u45 :: u46 :: u47 :: u48 :: u49 :: c50 :: c51 :: c52 :: c53 :: c54 :: c55 :: c56 :: c57 :: c58 :: c59 :: c60 :: c61 :: c62 :: []), []⟩ v0 := by
  conv => arg 2; whnf
  have HERR := Aside0.mk herr
  have HKK := Aside0.mk hK
  clear herr hK
  have hix0 := fun W => lombardref16_Net.ix0 a b c W
  have hix1 := fun W => lombardref16_Net.ix1 a b c W
  have hix2 := fun W => lombardref16_Net.ix2 a b c W
  go_wp2_with ((with_reducible refine gate_dst (N := 14) rfl ?_); refine wpList_load_row rfl 34 (.tmp 1) rfl w.heap.size rfl 34 _ (0, 0) _ BK1.out Try.underlying34 rfl (by kernel_rfl) ?_)
  refine wp_loop_rounds 4 ?_
  rw [rounds_succ]
  have R6 := Aside0.mk (Kd.R_nil (Kd.int .i64) 2 v0 w.heap.size (fun _ => True))
  have hjx := fun W => lombardref16_Net.jx3 a W
  obtain ⟨hnb, hnk⟩ := newrow6 v0 #[.int .i64 0, .int .i64 0, .int .i64 0, .int .i64 0, .int .i64 0, .int .i64 0] #[.int .i64 a.o, .int .i64 a.i, .int .i64 a.u, .int .i64 a.n, .int .i64 a.w, .int .i64 a.c] 33
  go_wp2_with ((with_reducible refine gate_store (t := 33) (p := 8) (v := .tmp 17) rfl ?_); refine Shut.out ?_)
  unfold Shut
  refine store_rowTo rfl 33 (.tmp 8) (.tmp 17) rfl rfl v0.heap.size #[.int .i64 a.o, .int .i64 a.i, .int .i64 a.u, .int .i64 a.n, .int .i64 a.w, .int .i64 a.c] rfl rfl 33 _ (blk_new v0 _) (by kernel_rfl) rfl (all6 _ _ _ _ _ _) ?_
  have n_HB := Aside0.mk (below_step HB.out hnb)
  have n_BK1 := Aside0.mk (blk_below BK1.out hnb)
  have n_BK2 := Aside0.mk (blk_below BK2.out hnb)
  have n_BK4 := Aside0.mk (blk_below BK4.out hnb)
  have n_R6 := Aside0.mk (Kd.R_below R6.out hnb)
  have n_BK8 := Aside0.mk hnk
  clear HB BK1 BK2 BK4 R6 hnb hnk
  generalize (v0.alloc (.cells #[.int .i64 0, .int .i64 0, .int .i64 0, .int .i64 0, .int .i64 0, .int .i64 0] 33)).setRow v0.heap.size #[.int .i64 a.o, .int .i64 a.i, .int .i64 a.u, .int .i64 a.n, .int .i64 a.w, .int .i64 a.c] = z3_0 at n_HB n_BK1 n_BK2 n_BK4 n_BK8 n_R6 ⊢
  generalize v0.heap.size = g8 at n_BK8 ⊢
  have HB := n_HB
  clear n_HB
  have BK1 := n_BK1
  clear n_BK1
  have BK2 := n_BK2
  clear n_BK2
  have BK4 := n_BK4
  clear n_BK4
  have R6 := n_R6
  clear n_R6
  have BK8 := n_BK8
  clear n_BK8
  have hk0 : z3_0.cell? ⟨g8, 0, none⟩ = some (.int .i64 a.o) := blk_cell BK8.out 0
  have hk1 : z3_0.cell? ⟨g8, 1, none⟩ = some (.int .i64 a.i) := blk_cell BK8.out 1
  have hk2 : z3_0.cell? ⟨g8, 2, none⟩ = some (.int .i64 a.u) := blk_cell BK8.out 2
  have hk3 : z3_0.cell? ⟨g8, 3, none⟩ = some (.int .i64 a.n) := blk_cell BK8.out 3
  have hk4 : z3_0.cell? ⟨g8, 4, none⟩ = some (.int .i64 a.w) := blk_cell BK8.out 4
  have hk5 : z3_0.cell? ⟨g8, 5, none⟩ = some (.int .i64 a.c) := blk_cell BK8.out 5
  go_wp2_with ((with_reducible refine gate_builtin (b := .append) (xs := #[.tmp 18, .tmp 34]) rfl ?_); refine Shut.out ?_)
  unfold Shut
  refine Kd.R_append (Kd.int .i64) (w0 := w) w.heap.size rfl (.tmp 18) (.tmp 34) 53 2 (.int .i64 0) 8 rfl Try.underlying53 info2 rfl (by decide) (by omega) (.slice none 0 0) ([] : List Int) a.n [.int .i64 a.n] (fun _ => True) (fun _ => False) rfl rfl ?aP (fun _ hk => hk.elim) ?aF ?aO ?aB ?aS ?aL ?_
  case aP => exact rfl
  case aB => exact HB.out
  case aF => exact (fun _ _ => trivial)
  case aO => exact R6.out
  case aS => exact below_size HB.out
  case aL => simp
  intro u3_0 y3_0 ho hb hg hat
  have n_BK1 := Aside0.mk (blk_grown BK1.out hg (Kd.R_ne R6.out BK1.out (by decide)))
  have n_BK2 := Aside0.mk (blk_grown BK2.out hg (Kd.R_ne R6.out BK2.out (by decide)))
  have n_BK4 := Aside0.mk (blk_grown BK4.out hg (Kd.R_ne R6.out BK4.out (by decide)))
  have n_HB := Aside0.mk hb
  have n_R6 : Aside0 (Kd.R (Kd.int .i64) 2 y3_0 w.heap.size (fun _ => True) u3_0 ([a.n] : List Int)) := ⟨ho⟩
  clear HB BK1 BK2 BK4 R6 BK8 hk0 hk1 hk2 hk3 hk4 hk5 ho hb hg hat hjx
  have HB := n_HB
  clear n_HB
  have BK1 := n_BK1
  clear n_BK1
  have BK2 := n_BK2
  clear n_BK2
  have BK4 := n_BK4
  clear n_BK4
  have R6 := n_R6
  clear n_R6
  go_wp2_with fail
  rw [rounds_succ]
  have hjx := fun W => lombardref16_Net.jx3 b W
  obtain ⟨hnb, hnk⟩ := newrow6 y3_0 #[.int .i64 0, .int .i64 0, .int .i64 0, .int .i64 0, .int .i64 0, .int .i64 0] #[.int .i64 b.o, .int .i64 b.i, .int .i64 b.u, .int .i64 b.n, .int .i64 b.w, .int .i64 b.c] 33
  go_wp2_with ((with_reducible refine gate_store (t := 33) (p := 8) (v := .tmp 17) rfl ?_); refine Shut.out ?_)
  unfold Shut
  refine store_rowTo rfl 33 (.tmp 8) (.tmp 17) rfl rfl y3_0.heap.size #[.int .i64 b.o, .int .i64 b.i, .int .i64 b.u, .int .i64 b.n, .int .i64 b.w, .int .i64 b.c] rfl rfl 33 _ (blk_new y3_0 _) (by kernel_rfl) rfl (all6 _ _ _ _ _ _) ?_
  have n_HB := Aside0.mk (below_step HB.out hnb)
  have n_BK1 := Aside0.mk (blk_below BK1.out hnb)
  have n_BK2 := Aside0.mk (blk_below BK2.out hnb)
  have n_BK4 := Aside0.mk (blk_below BK4.out hnb)
  have n_R6 := Aside0.mk (Kd.R_below R6.out hnb)
  have n_BK8 := Aside0.mk hnk
  clear HB BK1 BK2 BK4 R6 hnb hnk
  generalize (y3_0.alloc (.cells #[.int .i64 0, .int .i64 0, .int .i64 0, .int .i64 0, .int .i64 0, .int .i64 0] 33)).setRow y3_0.heap.size #[.int .i64 b.o, .int .i64 b.i, .int .i64 b.u, .int .i64 b.n, .int .i64 b.w, .int .i64 b.c] = z3_1 at n_HB n_BK1 n_BK2 n_BK4 n_BK8 n_R6 ⊢
  generalize y3_0.heap.size = g8 at n_BK8 ⊢
  have HB := n_HB
  clear n_HB
  have BK1 := n_BK1
  clear n_BK1
  have BK2 := n_BK2
  clear n_BK2
  have BK4 := n_BK4
  clear n_BK4
  have R6 := n_R6
  clear n_R6
  have BK8 := n_BK8
  clear n_BK8
  have hk0 : z3_1.cell? ⟨g8, 0, none⟩ = some (.int .i64 b.o) := blk_cell BK8.out 0
  have hk1 : z3_1.cell? ⟨g8, 1, none⟩ = some (.int .i64 b.i) := blk_cell BK8.out 1
  have hk2 : z3_1.cell? ⟨g8, 2, none⟩ = some (.int .i64 b.u) := blk_cell BK8.out 2
  have hk3 : z3_1.cell? ⟨g8, 3, none⟩ = some (.int .i64 b.n) := blk_cell BK8.out 3
  have hk4 : z3_1.cell? ⟨g8, 4, none⟩ = some (.int .i64 b.w) := blk_cell BK8.out 4
  have hk5 : z3_1.cell? ⟨g8, 5, none⟩ = some (.int .i64 b.c) := blk_cell BK8.out 5
  go_wp2_with ((with_reducible refine gate_builtin (b := .append) (xs := #[.tmp 18, .tmp 34]) rfl ?_); refine Shut.out ?_)
  unfold Shut
  refine Kd.R_append (Kd.int .i64) (w0 := w) w.heap.size rfl (.tmp 18) (.tmp 34) 53 2 (.int .i64 0) 8 rfl Try.underlying53 info2 rfl (by decide) (by omega) u3_0 ([a.n] : List Int) b.n [.int .i64 b.n] (fun _ => True) (fun _ => False) rfl rfl ?aP (fun _ hk => hk.elim) ?aF ?aO ?aB ?aS ?aL ?_
  case aP => exact rfl
  case aB => exact HB.out
  case aF => exact (fun _ _ => trivial)
  case aO => exact R6.out
  case aS => exact below_size HB.out
  case aL => simp
  intro u3_1 y3_1 ho hb hg hat
  have n_BK1 := Aside0.mk (blk_grown BK1.out hg (Kd.R_ne R6.out BK1.out (by decide)))
  have n_BK2 := Aside0.mk (blk_grown BK2.out hg (Kd.R_ne R6.out BK2.out (by decide)))
  have n_BK4 := Aside0.mk (blk_grown BK4.out hg (Kd.R_ne R6.out BK4.out (by decide)))
  have n_HB := Aside0.mk hb
  have n_R6 : Aside0 (Kd.R (Kd.int .i64) 2 y3_1 w.heap.size (fun _ => True) u3_1 ([a.n, b.n] : List Int)) := ⟨ho⟩
  clear HB BK1 BK2 BK4 R6 BK8 hk0 hk1 hk2 hk3 hk4 hk5 ho hb hg hat hjx
  have HB := n_HB
  clear n_HB
  have BK1 := n_BK1
  clear n_BK1
  have BK2 := n_BK2
  clear n_BK2
  have BK4 := n_BK4
  clear n_BK4
  have R6 := n_R6
  clear n_R6
  go_wp2_with fail
  rw [rounds_succ]
  have hjx := fun W => lombardref16_Net.jx3 c W
  obtain ⟨hnb, hnk⟩ := newrow6 y3_1 #[.int .i64 0, .int .i64 0, .int .i64 0, .int .i64 0, .int .i64 0, .int .i64 0] #[.int .i64 c.o, .int .i64 c.i, .int .i64 c.u, .int .i64 c.n, .int .i64 c.w, .int .i64 c.c] 33
  go_wp2_with ((with_reducible refine gate_store (t := 33) (p := 8) (v := .tmp 17) rfl ?_); refine Shut.out ?_)
  unfold Shut
  refine store_rowTo rfl 33 (.tmp 8) (.tmp 17) rfl rfl y3_1.heap.size #[.int .i64 c.o, .int .i64 c.i, .int .i64 c.u, .int .i64 c.n, .int .i64 c.w, .int .i64 c.c] rfl rfl 33 _ (blk_new y3_1 _) (by kernel_rfl) rfl (all6 _ _ _ _ _ _) ?_
  have n_HB := Aside0.mk (below_step HB.out hnb)
  have n_BK1 := Aside0.mk (blk_below BK1.out hnb)
  have n_BK2 := Aside0.mk (blk_below BK2.out hnb)
  have n_BK4 := Aside0.mk (blk_below BK4.out hnb)
  have n_R6 := Aside0.mk (Kd.R_below R6.out hnb)
  have n_BK8 := Aside0.mk hnk
  clear HB BK1 BK2 BK4 R6 hnb hnk
  generalize (y3_1.alloc (.cells #[.int .i64 0, .int .i64 0, .int .i64 0, .int .i64 0, .int .i64 0, .int .i64 0] 33)).setRow y3_1.heap.size #[.int .i64 c.o, .int .i64 c.i, .int .i64 c.u, .int .i64 c.n, .int .i64 c.w, .int .i64 c.c] = z3_2 at n_HB n_BK1 n_BK2 n_BK4 n_BK8 n_R6 ⊢
  generalize y3_1.heap.size = g8 at n_BK8 ⊢
  have HB := n_HB
  clear n_HB
  have BK1 := n_BK1
  clear n_BK1
  have BK2 := n_BK2
  clear n_BK2
  have BK4 := n_BK4
  clear n_BK4
  have R6 := n_R6
  clear n_R6
  have BK8 := n_BK8
  clear n_BK8
  have hk0 : z3_2.cell? ⟨g8, 0, none⟩ = some (.int .i64 c.o) := blk_cell BK8.out 0
  have hk1 : z3_2.cell? ⟨g8, 1, none⟩ = some (.int .i64 c.i) := blk_cell BK8.out 1
  have hk2 : z3_2.cell? ⟨g8, 2, none⟩ = some (.int .i64 c.u) := blk_cell BK8.out 2
  have hk3 : z3_2.cell? ⟨g8, 3, none⟩ = some (.int .i64 c.n) := blk_cell BK8.out 3
  have hk4 : z3_2.cell? ⟨g8, 4, none⟩ = some (.int .i64 c.w) := blk_cell BK8.out 4
  have hk5 : z3_2.cell? ⟨g8, 5, none⟩ = some (.int .i64 c.c) := blk_cell BK8.out 5
  go_wp2_with ((with_reducible refine gate_builtin (b := .append) (xs := #[.tmp 18, .tmp 34]) rfl ?_); refine Shut.out ?_)
  unfold Shut
  refine Kd.R_append (Kd.int .i64) (w0 := w) w.heap.size rfl (.tmp 18) (.tmp 34) 53 2 (.int .i64 0) 8 rfl Try.underlying53 info2 rfl (by decide) (by omega) u3_1 ([a.n, b.n] : List Int) c.n [.int .i64 c.n] (fun _ => True) (fun _ => False) rfl rfl ?aP (fun _ hk => hk.elim) ?aF ?aO ?aB ?aS ?aL ?_
  case aP => exact rfl
  case aB => exact HB.out
  case aF => exact (fun _ _ => trivial)
  case aO => exact R6.out
  case aS => exact below_size HB.out
  case aL => simp
  intro u3_2 y3_2 ho hb hg hat
  have n_BK1 := Aside0.mk (blk_grown BK1.out hg (Kd.R_ne R6.out BK1.out (by decide)))
  have n_BK2 := Aside0.mk (blk_grown BK2.out hg (Kd.R_ne R6.out BK2.out (by decide)))
  have n_BK4 := Aside0.mk (blk_grown BK4.out hg (Kd.R_ne R6.out BK4.out (by decide)))
  have n_HB := Aside0.mk hb
  have n_R6 : Aside0 (Kd.R (Kd.int .i64) 2 y3_2 w.heap.size (fun _ => True) u3_2 ([a.n, b.n, c.n] : List Int)) := ⟨ho⟩
  clear HB BK1 BK2 BK4 R6 BK8 hk0 hk1 hk2 hk3 hk4 hk5 ho hb hg hat hjx
  have HB := n_HB
  clear n_HB
  have BK1 := n_BK1
  clear n_BK1
  have BK2 := n_BK2
  clear n_BK2
  have BK4 := n_BK4
  clear n_BK4
  have R6 := n_R6
  clear n_R6
  go_wp2_with fail
  rw [rounds_succ]
  obtain ⟨A6, c6, hA6⟩ := Kd.R_slice R6.out
  subst hA6
  go_wp2_with fail
  obtain ⟨⟨s3, e3⟩, hse⟩ : ∃ r, r = (if inr64 (a.n + b.n + c.n) then ((a.n + b.n + c.n), (0 : Int)) else (0, 3)) := ⟨_, rfl⟩
  have hsum := lombardref16_Net.sum3 a.n b.n c.n (by have := ha.out; unfold Row6.inr at this; exact this.2.2.2.1) (by have := hb0.out; unfold Row6.inr at this; exact this.2.2.2.1) (by have := hc.out; unfold Row6.inr at this; exact this.2.2.2.1)
  rw [← hse] at hsum
  have HSE3 := Aside0.mk hse
  have HSUM := Aside0.mk hsum
  clear hse hsum
  with_reducible refine (lombardref16_Net.sumc HSUM.out (Kd.R_reads' R6.out).2.2 (Kd.R_reads' R6.out).2.1).mono ?_
  rintro e x3 ⟨rfl, hb⟩
  have n_HB := Aside0.mk (below_step HB.out hb)
  have n_BK1 := Aside0.mk (blk_below BK1.out hb)
  have n_BK2 := Aside0.mk (blk_below BK2.out hb)
  have n_BK4 := Aside0.mk (blk_below BK4.out hb)
  clear HB BK1 BK2 BK4 R6 hb HSUM
  have HB := n_HB
  clear n_HB
  have BK1 := n_BK1
  clear n_BK1
  have BK2 := n_BK2
  clear n_BK2
  have BK4 := n_BK4
  clear n_BK4
  by_cases hi : inr64 (a.n + b.n + c.n)
  case neg =>
    have hq := HSE3.out
    rw [if_neg hi] at hq
    simp only [Prod.mk.injEq] at hq
    obtain ⟨rfl, rfl⟩ := hq
    have HI := Aside0.mk hi
    clear hi
    go_wp2_with ((with_reducible refine gate_store (t := 33) (p := 2) (v := .tmp 44) rfl ?_); refine Shut.out ?_)
    unfold Shut
    refine store_rowTo rfl 33 (.tmp 2) (.tmp 44) rfl rfl g2 (row6 Row6.z) rfl rfl 33 _ BK2.out (by kernel_rfl) rfl (all6n _ _ _ _ _ _) ?_
    have HBn := Aside0.mk (row_below (g := g2) HB.out (by omega) (row6 Row6.z))
    have BKn := Aside0.mk (setRow_heap _ _ _ (row6 Row6.z) _ _ BK2.out)
    clear HB BK2
    go_wp2_with fail
    exact HERR.out _ _ _ _ _ _ _ _ _ _ _ _ _ _ _ _ _ _ _ _ _ _ _ _ _ _ _ _ _ _ _ _ _ _ _ _ _ _ _ _ _ _ _ _ _ ⟨HI.out, BKn, HBn⟩
  have hq := HSE3.out
  rw [if_pos hi] at hq
  simp only [Prod.mk.injEq] at hq
  obtain ⟨hs, rfl⟩ := hq
  have HS := Aside0.mk hs
  have HI := Aside0.mk hi
  clear hs hi HSE3 HERR
  have kc : x3.cell? ⟨g4, 3, none⟩ = some (.int .i64 0) := blk_cell BK4.out 3
  have kf := blk_frozen BK4.out 3
  go_wp2_with fail
  have n_HB := Aside0.mk (HB.out.setCell (p := ⟨g4, 3, none⟩) (show w.heap.size ≤ g4 by omega) (.int .i64 s3))
  have n_BK1 := Aside0.mk ((Below.heap_setCell x3 ⟨g4, 3, none⟩ (.int .i64 s3) w.heap.size (show w.heap.size ≠ g4 by omega)).trans BK1.out)
  have n_BK2 := Aside0.mk ((Below.heap_setCell x3 ⟨g4, 3, none⟩ (.int .i64 s3) g2 (show g2 ≠ g4 by omega)).trans BK2.out)
  have n_BK4 := Aside0.mk (blk_put BK4.out 3 (.int .i64 s3) (show _ = (#[.int .i64 p0, .int .i64 p1, .int .i64 p2, .int .i64 (a.n + b.n + c.n), .int .i64 p4, .int .i64 p5] : Array Value) from by rw [HS.out]; rfl))
  exact HKK.out _ _ _ _ _ _ _ _ _ _ _ _ _ _ _ _ _ _ _ _ _ _ _ _ _ _ _ _ _ _ _ _ _ _ _ _ _ _ _ _ _ _ _ _ ⟨HI.out, n_BK1, n_BK2, n_BK4, n_HB⟩
set_option maxHeartbeats 16000000 in
set_option maxRecDepth 1000000 in
theorem lombardref16_Net.round4 {a b c : Row6} (ha : Aside0 a.inr) (hb0 : Aside0 b.inr) (hc : Aside0 c.inr) {w v0 : World} {g2 g4 : Nat} (hlt2 : w.heap.size < g2) (hlt4 : g2 < g4) {p0 p1 p2 p3 p5 : Int} {K : Act → World → Prop} {Q0 : Exit → Act → World → Prop} {c0 c7 c50 c51 c52 c53 c54 c55 c56 c57 c58 c59 c60 c61 c62 : Value} {u5 u6 u8 u9 u10 u12 u13 u14 u15 u16 u17 u18 u19 u20 u21 u22 u23 u24 u25 u26 u27 u28 u29 u30 u31 u32 u33 u34 u35 u36 u37 u38 u39 u40 u41 u42 u43 u44 u45 u46 u47 u48 u49 : Value}
    (BK1 : Aside0 (v0.heap[w.heap.size]? = some (.cells (row18 a b c) 34 (0, 0)))) (BK2 : Aside0 (v0.heap[g2]? = some (.cells (row6 Row6.z) 33 (0, 0)))) (BK4 : Aside0 (v0.heap[g4]? = some (.cells #[.int .i64 p0, .int .i64 p1, .int .i64 p2, .int .i64 p3, .int .i64 0, .int .i64 p5] 66 (0, 0)))) (HB : Aside0 (Below w.heap.size w v0))
    (herr : ∀ (x5 x6 x8 x9 x10 x11 x12 x13 x14 x15 x16 x17 x18 x19 x20 x21 x22 x23 x24 x25 x26 x27 x28 x29 x30 x31 x32 x33 x34 x35 x36 x37 x38 x39 x40 x41 x42 x43 x44 x45 x46 x47 x48 x49 : Value) (w1 : World), (¬ inr64 (a.w + b.w + c.w) ∧ Aside0 (w1.heap[g2]? = some (.cells (row6 Row6.z) 33 (0, 0))) ∧ Aside0 (Below w.heap.size w w1)) → Q0 Exit.ret ⟨List.toArray (c0 :: .pointer (some ⟨w.heap.size, 0, none⟩) :: .pointer (some ⟨g2, 0, none⟩) :: .int .i64 3 :: .pointer (some ⟨g4, 0, none⟩) :: x5 :: x6 :: c7 :: x8 :: x9 :: x10 :: x11 :: x12 :: x13 :: x14 :: x15 :: x16 :: x17 :: x18 :: x19 :: x20 :: x21 :: x22 :: x23 :: x24 :: x25 :: x26 :: x27 :: x28 :: x29 :: x30 :: x31 :: x32 :: x33 :: x34 :: x35 :: x36 :: x37 :: x38 :: x39 :: x40 :: x41 :: x42 :: x43 :: x44 :: x45 :: x46 :: x47 :: x48 :: x49 :: c50 :: c51 :: c52 :: c53 :: c54 :: c55 :: c56 :: c57 :: c58 :: c59 :: c60 :: c61 :: c62 :: []), []⟩ w1)
    (hK : ∀ (x5 x6 x8 x9 x10 x12 x13 x14 x15 x16 x17 x18 x19 x20 x21 x22 x23 x24 x25 x26 x27 x28 x29 x30 x31 x32 x33 x34 x35 x36 x37 x38 x39 x40 x41 x42 x43 x44 x45 x46 x47 x48 x49 : Value) (w1 : World), (inr64 (a.w + b.w + c.w) ∧ Aside0 (w1.heap[w.heap.size]? = some (.cells (row18 a b c) 34 (0, 0))) ∧ Aside0 (w1.heap[g2]? = some (.cells (row6 Row6.z) 33 (0, 0))) ∧ Aside0 (w1.heap[g4]? = some (.cells #[.int .i64 p0, .int .i64 p1, .int .i64 p2, .int .i64 p3, .int .i64 (a.w + b.w + c.w), .int .i64 p5] 66 (0, 0))) ∧ Aside0 (Below w.heap.size w w1)) → K ⟨List.toArray (c0 :: .pointer (some ⟨w.heap.size, 0, none⟩) :: .pointer (some ⟨g2, 0, none⟩) :: .int .i64 0 :: .pointer (some ⟨g4, 0, none⟩) :: x5 :: x6 :: c7 :: x8 :: x9 :: x10 :: .int .i64 5 :: x12 :: x13 :: x14 :: x15 :: x16 :: x17 :: x18 :: x19 :: x20 :: x21 :: x22 :: x23 :: x24 :: x25 :: x26 :: x27 :: x28 :: x29 :: x30 :: x31 :: x32 :: x33 :: x34 :: x35 :: x36 :: x37 :: x38 :: x39 :: x40 :: x41 :: x42 :: x43 :: x44 :: x45 :: x46 :: x47 :: x48 :: x49 :: c50 :: c51 :: c52 :: c53 :: c54 :: c55 :: c56 :: c57 :: c58 :: c59 :: c60 :: c61 :: c62 :: []), []⟩ w1) :
    Code.wp Try.prog lombardref16_Net.body (Exit.then K Q0) ⟨List.toArray (c0 :: .pointer (some ⟨w.heap.size, 0, none⟩) :: .pointer (some ⟨g2, 0, none⟩) :: .int .i64 0 :: .pointer (some ⟨g4, 0, none⟩) :: u5 :: u6 :: c7 :: u8 :: u9 :: u10 :: .int .i64 4 :: u12 :: u13 :: u14 :: u15 :: u16 :: u17 :: u18 :: u19 :: u20 :: u21 :: u22 :: u23 :: u24 :: u25 :: u26 :: u27 :: u28 :: u29 :: u30 :: u31 :: u32 :: u33 :: u34 :: u35 :: u36 :: u37 :: u38 :: u39 :: u40 :: u41 :: u42 :: u43 :: u44 :: u45 :: u46 :: u47 :: u48 :: u49 :: c50 :: c51 :: c52 :: c53 :: c54 :: c55 :: c56 :: c57 :: c58 :: c59 :: c60 :: c61 :: c62 :: []), []⟩ v0 := by
  conv => arg 2; whnf
  have HERR := Aside0.mk herr
  have HKK := Aside0.mk hK
  clear herr hK
  have hix0 := fun W => lombardref16_Net.ix0 a b c W
  have hix1 := fun W => lombardref16_Net.ix1 a b c W
  have hix2 := fun W => lombardref16_Net.ix2 a b c W
  go_wp2_with ((with_reducible refine gate_dst (N := 14) rfl ?_); refine wpList_load_row rfl 34 (.tmp 1) rfl w.heap.size rfl 34 _ (0, 0) _ BK1.out Try.underlying34 rfl (by kernel_rfl) ?_)
  refine wp_loop_rounds 4 ?_
  rw [rounds_succ]
  have R6 := Aside0.mk (Kd.R_nil (Kd.int .i64) 2 v0 w.heap.size (fun _ => True))
  have hjx := fun W => lombardref16_Net.jx4 a W
  obtain ⟨hnb, hnk⟩ := newrow6 v0 #[.int .i64 0, .int .i64 0, .int .i64 0, .int .i64 0, .int .i64 0, .int .i64 0] #[.int .i64 a.o, .int .i64 a.i, .int .i64 a.u, .int .i64 a.n, .int .i64 a.w, .int .i64 a.c] 33
  go_wp2_with ((with_reducible refine gate_store (t := 33) (p := 8) (v := .tmp 17) rfl ?_); refine Shut.out ?_)
  unfold Shut
  refine store_rowTo rfl 33 (.tmp 8) (.tmp 17) rfl rfl v0.heap.size #[.int .i64 a.o, .int .i64 a.i, .int .i64 a.u, .int .i64 a.n, .int .i64 a.w, .int .i64 a.c] rfl rfl 33 _ (blk_new v0 _) (by kernel_rfl) rfl (all6 _ _ _ _ _ _) ?_
  have n_HB := Aside0.mk (below_step HB.out hnb)
  have n_BK1 := Aside0.mk (blk_below BK1.out hnb)
  have n_BK2 := Aside0.mk (blk_below BK2.out hnb)
  have n_BK4 := Aside0.mk (blk_below BK4.out hnb)
  have n_R6 := Aside0.mk (Kd.R_below R6.out hnb)
  have n_BK8 := Aside0.mk hnk
  clear HB BK1 BK2 BK4 R6 hnb hnk
  generalize (v0.alloc (.cells #[.int .i64 0, .int .i64 0, .int .i64 0, .int .i64 0, .int .i64 0, .int .i64 0] 33)).setRow v0.heap.size #[.int .i64 a.o, .int .i64 a.i, .int .i64 a.u, .int .i64 a.n, .int .i64 a.w, .int .i64 a.c] = z4_0 at n_HB n_BK1 n_BK2 n_BK4 n_BK8 n_R6 ⊢
  generalize v0.heap.size = g8 at n_BK8 ⊢
  have HB := n_HB
  clear n_HB
  have BK1 := n_BK1
  clear n_BK1
  have BK2 := n_BK2
  clear n_BK2
  have BK4 := n_BK4
  clear n_BK4
  have R6 := n_R6
  clear n_R6
  have BK8 := n_BK8
  clear n_BK8
  have hk0 : z4_0.cell? ⟨g8, 0, none⟩ = some (.int .i64 a.o) := blk_cell BK8.out 0
  have hk1 : z4_0.cell? ⟨g8, 1, none⟩ = some (.int .i64 a.i) := blk_cell BK8.out 1
  have hk2 : z4_0.cell? ⟨g8, 2, none⟩ = some (.int .i64 a.u) := blk_cell BK8.out 2
  have hk3 : z4_0.cell? ⟨g8, 3, none⟩ = some (.int .i64 a.n) := blk_cell BK8.out 3
  have hk4 : z4_0.cell? ⟨g8, 4, none⟩ = some (.int .i64 a.w) := blk_cell BK8.out 4
  have hk5 : z4_0.cell? ⟨g8, 5, none⟩ = some (.int .i64 a.c) := blk_cell BK8.out 5
  go_wp2_with ((with_reducible refine gate_builtin (b := .append) (xs := #[.tmp 18, .tmp 34]) rfl ?_); refine Shut.out ?_)
  unfold Shut
  refine Kd.R_append (Kd.int .i64) (w0 := w) w.heap.size rfl (.tmp 18) (.tmp 34) 53 2 (.int .i64 0) 8 rfl Try.underlying53 info2 rfl (by decide) (by omega) (.slice none 0 0) ([] : List Int) a.w [.int .i64 a.w] (fun _ => True) (fun _ => False) rfl rfl ?aP (fun _ hk => hk.elim) ?aF ?aO ?aB ?aS ?aL ?_
  case aP => exact rfl
  case aB => exact HB.out
  case aF => exact (fun _ _ => trivial)
  case aO => exact R6.out
  case aS => exact below_size HB.out
  case aL => simp
  intro u4_0 y4_0 ho hb hg hat
  have n_BK1 := Aside0.mk (blk_grown BK1.out hg (Kd.R_ne R6.out BK1.out (by decide)))
  have n_BK2 := Aside0.mk (blk_grown BK2.out hg (Kd.R_ne R6.out BK2.out (by decide)))
  have n_BK4 := Aside0.mk (blk_grown BK4.out hg (Kd.R_ne R6.out BK4.out (by decide)))
  have n_HB := Aside0.mk hb
  have n_R6 : Aside0 (Kd.R (Kd.int .i64) 2 y4_0 w.heap.size (fun _ => True) u4_0 ([a.w] : List Int)) := ⟨ho⟩
  clear HB BK1 BK2 BK4 R6 BK8 hk0 hk1 hk2 hk3 hk4 hk5 ho hb hg hat hjx
  have HB := n_HB
  clear n_HB
  have BK1 := n_BK1
  clear n_BK1
  have BK2 := n_BK2
  clear n_BK2
  have BK4 := n_BK4
  clear n_BK4
  have R6 := n_R6
  clear n_R6
  go_wp2_with fail
  rw [rounds_succ]
  have hjx := fun W => lombardref16_Net.jx4 b W
  obtain ⟨hnb, hnk⟩ := newrow6 y4_0 #[.int .i64 0, .int .i64 0, .int .i64 0, .int .i64 0, .int .i64 0, .int .i64 0] #[.int .i64 b.o, .int .i64 b.i, .int .i64 b.u, .int .i64 b.n, .int .i64 b.w, .int .i64 b.c] 33
  go_wp2_with ((with_reducible refine gate_store (t := 33) (p := 8) (v := .tmp 17) rfl ?_); refine Shut.out ?_)
  unfold Shut
  refine store_rowTo rfl 33 (.tmp 8) (.tmp 17) rfl rfl y4_0.heap.size #[.int .i64 b.o, .int .i64 b.i, .int .i64 b.u, .int .i64 b.n, .int .i64 b.w, .int .i64 b.c] rfl rfl 33 _ (blk_new y4_0 _) (by kernel_rfl) rfl (all6 _ _ _ _ _ _) ?_
  have n_HB := Aside0.mk (below_step HB.out hnb)
  have n_BK1 := Aside0.mk (blk_below BK1.out hnb)
  have n_BK2 := Aside0.mk (blk_below BK2.out hnb)
  have n_BK4 := Aside0.mk (blk_below BK4.out hnb)
  have n_R6 := Aside0.mk (Kd.R_below R6.out hnb)
  have n_BK8 := Aside0.mk hnk
  clear HB BK1 BK2 BK4 R6 hnb hnk
  generalize (y4_0.alloc (.cells #[.int .i64 0, .int .i64 0, .int .i64 0, .int .i64 0, .int .i64 0, .int .i64 0] 33)).setRow y4_0.heap.size #[.int .i64 b.o, .int .i64 b.i, .int .i64 b.u, .int .i64 b.n, .int .i64 b.w, .int .i64 b.c] = z4_1 at n_HB n_BK1 n_BK2 n_BK4 n_BK8 n_R6 ⊢
  generalize y4_0.heap.size = g8 at n_BK8 ⊢
  have HB := n_HB
  clear n_HB
  have BK1 := n_BK1
  clear n_BK1
  have BK2 := n_BK2
  clear n_BK2
  have BK4 := n_BK4
  clear n_BK4
  have R6 := n_R6
  clear n_R6
  have BK8 := n_BK8
  clear n_BK8
  have hk0 : z4_1.cell? ⟨g8, 0, none⟩ = some (.int .i64 b.o) := blk_cell BK8.out 0
  have hk1 : z4_1.cell? ⟨g8, 1, none⟩ = some (.int .i64 b.i) := blk_cell BK8.out 1
  have hk2 : z4_1.cell? ⟨g8, 2, none⟩ = some (.int .i64 b.u) := blk_cell BK8.out 2
  have hk3 : z4_1.cell? ⟨g8, 3, none⟩ = some (.int .i64 b.n) := blk_cell BK8.out 3
  have hk4 : z4_1.cell? ⟨g8, 4, none⟩ = some (.int .i64 b.w) := blk_cell BK8.out 4
  have hk5 : z4_1.cell? ⟨g8, 5, none⟩ = some (.int .i64 b.c) := blk_cell BK8.out 5
  go_wp2_with ((with_reducible refine gate_builtin (b := .append) (xs := #[.tmp 18, .tmp 34]) rfl ?_); refine Shut.out ?_)
  unfold Shut
  refine Kd.R_append (Kd.int .i64) (w0 := w) w.heap.size rfl (.tmp 18) (.tmp 34) 53 2 (.int .i64 0) 8 rfl Try.underlying53 info2 rfl (by decide) (by omega) u4_0 ([a.w] : List Int) b.w [.int .i64 b.w] (fun _ => True) (fun _ => False) rfl rfl ?aP (fun _ hk => hk.elim) ?aF ?aO ?aB ?aS ?aL ?_
  case aP => exact rfl
  case aB => exact HB.out
  case aF => exact (fun _ _ => trivial)
  case aO => exact R6.out
  case aS => exact below_size HB.out
  case aL => simp
  intro u4_1 y4_1 ho hb hg hat
  have n_BK1 := Aside0.mk (blk_grown BK1.out hg (Kd.R_ne R6.out BK1.out (by decide)))
  have n_BK2 := Aside0.mk (blk_grown BK2.out hg (Kd.R_ne R6.out BK2.out (by decide)))
  have n_BK4 := Aside0.mk (blk_grown BK4.out hg (Kd.R_ne R6.out BK4.out (by decide)))
  have n_HB := Aside0.mk hb
  have n_R6 : Aside0 (Kd.R (Kd.int .i64) 2 y4_1 w.heap.size (fun _ => True) u4_1 ([a.w, b.w] : List Int)) := ⟨ho⟩
  clear HB BK1 BK2 BK4 R6 BK8 hk0 hk1 hk2 hk3 hk4 hk5 ho hb hg hat hjx
  have HB := n_HB
  clear n_HB
  have BK1 := n_BK1
  clear n_BK1
  have BK2 := n_BK2
  clear n_BK2
  have BK4 := n_BK4
  clear n_BK4
  have R6 := n_R6
  clear n_R6
  go_wp2_with fail
  rw [rounds_succ]
  have hjx := fun W => lombardref16_Net.jx4 c W
  obtain ⟨hnb, hnk⟩ := newrow6 y4_1 #[.int .i64 0, .int .i64 0, .int .i64 0, .int .i64 0, .int .i64 0, .int .i64 0] #[.int .i64 c.o, .int .i64 c.i, .int .i64 c.u, .int .i64 c.n, .int .i64 c.w, .int .i64 c.c] 33
  go_wp2_with ((with_reducible refine gate_store (t := 33) (p := 8) (v := .tmp 17) rfl ?_); refine Shut.out ?_)
  unfold Shut
  refine store_rowTo rfl 33 (.tmp 8) (.tmp 17) rfl rfl y4_1.heap.size #[.int .i64 c.o, .int .i64 c.i, .int .i64 c.u, .int .i64 c.n, .int .i64 c.w, .int .i64 c.c] rfl rfl 33 _ (blk_new y4_1 _) (by kernel_rfl) rfl (all6 _ _ _ _ _ _) ?_
  have n_HB := Aside0.mk (below_step HB.out hnb)
  have n_BK1 := Aside0.mk (blk_below BK1.out hnb)
  have n_BK2 := Aside0.mk (blk_below BK2.out hnb)
  have n_BK4 := Aside0.mk (blk_below BK4.out hnb)
  have n_R6 := Aside0.mk (Kd.R_below R6.out hnb)
  have n_BK8 := Aside0.mk hnk
  clear HB BK1 BK2 BK4 R6 hnb hnk
  generalize (y4_1.alloc (.cells #[.int .i64 0, .int .i64 0, .int .i64 0, .int .i64 0, .int .i64 0, .int .i64 0] 33)).setRow y4_1.heap.size #[.int .i64 c.o, .int .i64 c.i, .int .i64 c.u, .int .i64 c.n, .int .i64 c.w, .int .i64 c.c] = z4_2 at n_HB n_BK1 n_BK2 n_BK4 n_BK8 n_R6 ⊢
  generalize y4_1.heap.size = g8 at n_BK8 ⊢
  have HB := n_HB
  clear n_HB
  have BK1 := n_BK1
  clear n_BK1
  have BK2 := n_BK2
  clear n_BK2
  have BK4 := n_BK4
  clear n_BK4
  have R6 := n_R6
  clear n_R6
  have BK8 := n_BK8
  clear n_BK8
  have hk0 : z4_2.cell? ⟨g8, 0, none⟩ = some (.int .i64 c.o) := blk_cell BK8.out 0
  have hk1 : z4_2.cell? ⟨g8, 1, none⟩ = some (.int .i64 c.i) := blk_cell BK8.out 1
  have hk2 : z4_2.cell? ⟨g8, 2, none⟩ = some (.int .i64 c.u) := blk_cell BK8.out 2
  have hk3 : z4_2.cell? ⟨g8, 3, none⟩ = some (.int .i64 c.n) := blk_cell BK8.out 3
  have hk4 : z4_2.cell? ⟨g8, 4, none⟩ = some (.int .i64 c.w) := blk_cell BK8.out 4
  have hk5 : z4_2.cell? ⟨g8, 5, none⟩ = some (.int .i64 c.c) := blk_cell BK8.out 5
  go_wp2_with ((with_reducible refine gate_builtin (b := .append) (xs := #[.tmp 18, .tmp 34]) rfl ?_); refine Shut.out ?_)
  unfold Shut
  refine Kd.R_append (Kd.int .i64) (w0 := w) w.heap.size rfl (.tmp 18) (.tmp 34) 53 2 (.int .i64 0) 8 rfl Try.underlying53 info2 rfl (by decide) (by omega) u4_1 ([a.w, b.w] : List Int) c.w [.int .i64 c.w] (fun _ => True) (fun _ => False) rfl rfl ?aP (fun _ hk => hk.elim) ?aF ?aO ?aB ?aS ?aL ?_
  case aP => exact rfl
  case aB => exact HB.out
  case aF => exact (fun _ _ => trivial)
  case aO => exact R6.out
  case aS => exact below_size HB.out
  case aL => simp
  intro u4_2 y4_2 ho hb hg hat
  have n_BK1 := Aside0.mk (blk_grown BK1.out hg (Kd.R_ne R6.out BK1.out (by decide)))
  have n_BK2 := Aside0.mk (blk_grown BK2.out hg (Kd.R_ne R6.out BK2.out (by decide)))
  have n_BK4 := Aside0.mk (blk_grown BK4.out hg (Kd.R_ne R6.out BK4.out (by decide)))
  have n_HB := Aside0.mk hb
  have n_R6 : Aside0 (Kd.R (Kd.int .i64) 2 y4_2 w.heap.size (fun _ => True) u4_2 ([a.w, b.w, c.w] : List Int)) := ⟨ho⟩
  clear HB BK1 BK2 BK4 R6 BK8 hk0 hk1 hk2 hk3 hk4 hk5 ho hb hg hat hjx
  have HB := n_HB
  clear n_HB
  have BK1 := n_BK1
  clear n_BK1
  have BK2 := n_BK2
  clear n_BK2
  have BK4 := n_BK4
  clear n_BK4
  have R6 := n_R6
  clear n_R6
  go_wp2_with fail
  rw [rounds_succ]
  obtain ⟨A6, c6, hA6⟩ := Kd.R_slice R6.out
  subst hA6
  go_wp2_with fail
  obtain ⟨⟨s4, e4⟩, hse⟩ : ∃ r, r = (if inr64 (a.w + b.w + c.w) then ((a.w + b.w + c.w), (0 : Int)) else (0, 3)) := ⟨_, rfl⟩
  have hsum := lombardref16_Net.sum3 a.w b.w c.w (by have := ha.out; unfold Row6.inr at this; exact this.2.2.2.2.1) (by have := hb0.out; unfold Row6.inr at this; exact this.2.2.2.2.1) (by have := hc.out; unfold Row6.inr at this; exact this.2.2.2.2.1)
  rw [← hse] at hsum
  have HSE4 := Aside0.mk hse
  have HSUM := Aside0.mk hsum
  clear hse hsum
  with_reducible refine (lombardref16_Net.sumc HSUM.out (Kd.R_reads' R6.out).2.2 (Kd.R_reads' R6.out).2.1).mono ?_
  rintro e x4 ⟨rfl, hb⟩
  have n_HB := Aside0.mk (below_step HB.out hb)
  have n_BK1 := Aside0.mk (blk_below BK1.out hb)
  have n_BK2 := Aside0.mk (blk_below BK2.out hb)
  have n_BK4 := Aside0.mk (blk_below BK4.out hb)
  clear HB BK1 BK2 BK4 R6 hb HSUM
  have HB := n_HB
  clear n_HB
  have BK1 := n_BK1
  clear n_BK1
  have BK2 := n_BK2
  clear n_BK2
  have BK4 := n_BK4
  clear n_BK4
  by_cases hi : inr64 (a.w + b.w + c.w)
  case neg =>
    have hq := HSE4.out
    rw [if_neg hi] at hq
    simp only [Prod.mk.injEq] at hq
    obtain ⟨rfl, rfl⟩ := hq
    have HI := Aside0.mk hi
    clear hi
    go_wp2_with ((with_reducible refine gate_store (t := 33) (p := 2) (v := .tmp 44) rfl ?_); refine Shut.out ?_)
    unfold Shut
    refine store_rowTo rfl 33 (.tmp 2) (.tmp 44) rfl rfl g2 (row6 Row6.z) rfl rfl 33 _ BK2.out (by kernel_rfl) rfl (all6n _ _ _ _ _ _) ?_
    have HBn := Aside0.mk (row_below (g := g2) HB.out (by omega) (row6 Row6.z))
    have BKn := Aside0.mk (setRow_heap _ _ _ (row6 Row6.z) _ _ BK2.out)
    clear HB BK2
    go_wp2_with fail
    exact HERR.out _ _ _ _ _ _ _ _ _ _ _ _ _ _ _ _ _ _ _ _ _ _ _ _ _ _ _ _ _ _ _ _ _ _ _ _ _ _ _ _ _ _ _ _ _ ⟨HI.out, BKn, HBn⟩
  have hq := HSE4.out
  rw [if_pos hi] at hq
  simp only [Prod.mk.injEq] at hq
  obtain ⟨hs, rfl⟩ := hq
  have HS := Aside0.mk hs
  have HI := Aside0.mk hi
  clear hs hi HSE4 HERR
  have kc : x4.cell? ⟨g4, 4, none⟩ = some (.int .i64 0) := blk_cell BK4.out 4
  have kf := blk_frozen BK4.out 4
  go_wp2_with fail
  have n_HB := Aside0.mk (HB.out.setCell (p := ⟨g4, 4, none⟩) (show w.heap.size ≤ g4 by omega) (.int .i64 s4))
  have n_BK1 := Aside0.mk ((Below.heap_setCell x4 ⟨g4, 4, none⟩ (.int .i64 s4) w.heap.size (show w.heap.size ≠ g4 by omega)).trans BK1.out)
  have n_BK2 := Aside0.mk ((Below.heap_setCell x4 ⟨g4, 4, none⟩ (.int .i64 s4) g2 (show g2 ≠ g4 by omega)).trans BK2.out)
  have n_BK4 := Aside0.mk (blk_put BK4.out 4 (.int .i64 s4) (show _ = (#[.int .i64 p0, .int .i64 p1, .int .i64 p2, .int .i64 p3, .int .i64 (a.w + b.w + c.w), .int .i64 p5] : Array Value) from by rw [HS.out]; rfl))
  exact HKK.out _ _ _ _ _ _ _ _ _ _ _ _ _ _ _ _ _ _ _ _ _ _ _ _ _ _ _ _ _ _ _ _ _ _ _ _ _ _ _ _ _ _ _ _ ⟨HI.out, n_BK1, n_BK2, n_BK4, n_HB⟩
set_option maxHeartbeats 16000000 in
set_option maxRecDepth 1000000 in
theorem lombardref16_Net.round5 {a b c : Row6} (ha : Aside0 a.inr) (hb0 : Aside0 b.inr) (hc : Aside0 c.inr) {w v0 : World} {g2 g4 : Nat} (hlt2 : w.heap.size < g2) (hlt4 : g2 < g4) {p0 p1 p2 p3 p4 : Int} {K : Act → World → Prop} {Q0 : Exit → Act → World → Prop} {c0 c7 c50 c51 c52 c53 c54 c55 c56 c57 c58 c59 c60 c61 c62 : Value} {u5 u6 u8 u9 u10 u12 u13 u14 u15 u16 u17 u18 u19 u20 u21 u22 u23 u24 u25 u26 u27 u28 u29 u30 u31 u32 u33 u34 u35 u36 u37 u38 u39 u40 u41 u42 u43 u44 u45 u46 u47 u48 u49 : Value}
    (BK1 : Aside0 (v0.heap[w.heap.size]? = some (.cells (row18 a b c) 34 (0, 0)))) (BK2 : Aside0 (v0.heap[g2]? = some (.cells (row6 Row6.z) 33 (0, 0)))) (BK4 : Aside0 (v0.heap[g4]? = some (.cells #[.int .i64 p0, .int .i64 p1, .int .i64 p2, .int .i64 p3, .int .i64 p4, .int .i64 0] 66 (0, 0)))) (HB : Aside0 (Below w.heap.size w v0))
    (herr : ∀ (x5 x6 x8 x9 x10 x11 x12 x13 x14 x15 x16 x17 x18 x19 x20 x21 x22 x23 x24 x25 x26 x27 x28 x29 x30 x31 x32 x33 x34 x35 x36 x37 x38 x39 x40 x41 x42 x43 x44 x45 x46 x47 x48 x49 : Value) (w1 : World), (¬ inr64 (a.c + b.c + c.c) ∧ Aside0 (w1.heap[g2]? = some (.cells (row6 Row6.z) 33 (0, 0))) ∧ Aside0 (Below w.heap.size w w1)) → Q0 Exit.ret ⟨List.toArray (c0 :: .pointer (some ⟨w.heap.size, 0, none⟩) :: .pointer (some ⟨g2, 0, none⟩) :: .int .i64 3 :: .pointer (some ⟨g4, 0, none⟩) :: x5 :: x6 :: c7 :: x8 :: x9 :: x10 :: x11 :: x12 :: x13 :: x14 :: x15 :: x16 :: x17 :: x18 :: x19 :: x20 :: x21 :: x22 :: x23 :: x24 :: x25 :: x26 :: x27 :: x28 :: x29 :: x30 :: x31 :: x32 :: x33 :: x34 :: x35 :: x36 :: x37 :: x38 :: x39 :: x40 :: x41 :: x42 :: x43 :: x44 :: x45 :: x46 :: x47 :: x48 :: x49 :: c50 :: c51 :: c52 :: c53 :: c54 :: c55 :: c56 :: c57 :: c58 :: c59 :: c60 :: c61 :: c62 :: []), []⟩ w1)
    (hK : ∀ (x5 x6 x8 x9 x10 x12 x13 x14 x15 x16 x17 x18 x19 x20 x21 x22 x23 x24 x25 x26 x27 x28 x29 x30 x31 x32 x33 x34 x35 x36 x37 x38 x39 x40 x41 x42 x43 x44 x45 x46 x47 x48 x49 : Value) (w1 : World), (inr64 (a.c + b.c + c.c) ∧ Aside0 (w1.heap[w.heap.size]? = some (.cells (row18 a b c) 34 (0, 0))) ∧ Aside0 (w1.heap[g2]? = some (.cells (row6 Row6.z) 33 (0, 0))) ∧ Aside0 (w1.heap[g4]? = some (.cells #[.int .i64 p0, .int .i64 p1, .int .i64 p2, .int .i64 p3, .int .i64 p4, .int .i64 (a.c + b.c + c.c)] 66 (0, 0))) ∧ Aside0 (Below w.heap.size w w1)) → K ⟨List.toArray (c0 :: .pointer (some ⟨w.heap.size, 0, none⟩) :: .pointer (some ⟨g2, 0, none⟩) :: .int .i64 0 :: .pointer (some ⟨g4, 0, none⟩) :: x5 :: x6 :: c7 :: x8 :: x9 :: x10 :: .int .i64 6 :: x12 :: x13 :: x14 :: x15 :: x16 :: x17 :: x18 :: x19 :: x20 :: x21 :: x22 :: x23 :: x24 :: x25 :: x26 :: x27 :: x28 :: x29 :: x30 :: x31 :: x32 :: x33 :: x34 :: x35 :: x36 :: x37 :: x38 :: x39 :: x40 :: x41 :: x42 :: x43 :: x44 :: x45 :: x46 :: x47 :: x48 :: x49 :: c50 :: c51 :: c52 :: c53 :: c54 :: c55 :: c56 :: c57 :: c58 :: c59 :: c60 :: c61 :: c62 :: []), []⟩ w1) :
    Code.wp Try.prog lombardref16_Net.body (Exit.then K Q0) ⟨List.toArray (c0 :: .pointer (some ⟨w.heap.size, 0, none⟩) :: .pointer (some ⟨g2, 0, none⟩) :: .int .i64 0 :: .pointer (some ⟨g4, 0, none⟩) :: u5 :: u6 :: c7 :: u8 :: u9 :: u10 :: .int .i64 5 :: u12 :: u13 :: u14 :: u15 :: u16 :: u17 :: u18 :: u19 :: u20 :: u21 :: u22 :: u23 :: u24 :: u25 :: u26 :: u27 :: u28 :: u29 :: u30 :: u31 :: u32 :: u33 :: u34 :: u35 :: u36 :: u37 :: u38 :: u39 :: u40 :: u41 :: u42 :: u43 :: u44 :: u45 :: u46 :: u47 :: u48 :: u49 :: c50 :: c51 :: c52 :: c53 :: c54 :: c55 :: c56 :: c57 :: c58 :: c59 :: c60 :: c61 :: c62 :: []), []⟩ v0 := by
  conv => arg 2; whnf
  have HERR := Aside0.mk herr
  have HKK := Aside0.mk hK
  clear herr hK
  have hix0 := fun W => lombardref16_Net.ix0 a b c W
  have hix1 := fun W => lombardref16_Net.ix1 a b c W
  have hix2 := fun W => lombardref16_Net.ix2 a b c W
  go_wp2_with ((with_reducible refine gate_dst (N := 14) rfl ?_); refine wpList_load_row rfl 34 (.tmp 1) rfl w.heap.size rfl 34 _ (0, 0) _ BK1.out Try.underlying34 rfl (by kernel_rfl) ?_)
  refine wp_loop_rounds 4 ?_
  rw [rounds_succ]
  have R6 := Aside0.mk (Kd.R_nil (Kd.int .i64) 2 v0 w.heap.size (fun _ => True))
  have hjx := fun W => lombardref16_Net.jx5 a W
  obtain ⟨hnb, hnk⟩ := newrow6 v0 #[.int .i64 0, .int .i64 0, .int .i64 0, .int .i64 0, .int .i64 0, .int .i64 0] #[.int .i64 a.o, .int .i64 a.i, .int .i64 a.u, .int .i64 a.n, .int .i64 a.w, .int .i64 a.c] 33
  go_wp2_with ((with_reducible refine gate_store (t := 33) (p := 8) (v := .tmp 17) rfl ?_); refine Shut.out ?_)
  unfold Shut
  refine store_rowTo rfl 33 (.tmp 8) (.tmp 17) rfl rfl v0.heap.size #[.int .i64 a.o, .int .i64 a.i, .int .i64 a.u, .int .i64 a.n, .int .i64 a.w, .int .i64 a.c] rfl rfl 33 _ (blk_new v0 _) (by kernel_rfl) rfl (all6 _ _ _ _ _ _) ?_
  have n_HB := Aside0.mk (below_step HB.out hnb)
  have n_BK1 := Aside0.mk (blk_below BK1.out hnb)
  have n_BK2 := Aside0.mk (blk_below BK2.out hnb)
  have n_BK4 := Aside0.mk (blk_below BK4.out hnb)
  have n_R6 := Aside0.mk (Kd.R_below R6.out hnb)
  have n_BK8 := Aside0.mk hnk
  clear HB BK1 BK2 BK4 R6 hnb hnk
  generalize (v0.alloc (.cells #[.int .i64 0, .int .i64 0, .int .i64 0, .int .i64 0, .int .i64 0, .int .i64 0] 33)).setRow v0.heap.size #[.int .i64 a.o, .int .i64 a.i, .int .i64 a.u, .int .i64 a.n, .int .i64 a.w, .int .i64 a.c] = z5_0 at n_HB n_BK1 n_BK2 n_BK4 n_BK8 n_R6 ⊢
  generalize v0.heap.size = g8 at n_BK8 ⊢
  have HB := n_HB
  clear n_HB
  have BK1 := n_BK1
  clear n_BK1
  have BK2 := n_BK2
  clear n_BK2
  have BK4 := n_BK4
  clear n_BK4
  have R6 := n_R6
  clear n_R6
  have BK8 := n_BK8
  clear n_BK8
  have hk0 : z5_0.cell? ⟨g8, 0, none⟩ = some (.int .i64 a.o) := blk_cell BK8.out 0
  have hk1 : z5_0.cell? ⟨g8, 1, none⟩ = some (.int .i64 a.i) := blk_cell BK8.out 1
  have hk2 : z5_0.cell? ⟨g8, 2, none⟩ = some (.int .i64 a.u) := blk_cell BK8.out 2
  have hk3 : z5_0.cell? ⟨g8, 3, none⟩ = some (.int .i64 a.n) := blk_cell BK8.out 3
  have hk4 : z5_0.cell? ⟨g8, 4, none⟩ = some (.int .i64 a.w) := blk_cell BK8.out 4
  have hk5 : z5_0.cell? ⟨g8, 5, none⟩ = some (.int .i64 a.c) := blk_cell BK8.out 5
  go_wp2_with ((with_reducible refine gate_builtin (b := .append) (xs := #[.tmp 18, .tmp 34]) rfl ?_); refine Shut.out ?_)
  unfold Shut
  refine Kd.R_append (Kd.int .i64) (w0 := w) w.heap.size rfl (.tmp 18) (.tmp 34) 53 2 (.int .i64 0) 8 rfl Try.underlying53 info2 rfl (by decide) (by omega) (.slice none 0 0) ([] : List Int) a.c [.int .i64 a.c] (fun _ => True) (fun _ => False) rfl rfl ?aP (fun _ hk => hk.elim) ?aF ?aO ?aB ?aS ?aL ?_
  case aP => exact rfl
  case aB => exact HB.out
  case aF => exact (fun _ _ => trivial)
  case aO => exact R6.out
  case aS => exact below_size HB.out
  case aL => simp
  intro u5_0 y5_0 ho hb hg hat
  have n_BK1 := Aside0.mk (blk_grown BK1.out hg (Kd.R_ne R6.out BK1.out (by decide)))
  have n_BK2 := Aside0.mk (blk_grown BK2.out hg (Kd.R_ne R6.out BK2.out (by decide)))
  have n_BK4 := Aside0.mk (blk_grown BK4.out hg (Kd.R_ne R6.out BK4.out (by decide)))
  have n_HB := Aside0.mk hb
  have n_R6 : Aside0 (Kd.R (Kd.int .i64) 2 y5_0 w.heap.size (fun _ => True) u5_0 ([a.c] : List Int)) := ⟨ho⟩
  clear HB BK1 BK2 BK4 R6 BK8 hk0 hk1 hk2 hk3 hk4 hk5 ho hb hg hat hjx
  have HB := n_HB
  clear n_HB
  have BK1 := n_BK1
  clear n_BK1
  have BK2 := n_BK2
  clear n_BK2
  have BK4 := n_BK4
  clear n_BK4
  have R6 := n_R6
  clear n_R6
  go_wp2_with fail
  rw [rounds_succ]
  have hjx := fun W => lombardref16_Net.jx5 b W
  obtain ⟨hnb, hnk⟩ := newrow6 y5_0 #[.int .i64 0, .int .i64 0, .int .i64 0, .int .i64 0, .int .i64 0, .int .i64 0] #[.int .i64 b.o, .int .i64 b.i, .int .i64 b.u, .int .i64 b.n, .int .i64 b.w, .int .i64 b.c] 33
  go_wp2_with ((with_reducible refine gate_store (t := 33) (p := 8) (v := .tmp 17) rfl ?_); refine Shut.out ?_)
  unfold Shut
  refine store_rowTo rfl 33 (.tmp 8) (.tmp 17) rfl rfl y5_0.heap.size #[.int .i64 b.o, .int .i64 b.i, .int .i64 b.u, .int .i64 b.n, .int .i64 b.w, .int .i64 b.c] rfl rfl 33 _ (blk_new y5_0 _) (by kernel_rfl) rfl (all6 _ _ _ _ _ _) ?_
  have n_HB := Aside0.mk (below_step HB.out hnb)
  have n_BK1 := Aside0.mk (blk_below BK1.out hnb)
  have n_BK2 := Aside0.mk (blk_below BK2.out hnb)
  have n_BK4 := Aside0.mk (blk_below BK4.out hnb)
  have n_R6 := Aside0.mk (Kd.R_below R6.out hnb)
  have n_BK8 := Aside0.mk hnk
  clear HB BK1 BK2 BK4 R6 hnb hnk
  generalize (y5_0.alloc (.cells #[.int .i64 0, .int .i64 0, .int .i64 0, .int .i64 0, .int .i64 0, .int .i64 0] 33)).setRow y5_0.heap.size #[.int .i64 b.o, .int .i64 b.i, .int .i64 b.u, .int .i64 b.n, .int .i64 b.w, .int .i64 b.c] = z5_1 at n_HB n_BK1 n_BK2 n_BK4 n_BK8 n_R6 ⊢
  generalize y5_0.heap.size = g8 at n_BK8 ⊢
  have HB := n_HB
  clear n_HB
  have BK1 := n_BK1
  clear n_BK1
  have BK2 := n_BK2
  clear n_BK2
  have BK4 := n_BK4
  clear n_BK4
  have R6 := n_R6
  clear n_R6
  have BK8 := n_BK8
  clear n_BK8
  have hk0 : z5_1.cell? ⟨g8, 0, none⟩ = some (.int .i64 b.o) := blk_cell BK8.out 0
  have hk1 : z5_1.cell? ⟨g8, 1, none⟩ = some (.int .i64 b.i) := blk_cell BK8.out 1
  have hk2 : z5_1.cell? ⟨g8, 2, none⟩ = some (.int .i64 b.u) := blk_cell BK8.out 2
  have hk3 : z5_1.cell? ⟨g8, 3, none⟩ = some (.int .i64 b.n) := blk_cell BK8.out 3
  have hk4 : z5_1.cell? ⟨g8, 4, none⟩ = some (.int .i64 b.w) := blk_cell BK8.out 4
  have hk5 : z5_1.cell? ⟨g8, 5, none⟩ = some (.int .i64 b.c) := blk_cell BK8.out 5
  go_wp2_with ((with_reducible refine gate_builtin (b := .append) (xs := #[.tmp 18, .tmp 34]) rfl ?_); refine Shut.out ?_)
  unfold Shut
  refine Kd.R_append (Kd.int .i64) (w0 := w) w.heap.size rfl (.tmp 18) (.tmp 34) 53 2 (.int .i64 0) 8 rfl Try.underlying53 info2 rfl (by decide) (by omega) u5_0 ([a.c] : List Int) b.c [.int .i64 b.c] (fun _ => True) (fun _ => False) rfl rfl ?aP (fun _ hk => hk.elim) ?aF ?aO ?aB ?aS ?aL ?_
  case aP => exact rfl
  case aB => exact HB.out
  case aF => exact (fun _ _ => trivial)
  case aO => exact R6.out
  case aS => exact below_size HB.out
  case aL => simp
  intro u5_1 y5_1 ho hb hg hat
  have n_BK1 := Aside0.mk (blk_grown BK1.out hg (Kd.R_ne R6.out BK1.out (by decide)))
  have n_BK2 := Aside0.mk (blk_grown BK2.out hg (Kd.R_ne R6.out BK2.out (by decide)))
  have n_BK4 := Aside0.mk (blk_grown BK4.out hg (Kd.R_ne R6.out BK4.out (by decide)))
  have n_HB := Aside0.mk hb
  have n_R6 : Aside0 (Kd.R (Kd.int .i64) 2 y5_1 w.heap.size (fun _ => True) u5_1 ([a.c, b.c] : List Int)) := ⟨ho⟩
  clear HB BK1 BK2 BK4 R6 BK8 hk0 hk1 hk2 hk3 hk4 hk5 ho hb hg hat hjx
  have HB := n_HB
  clear n_HB
  have BK1 := n_BK1
  clear n_BK1
  have BK2 := n_BK2
  clear n_BK2
  have BK4 := n_BK4
  clear n_BK4
  have R6 := n_R6
  clear n_R6
  go_wp2_with fail
  rw [rounds_succ]
  have hjx := fun W => lombardref16_Net.jx5 c W
  obtain ⟨hnb, hnk⟩ := newrow6 y5_1 #[.int .i64 0, .int .i64 0, .int .i64 0, .int .i64 0, .int .i64 0, .int .i64 0] #[.int .i64 c.o, .int .i64 c.i, .int .i64 c.u, .int .i64 c.n, .int .i64 c.w, .int .i64 c.c] 33
  go_wp2_with ((with_reducible refine gate_store (t := 33) (p := 8) (v := .tmp 17) rfl ?_); refine Shut.out ?_)
  unfold Shut
  refine store_rowTo rfl 33 (.tmp 8) (.tmp 17) rfl rfl y5_1.heap.size #[.int .i64 c.o, .int .i64 c.i, .int .i64 c.u, .int .i64 c.n, .int .i64 c.w, .int .i64 c.c] rfl rfl 33 _ (blk_new y5_1 _) (by kernel_rfl) rfl (all6 _ _ _ _ _ _) ?_
  have n_HB := Aside0.mk (below_step HB.out hnb)
  have n_BK1 := Aside0.mk (blk_below BK1.out hnb)
  have n_BK2 := Aside0.mk (blk_below BK2.out hnb)
  have n_BK4 := Aside0.mk (blk_below BK4.out hnb)
  have n_R6 := Aside0.mk (Kd.R_below R6.out hnb)
  have n_BK8 := Aside0.mk hnk
  clear HB BK1 BK2 BK4 R6 hnb hnk
  generalize (y5_1.alloc (.cells #[.int .i64 0, .int .i64 0, .int .i64 0, .int .i64 0, .int .i64 0, .int .i64 0] 33)).setRow y5_1.heap.size #[.int .i64 c.o, .int .i64 c.i, .int .i64 c.u, .int .i64 c.n, .int .i64 c.w, .int .i64 c.c] = z5_2 at n_HB n_BK1 n_BK2 n_BK4 n_BK8 n_R6 ⊢
  generalize y5_1.heap.size = g8 at n_BK8 ⊢
  have HB := n_HB
  clear n_HB
  have BK1 := n_BK1
  clear n_BK1
  have BK2 := n_BK2
  clear n_BK2
  have BK4 := n_BK4
  clear n_BK4
  have R6 := n_R6
  clear n_R6
  have BK8 := n_BK8
  clear n_BK8
  have hk0 : z5_2.cell? ⟨g8, 0, none⟩ = some (.int .i64 c.o) := blk_cell BK8.out 0
  have hk1 : z5_2.cell? ⟨g8, 1, none⟩ = some (.int .i64 c.i) := blk_cell BK8.out 1
  have hk2 : z5_2.cell? ⟨g8, 2, none⟩ = some (.int .i64 c.u) := blk_cell BK8.out 2
  have hk3 : z5_2.cell? ⟨g8, 3, none⟩ = some (.int .i64 c.n) := blk_cell BK8.out 3
  have hk4 : z5_2.cell? ⟨g8, 4, none⟩ = some (.int .i64 c.w) := blk_cell BK8.out 4
  have hk5 : z5_2.cell? ⟨g8, 5, none⟩ = some (.int .i64 c.c) := blk_cell BK8.out 5
  go_wp2_with ((with_reducible refine gate_builtin (b := .append) (xs := #[.tmp 18, .tmp 34]) rfl ?_); refine Shut.out ?_)
  unfold Shut
  refine Kd.R_append (Kd.int .i64) (w0 := w) w.heap.size rfl (.tmp 18) (.tmp 34) 53 2 (.int .i64 0) 8 rfl Try.underlying53 info2 rfl (by decide) (by omega) u5_1 ([a.c, b.c] : List Int) c.c [.int .i64 c.c] (fun _ => True) (fun _ => False) rfl rfl ?aP (fun _ hk => hk.elim) ?aF ?aO ?aB ?aS ?aL ?_
  case aP => exact rfl
  case aB => exact HB.out
  case aF => exact (fun _ _ => trivial)
  case aO => exact R6.out
  case aS => exact below_size HB.out
  case aL => simp
  intro u5_2 y5_2 ho hb hg hat
  have n_BK1 := Aside0.mk (blk_grown BK1.out hg (Kd.R_ne R6.out BK1.out (by decide)))
  have n_BK2 := Aside0.mk (blk_grown BK2.out hg (Kd.R_ne R6.out BK2.out (by decide)))
  have n_BK4 := Aside0.mk (blk_grown BK4.out hg (Kd.R_ne R6.out BK4.out (by decide)))
  have n_HB := Aside0.mk hb
  have n_R6 : Aside0 (Kd.R (Kd.int .i64) 2 y5_2 w.heap.size (fun _ => True) u5_2 ([a.c, b.c, c.c] : List Int)) := ⟨ho⟩
  clear HB BK1 BK2 BK4 R6 BK8 hk0 hk1 hk2 hk3 hk4 hk5 ho hb hg hat hjx
  have HB := n_HB
  clear n_HB
  have BK1 := n_BK1
  clear n_BK1
  have BK2 := n_BK2
  clear n_BK2
  have BK4 := n_BK4
  clear n_BK4
  have R6 := n_R6
  clear n_R6
  go_wp2_with fail
  rw [rounds_succ]
  obtain ⟨A6, c6, hA6⟩ := Kd.R_slice R6.out
  subst hA6
  go_wp2_with fail
  obtain ⟨⟨s5, e5⟩, hse⟩ : ∃ r, r = (if inr64 (a.c + b.c + c.c) then ((a.c + b.c + c.c), (0 : Int)) else (0, 3)) := ⟨_, rfl⟩
  have hsum := lombardref16_Net.sum3 a.c b.c c.c (by have := ha.out; unfold Row6.inr at this; exact this.2.2.2.2.2) (by have := hb0.out; unfold Row6.inr at this; exact this.2.2.2.2.2) (by have := hc.out; unfold Row6.inr at this; exact this.2.2.2.2.2)
  rw [← hse] at hsum
  have HSE5 := Aside0.mk hse
  have HSUM := Aside0.mk hsum
  clear hse hsum
  with_reducible refine (lombardref16_Net.sumc HSUM.out (Kd.R_reads' R6.out).2.2 (Kd.R_reads' R6.out).2.1).mono ?_
  rintro e x5 ⟨rfl, hb⟩
  have n_HB := Aside0.mk (below_step HB.out hb)
  have n_BK1 := Aside0.mk (blk_below BK1.out hb)
  have n_BK2 := Aside0.mk (blk_below BK2.out hb)
  have n_BK4 := Aside0.mk (blk_below BK4.out hb)
  clear HB BK1 BK2 BK4 R6 hb HSUM
  have HB := n_HB
  clear n_HB
  have BK1 := n_BK1
  clear n_BK1
  have BK2 := n_BK2
  clear n_BK2
  have BK4 := n_BK4
  clear n_BK4
  by_cases hi : inr64 (a.c + b.c + c.c)
  case neg =>
    have hq := HSE5.out
    rw [if_neg hi] at hq
    simp only [Prod.mk.injEq] at hq
    obtain ⟨rfl, rfl⟩ := hq
    have HI := Aside0.mk hi
    clear hi
    go_wp2_with ((with_reducible refine gate_store (t := 33) (p := 2) (v := .tmp 44) rfl ?_); refine Shut.out ?_)
    unfold Shut
    refine store_rowTo rfl 33 (.tmp 2) (.tmp 44) rfl rfl g2 (row6 Row6.z) rfl rfl 33 _ BK2.out (by kernel_rfl) rfl (all6n _ _ _ _ _ _) ?_
    have HBn := Aside0.mk (row_below (g := g2) HB.out (by omega) (row6 Row6.z))
    have BKn := Aside0.mk (setRow_heap _ _ _ (row6 Row6.z) _ _ BK2.out)
    clear HB BK2
    go_wp2_with fail
    exact HERR.out _ _ _ _ _ _ _ _ _ _ _ _ _ _ _ _ _ _ _ _ _ _ _ _ _ _ _ _ _ _ _ _ _ _ _ _ _ _ _ _ _ _ _ _ _ ⟨HI.out, BKn, HBn⟩
  have hq := HSE5.out
  rw [if_pos hi] at hq
  simp only [Prod.mk.injEq] at hq
  obtain ⟨hs, rfl⟩ := hq
  have HS := Aside0.mk hs
  have HI := Aside0.mk hi
  clear hs hi HSE5 HERR
  have kc : x5.cell? ⟨g4, 5, none⟩ = some (.int .i64 0) := blk_cell BK4.out 5
  have kf := blk_frozen BK4.out 5
  go_wp2_with fail
  have n_HB := Aside0.mk (HB.out.setCell (p := ⟨g4, 5, none⟩) (show w.heap.size ≤ g4 by omega) (.int .i64 s5))
  have n_BK1 := Aside0.mk ((Below.heap_setCell x5 ⟨g4, 5, none⟩ (.int .i64 s5) w.heap.size (show w.heap.size ≠ g4 by omega)).trans BK1.out)
  have n_BK2 := Aside0.mk ((Below.heap_setCell x5 ⟨g4, 5, none⟩ (.int .i64 s5) g2 (show g2 ≠ g4 by omega)).trans BK2.out)
  have n_BK4 := Aside0.mk (blk_put BK4.out 5 (.int .i64 s5) (show _ = (#[.int .i64 p0, .int .i64 p1, .int .i64 p2, .int .i64 p3, .int .i64 p4, .int .i64 (a.c + b.c + c.c)] : Array Value) from by rw [HS.out]; rfl))
  exact HKK.out _ _ _ _ _ _ _ _ _ _ _ _ _ _ _ _ _ _ _ _ _ _ _ _ _ _ _ _ _ _ _ _ _ _ _ _ _ _ _ _ _ _ _ _ ⟨HI.out, n_BK1, n_BK2, n_BK4, n_HB⟩
set_option maxHeartbeats 32000000 in
set_option maxRecDepth 100000 in
theorem lombardref16_Net.go_ (a b c : Row6) (ha : Aside0 a.inr) (hb0 : Aside0 b.inr) (hc : Aside0 c.inr) (w : World) {r : Row6 × Int} (HRES : Aside0 (allow_Net.g a b c = r)) : Calls Try.prog 15 #[.agg (row18 a b c)] w fun e w' => e = .returned (.tuple #[.agg (row6 r.1), .int .i64 r.2]) ∧ Below w.heap.size w w' := by
  obtain ⟨h1, h2, h3, h4⟩ := lombardref16_Net.start w a b c
  have HB := Aside0.mk h1
  have BK1 := Aside0.mk h2
  have BK2 := Aside0.mk h3
  have BK4 := Aside0.mk h4
  clear h1 h2 h3 h4
  have hix0 := fun W => lombardref16_Net.ix0 a b c W
  have hix1 := fun W => lombardref16_Net.ix1 a b c W
  have hix2 := fun W => lombardref16_Net.ix2 a b c W
  go_enter Try.func15, Try.ntmps15
  go_wp2_with fail
  generalize ((w.alloc (.cells (row18 a b c) 34)).alloc (.cells #[.int .i64 0, .int .i64 0, .int .i64 0, .int .i64 0, .int .i64 0, .int .i64 0] 33)).alloc (.cells #[.int .i64 0, .int .i64 0, .int .i64 0, .int .i64 0, .int .i64 0, .int .i64 0] 66) = v0 at HB BK1 BK2 BK4 ⊢
  obtain ⟨g2, hg2⟩ : ∃ g, g = w.heap.size + 1 := ⟨_, rfl⟩
  obtain ⟨g4, hg4⟩ : ∃ g, g = w.heap.size + 1 + 1 := ⟨_, rfl⟩
  rw [← hg4] at BK4 ⊢
  rw [← hg2] at BK2 ⊢
  have hlt2 : w.heap.size < g2 := by omega
  have hlt4 : g2 < g4 := by omega
  clear hg2 hg4
  refine wp_loop_rounds 7 ?_
  rw [rounds_succ]
  replace BK4 : Aside0 (v0.heap[g4]? = some (.cells #[.int .i64 0, .int .i64 0, .int .i64 0, .int .i64 0, .int .i64 0, .int .i64 0] 66 (0, 0))) := ⟨BK4.out⟩
  refine lombardref16_Net.round0 ha hb0 hc hlt2 hlt4 BK1 BK2 BK4 HB ?er ?_
  case er =>
    clear BK1 BK2 BK4 HB
    intro x5 x6 x8 x9 x10 x11 x12 x13 x14 x15 x16 x17 x18 x19 x20 x21 x22 x23 x24 x25 x26 x27 x28 x29 x30 x31 x32 x33 x34 x35 x36 x37 x38 x39 x40 x41 x42 x43 x44 x45 x46 x47 x48 x49 w1
    rintro ⟨hi, BKn, HBn⟩
    have hr : r = (Row6.z, 3) := by rw [← HRES.out]; unfold allow_Net.g; rw [if_neg (fun z => hi z.1)]
    subst hr
    clear hi HRES
    go_wp2_with fail
    exact bodyPost_ret (v := .tuple #[.agg (row6 Row6.z), .int .i64 3]) (results_ct Try.results15 _ _ g2 33 _ (0, 0) _ rfl BKn.out Try.underlying33 rfl (by kernel_rfl)) rfl ⟨rfl, HBn.out⟩
  clear BK1 BK2 BK4 HB
  intro x5 x6 x8 x9 x10 x12 x13 x14 x15 x16 x17 x18 x19 x20 x21 x22 x23 x24 x25 x26 x27 x28 x29 x30 x31 x32 x33 x34 x35 x36 x37 x38 x39 x40 x41 x42 x43 x44 x45 x46 x47 x48 x49 v1
  rintro ⟨hi0, BK1, BK2, BK4, HB⟩
  have HI0 := Aside0.mk hi0
  clear hi0
  rw [rounds_succ]
  refine lombardref16_Net.round1 ha hb0 hc hlt2 hlt4 BK1 BK2 BK4 HB ?er ?_
  case er =>
    clear BK1 BK2 BK4 HB
    intro x5 x6 x8 x9 x10 x11 x12 x13 x14 x15 x16 x17 x18 x19 x20 x21 x22 x23 x24 x25 x26 x27 x28 x29 x30 x31 x32 x33 x34 x35 x36 x37 x38 x39 x40 x41 x42 x43 x44 x45 x46 x47 x48 x49 w1
    rintro ⟨hi, BKn, HBn⟩
    have hr : r = (Row6.z, 3) := by rw [← HRES.out]; unfold allow_Net.g; rw [if_neg (fun z => hi z.2.1)]
    subst hr
    clear hi HRES
    go_wp2_with fail
    exact bodyPost_ret (v := .tuple #[.agg (row6 Row6.z), .int .i64 3]) (results_ct Try.results15 _ _ g2 33 _ (0, 0) _ rfl BKn.out Try.underlying33 rfl (by kernel_rfl)) rfl ⟨rfl, HBn.out⟩
  clear BK1 BK2 BK4 HB
  intro x5 x6 x8 x9 x10 x12 x13 x14 x15 x16 x17 x18 x19 x20 x21 x22 x23 x24 x25 x26 x27 x28 x29 x30 x31 x32 x33 x34 x35 x36 x37 x38 x39 x40 x41 x42 x43 x44 x45 x46 x47 x48 x49 v2
  rintro ⟨hi1, BK1, BK2, BK4, HB⟩
  have HI1 := Aside0.mk hi1
  clear hi1
  rw [rounds_succ]
  refine lombardref16_Net.round2 ha hb0 hc hlt2 hlt4 BK1 BK2 BK4 HB ?er ?_
  case er =>
    clear BK1 BK2 BK4 HB
    intro x5 x6 x8 x9 x10 x11 x12 x13 x14 x15 x16 x17 x18 x19 x20 x21 x22 x23 x24 x25 x26 x27 x28 x29 x30 x31 x32 x33 x34 x35 x36 x37 x38 x39 x40 x41 x42 x43 x44 x45 x46 x47 x48 x49 w1
    rintro ⟨hi, BKn, HBn⟩
    have hr : r = (Row6.z, 3) := by rw [← HRES.out]; unfold allow_Net.g; rw [if_neg (fun z => hi z.2.2.1)]
    subst hr
    clear hi HRES
    go_wp2_with fail
    exact bodyPost_ret (v := .tuple #[.agg (row6 Row6.z), .int .i64 3]) (results_ct Try.results15 _ _ g2 33 _ (0, 0) _ rfl BKn.out Try.underlying33 rfl (by kernel_rfl)) rfl ⟨rfl, HBn.out⟩
  clear BK1 BK2 BK4 HB
  intro x5 x6 x8 x9 x10 x12 x13 x14 x15 x16 x17 x18 x19 x20 x21 x22 x23 x24 x25 x26 x27 x28 x29 x30 x31 x32 x33 x34 x35 x36 x37 x38 x39 x40 x41 x42 x43 x44 x45 x46 x47 x48 x49 v3
  rintro ⟨hi2, BK1, BK2, BK4, HB⟩
  have HI2 := Aside0.mk hi2
  clear hi2
  rw [rounds_succ]
  refine lombardref16_Net.round3 ha hb0 hc hlt2 hlt4 BK1 BK2 BK4 HB ?er ?_
  case er =>
    clear BK1 BK2 BK4 HB
    intro x5 x6 x8 x9 x10 x11 x12 x13 x14 x15 x16 x17 x18 x19 x20 x21 x22 x23 x24 x25 x26 x27 x28 x29 x30 x31 x32 x33 x34 x35 x36 x37 x38 x39 x40 x41 x42 x43 x44 x45 x46 x47 x48 x49 w1
    rintro ⟨hi, BKn, HBn⟩
    have hr : r = (Row6.z, 3) := by rw [← HRES.out]; unfold allow_Net.g; rw [if_neg (fun z => hi z.2.2.2.1)]
    subst hr
    clear hi HRES
    go_wp2_with fail
    exact bodyPost_ret (v := .tuple #[.agg (row6 Row6.z), .int .i64 3]) (results_ct Try.results15 _ _ g2 33 _ (0, 0) _ rfl BKn.out Try.underlying33 rfl (by kernel_rfl)) rfl ⟨rfl, HBn.out⟩
  clear BK1 BK2 BK4 HB
  intro x5 x6 x8 x9 x10 x12 x13 x14 x15 x16 x17 x18 x19 x20 x21 x22 x23 x24 x25 x26 x27 x28 x29 x30 x31 x32 x33 x34 x35 x36 x37 x38 x39 x40 x41 x42 x43 x44 x45 x46 x47 x48 x49 v4
  rintro ⟨hi3, BK1, BK2, BK4, HB⟩
  have HI3 := Aside0.mk hi3
  clear hi3
  rw [rounds_succ]
  refine lombardref16_Net.round4 ha hb0 hc hlt2 hlt4 BK1 BK2 BK4 HB ?er ?_
  case er =>
    clear BK1 BK2 BK4 HB
    intro x5 x6 x8 x9 x10 x11 x12 x13 x14 x15 x16 x17 x18 x19 x20 x21 x22 x23 x24 x25 x26 x27 x28 x29 x30 x31 x32 x33 x34 x35 x36 x37 x38 x39 x40 x41 x42 x43 x44 x45 x46 x47 x48 x49 w1
    rintro ⟨hi, BKn, HBn⟩
    have hr : r = (Row6.z, 3) := by rw [← HRES.out]; unfold allow_Net.g; rw [if_neg (fun z => hi z.2.2.2.2.1)]
    subst hr
    clear hi HRES
    go_wp2_with fail
    exact bodyPost_ret (v := .tuple #[.agg (row6 Row6.z), .int .i64 3]) (results_ct Try.results15 _ _ g2 33 _ (0, 0) _ rfl BKn.out Try.underlying33 rfl (by kernel_rfl)) rfl ⟨rfl, HBn.out⟩
  clear BK1 BK2 BK4 HB
  intro x5 x6 x8 x9 x10 x12 x13 x14 x15 x16 x17 x18 x19 x20 x21 x22 x23 x24 x25 x26 x27 x28 x29 x30 x31 x32 x33 x34 x35 x36 x37 x38 x39 x40 x41 x42 x43 x44 x45 x46 x47 x48 x49 v5
  rintro ⟨hi4, BK1, BK2, BK4, HB⟩
  have HI4 := Aside0.mk hi4
  clear hi4
  rw [rounds_succ]
  refine lombardref16_Net.round5 ha hb0 hc hlt2 hlt4 BK1 BK2 BK4 HB ?er ?_
  case er =>
    clear BK1 BK2 BK4 HB
    intro x5 x6 x8 x9 x10 x11 x12 x13 x14 x15 x16 x17 x18 x19 x20 x21 x22 x23 x24 x25 x26 x27 x28 x29 x30 x31 x32 x33 x34 x35 x36 x37 x38 x39 x40 x41 x42 x43 x44 x45 x46 x47 x48 x49 w1
    rintro ⟨hi, BKn, HBn⟩
    have hr : r = (Row6.z, 3) := by rw [← HRES.out]; unfold allow_Net.g; rw [if_neg (fun z => hi z.2.2.2.2.2)]
    subst hr
    clear hi HRES
    go_wp2_with fail
    exact bodyPost_ret (v := .tuple #[.agg (row6 Row6.z), .int .i64 3]) (results_ct Try.results15 _ _ g2 33 _ (0, 0) _ rfl BKn.out Try.underlying33 rfl (by kernel_rfl)) rfl ⟨rfl, HBn.out⟩
  clear BK1 BK2 BK4 HB
  intro x5 x6 x8 x9 x10 x12 x13 x14 x15 x16 x17 x18 x19 x20 x21 x22 x23 x24 x25 x26 x27 x28 x29 x30 x31 x32 x33 x34 x35 x36 x37 x38 x39 x40 x41 x42 x43 x44 x45 x46 x47 x48 x49 v6
  rintro ⟨hi5, BK1, BK2, BK4, HB⟩
  have HI5 := Aside0.mk hi5
  clear hi5
  rw [rounds_succ]
  have hr : r = (⟨a.o + b.o + c.o, a.i + b.i + c.i, a.u + b.u + c.u, a.n + b.n + c.n, a.w + b.w + c.w, a.c + b.c + c.c⟩, 0) := by
    rw [← HRES.out]; unfold allow_Net.g
    rw [if_pos ⟨HI0.out, HI1.out, HI2.out, HI3.out, HI4.out, HI5.out⟩]
  subst hr
  clear HRES
  have hk0 : v6.cell? ⟨g4, 0, none⟩ = some (.int .i64 (a.o + b.o + c.o)) := blk_cell BK4.out 0
  have hk1 : v6.cell? ⟨g4, 1, none⟩ = some (.int .i64 (a.i + b.i + c.i)) := blk_cell BK4.out 1
  have hk2 : v6.cell? ⟨g4, 2, none⟩ = some (.int .i64 (a.u + b.u + c.u)) := blk_cell BK4.out 2
  have hk3 : v6.cell? ⟨g4, 3, none⟩ = some (.int .i64 (a.n + b.n + c.n)) := blk_cell BK4.out 3
  have hk4 : v6.cell? ⟨g4, 4, none⟩ = some (.int .i64 (a.w + b.w + c.w)) := blk_cell BK4.out 4
  have hk5 : v6.cell? ⟨g4, 5, none⟩ = some (.int .i64 (a.c + b.c + c.c)) := blk_cell BK4.out 5
  go_wp2_with ((with_reducible refine gate_store (t := 33) (p := 2) (v := .tmp 62) rfl ?_); refine Shut.out ?_)
  unfold Shut
  refine store_rowTo rfl 33 (.tmp 2) (.tmp 62) rfl rfl g2 (row6 ⟨a.o + b.o + c.o, a.i + b.i + c.i, a.u + b.u + c.u, a.n + b.n + c.n, a.w + b.w + c.w, a.c + b.c + c.c⟩) rfl rfl 33 _ BK2.out (by kernel_rfl) rfl (all6n _ _ _ _ _ _) ?_
  have HBn := Aside0.mk (row_below (g := g2) HB.out (by omega) (row6 ⟨a.o + b.o + c.o, a.i + b.i + c.i, a.u + b.u + c.u, a.n + b.n + c.n, a.w + b.w + c.w, a.c + b.c + c.c⟩))
  have BKn := Aside0.mk (setRow_heap _ _ _ (row6 ⟨a.o + b.o + c.o, a.i + b.i + c.i, a.u + b.u + c.u, a.n + b.n + c.n, a.w + b.w + c.w, a.c + b.c + c.c⟩) _ _ BK2.out)
  clear HB BK2 hk0 hk1 hk2 hk3 hk4 hk5
  go_wp2_with fail
  exact bodyPost_ret (v := .tuple #[.agg (row6 ⟨a.o + b.o + c.o, a.i + b.i + c.i, a.u + b.u + c.u, a.n + b.n + c.n, a.w + b.w + c.w, a.c + b.c + c.c⟩), .int .i64 0]) (results_ct Try.results15 _ _ g2 33 _ (0, 0) _ rfl BKn.out Try.underlying33 rfl (by kernel_rfl)) rfl ⟨rfl, HBn.out⟩


end Go.Proofs.Ytgeeffnokedllaa.Print
