-- written by this session's program wip/hybrid.py over the kit's printer, and by hand. Not trusted: Lean checks it.
import Derived.Test.YtpcllhhbaockfaaPrint0
import Derived.Test.YtpcllhhbaockfaaPrint1
import Derived.Test.YtpcllhhbaockfaaPrint5
import Derived.Test.YtpcllhhbaockfaaPrint6
import Derived.Test.YtpcllhhbaockfaaPrint7
import Derived.Test.YtpcllhhbaockfaaPrint8
namespace Go.Proofs.Ytpcllhhbaockfaa.Print
open Go.RowKit Go.Proofs.YtpcllhhbaockfaaW.PrintWords Go.Proofs.YtpcllhhbaockfaaW.PrintLast Go.Proofs.YtpcllhhbaockfaaW.PrintMore
attribute [local go_sem] max2_int min2_int max_two min_two max_three min_three max_four min_four   -- for this text's walks alone
set_option linter.unusedVariables false
set_option linter.unusedSimpArgs false

/-! ### allow_Roll: function 15 -/
/-- A stage's row: what it begins with, in, out, anew, written, what it ends with. -/
structure Row6 where
  o : Int
  i : Int
  u : Int
  n : Int
  w : Int
  c : Int
def Row6.z : Row6 := ⟨0, 0, 0, 0, 0, 0⟩
def row18 (a b c : Row6) : Array Value := #[.int .i64 a.o, .int .i64 a.i, .int .i64 a.u, .int .i64 a.n, .int .i64 a.w, .int .i64 a.c, .int .i64 b.o, .int .i64 b.i, .int .i64 b.u, .int .i64 b.n, .int .i64 b.w, .int .i64 b.c, .int .i64 c.o, .int .i64 c.i, .int .i64 c.u, .int .i64 c.n, .int .i64 c.w, .int .i64 c.c]
instance (x : S64) : Decidable (allow_Change.ok x) := by unfold allow_Change.ok; infer_instance
def allow_Roll.okA (x : S64) : Prop := 1 ≤ x.f0 ∧ x.f0 ≤ 3 ∧ 1 ≤ x.f1 ∧ x.f1 ≤ 3
def allow_Roll.okB (x : S64) : Prop := 0 ≤ x.f2 ∧ x.f2 ≤ 562949953421312 ∧ 0 ≤ x.f3 ∧ x.f3 ≤ 562949953421312 ∧ 0 ≤ x.f4 ∧ x.f4 ≤ 562949953421312
instance (x : S64) : Decidable (allow_Roll.okA x) := by unfold allow_Roll.okA; infer_instance
instance (x : S64) : Decidable (allow_Roll.okB x) := by unfold allow_Roll.okB; infer_instance
theorem allow_Roll.ok_iff (x : S64) : allow_Change.ok x ↔ allow_Roll.okA x ∧ allow_Roll.okB x := by
  unfold allow_Change.ok allow_Roll.okA allow_Roll.okB; constructor <;> (intro h; omega)
theorem allow_Roll.within (lo hi : Int) (l : List Int) (hl : l.length ≤ 1000) : ∀ n (i k : Nat), l.length - i = n → i ≤ l.length → n < k → allow_within_int.l0 k lo hi l (l.length : Int) (i : Int) = some (decide (∀ x ∈ l.drop i, lo ≤ x ∧ x ≤ hi)) := by
  intro n
  induction n with
  | zero =>
    intro i k hn hil hk
    obtain ⟨k, rfl⟩ : ∃ m, k = m + 1 := ⟨k - 1, by omega⟩
    obtain rfl : i = l.length := by omega
    simp only [allow_within_int.l0]
    rw [if_neg (by omega), List.drop_length]
    simp
  | succ n ih =>
    intro i k hn hil hk
    obtain ⟨k, rfl⟩ : ∃ m, k = m + 1 := ⟨k - 1, by omega⟩
    have hlt : i < l.length := by omega
    have ew : wrap64 ((i : Int) + 1) = ((i + 1 : Nat) : Int) := by unfold wrap64; omega
    have e : rd l (i : Int) = l[i] := by simp [rd, List.getElem?_eq_getElem hlt]
    simp only [allow_within_int.l0]
    rw [if_pos (by omega), if_pos (by omega), if_pos (by omega), e, ew, ih (i + 1) k (by omega) (by omega) (by omega), List.drop_eq_getElem_cons hlt]
    by_cases c1 : l[i] < lo
    · rw [if_pos c1]; exact congrArg some (decide_eq_false (fun h => by have := h _ List.mem_cons_self; omega)).symm
    · rw [if_neg c1]
      by_cases c2 : l[i] > hi
      · rw [if_pos c2]; exact congrArg some (decide_eq_false (fun h => by have := h _ List.mem_cons_self; omega)).symm
      · rw [if_neg c2]
        have : (∀ x ∈ l[i] :: l.drop (i + 1), lo ≤ x ∧ x ≤ hi) ↔ (∀ x ∈ l.drop (i + 1), lo ≤ x ∧ x ≤ hi) := by
          rw [List.forall_mem_cons]; exact ⟨fun h => h.2, fun h => ⟨by omega, h⟩⟩
        exact congrArg some (decide_eq_decide.2 this.symm)
theorem allow_Roll.within64 (lo hi : Int) (l : List Int) (hl : l.length ≤ 1000) : ∀ n (i k : Nat), l.length - i = n → i ≤ l.length → n < k → allow_within_int64.l0 k lo hi l (l.length : Int) (i : Int) = some (decide (∀ x ∈ l.drop i, lo ≤ x ∧ x ≤ hi)) := by
  intro n
  induction n with
  | zero =>
    intro i k hn hil hk
    obtain ⟨k, rfl⟩ : ∃ m, k = m + 1 := ⟨k - 1, by omega⟩
    obtain rfl : i = l.length := by omega
    simp only [allow_within_int64.l0]
    rw [if_neg (by omega), List.drop_length]
    simp
  | succ n ih =>
    intro i k hn hil hk
    obtain ⟨k, rfl⟩ : ∃ m, k = m + 1 := ⟨k - 1, by omega⟩
    have hlt : i < l.length := by omega
    have ew : wrap64 ((i : Int) + 1) = ((i + 1 : Nat) : Int) := by unfold wrap64; omega
    have e : rd l (i : Int) = l[i] := by simp [rd, List.getElem?_eq_getElem hlt]
    simp only [allow_within_int64.l0]
    rw [if_pos (by omega), if_pos (by omega), if_pos (by omega), e, ew, ih (i + 1) k (by omega) (by omega) (by omega), List.drop_eq_getElem_cons hlt]
    by_cases c1 : l[i] < lo
    · rw [if_pos c1]; exact congrArg some (decide_eq_false (fun h => by have := h _ List.mem_cons_self; omega)).symm
    · rw [if_neg c1]
      by_cases c2 : l[i] > hi
      · rw [if_pos c2]; exact congrArg some (decide_eq_false (fun h => by have := h _ List.mem_cons_self; omega)).symm
      · rw [if_neg c2]
        have : (∀ x ∈ l[i] :: l.drop (i + 1), lo ≤ x ∧ x ≤ hi) ↔ (∀ x ∈ l.drop (i + 1), lo ≤ x ∧ x ≤ hi) := by
          rw [List.forall_mem_cons]; exact ⟨fun h => h.2, fun h => ⟨by omega, h⟩⟩
        exact congrArg some (decide_eq_decide.2 this.symm)
theorem allow_Roll.wA (x : S64) : allow_within_int.f 10 1 3 [x.f0, x.f1] = some (decide (allow_Roll.okA x)) := by
  have := allow_Roll.within 1 3 [x.f0, x.f1] (by simp) 2 0 10 (by simp) (by simp) (by omega)
  have e : decide (∀ y ∈ ([x.f0, x.f1] : List Int).drop 0, 1 ≤ y ∧ y ≤ 3) = decide (allow_Roll.okA x) := decide_eq_decide.2 (by simp [allow_Roll.okA]; omega)
  rw [e] at this
  exact this
theorem allow_Roll.wB (x : S64) : allow_within_int64.f 10 0 562949953421312 [x.f2, x.f3, x.f4] = some (decide (allow_Roll.okB x)) := by
  have := allow_Roll.within64 0 562949953421312 [x.f2, x.f3, x.f4] (by simp) 3 0 10 (by simp) (by simp) (by omega)
  have e : decide (∀ y ∈ ([x.f2, x.f3, x.f4] : List Int).drop 0, 0 ≤ y ∧ y ≤ 562949953421312) = decide (allow_Roll.okB x) := decide_eq_decide.2 (by simp [allow_Roll.okB]; omega)
  rw [e] at this
  exact this
def allow_Roll.okO (a b c : Int) : Prop := 0 ≤ a ∧ a ≤ 1152921504606846976 ∧ 0 ≤ b ∧ b ≤ 1152921504606846976 ∧ 0 ≤ c ∧ c ≤ 1152921504606846976
instance (a b c : Int) : Decidable (allow_Roll.okO a b c) := by unfold allow_Roll.okO; infer_instance
theorem allow_Roll.wO (a b c : Int) : allow_within_int64.f 10 0 1152921504606846976 [a, b, c] = some (decide (allow_Roll.okO a b c)) := by
  have := allow_Roll.within64 0 1152921504606846976 [a, b, c] (by simp) 3 0 10 (by simp) (by simp) (by omega)
  have e : decide (∀ y ∈ ([a, b, c] : List Int).drop 0, 0 ≤ y ∧ y ≤ 1152921504606846976) = decide (allow_Roll.okO a b c) := decide_eq_decide.2 (by simp [allow_Roll.okO]; omega)
  rw [e] at this
  exact this
theorem allow_Roll.cA (x : S64) (b : Bool) (h : decide (allow_Roll.okA x) = b) {g : Nat} {W : World} (hb : W.heap[g]? = some (.cells #[.int .i64 x.f0, .int .i64 x.f1] 3 (0, 0))) :
    Calls Try.prog 27 #[.int .i64 1, .int .i64 3, .slice (some ⟨g, 0, none⟩) 2 2] W fun e w' => e = .returned (.bool b) ∧ Drawn0 W w' := by
  have := allow_Roll.wA x
  rw [h] at this
  exact allow_within_int.calls 10 1 3 _ 2 [x.f0, x.f1] b W (C_lit64 [x.f0, x.f1] hb rfl (by simp)) (by simp) this
theorem allow_Roll.cB (x : S64) (b : Bool) (h : decide (allow_Roll.okB x) = b) {g : Nat} {W : World} (hb : W.heap[g]? = some (.cells #[.int .i64 x.f2, .int .i64 x.f3, .int .i64 x.f4] 2 (0, 0))) :
    Calls Try.prog 28 #[.int .i64 0, .int .i64 562949953421312, .slice (some ⟨g, 0, none⟩) 3 3] W fun e w' => e = .returned (.bool b) ∧ Drawn0 W w' := by
  have := allow_Roll.wB x
  rw [h] at this
  exact allow_within_int64.calls 10 0 562949953421312 _ 3 [x.f2, x.f3, x.f4] b W (C_lit64 [x.f2, x.f3, x.f4] hb rfl (by simp)) (by simp) this
theorem allow_Roll.cO (o0 o1 o2 : Int) (b : Bool) (h : decide (allow_Roll.okO o0 o1 o2) = b) {g t : Nat} {W : World} (hb : W.heap[g]? = some (.cells #[.int .i64 o0, .int .i64 o1, .int .i64 o2] t (0, 0))) :
    Calls Try.prog 28 #[.int .i64 0, .int .i64 1152921504606846976, .slice (some ⟨g, 0, none⟩) 3 3] W fun e w' => e = .returned (.bool b) ∧ Drawn0 W w' := by
  have := allow_Roll.wO o0 o1 o2
  rw [h] at this
  exact allow_within_int64.calls 10 0 1152921504606846976 _ 3 [o0, o1, o2] b W (C_lit64 [o0, o1, o2] hb rfl (by simp)) (by simp) this
theorem blk_new1 (w : World) (o1 o2 : Obj) : ((w.alloc o1).alloc o2).heap[w.heap.size + 1]? = some o2 := by
  have := blk_new (w.alloc o1) o2
  simpa using this
theorem row18_all (a b c : Row6) : (row18 a b c).all (·.oneCell') = true := by kernel_rfl
/-- Roll's two variables that live through it all. -/
structure allow_Roll.Fr (w : World) (o0 o1 o2 : Int) (y : World) : Prop where
  b : Below w.heap.size w y
  h2 : y.heap[w.heap.size]? = some (.cells #[.int .i64 o0, .int .i64 o1, .int .i64 o2] 61 (0, 0))
  h4 : y.heap[w.heap.size + 1]? = some (.cells (row18 Row6.z Row6.z Row6.z) 39 (0, 0))
theorem allow_Roll.Fr.start (w : World) (o0 o1 o2 : Int) : allow_Roll.Fr w o0 o1 o2 ((w.alloc (.cells #[.int .i64 o0, .int .i64 o1, .int .i64 o2] 61)).alloc (.cells (row18 Row6.z Row6.z Row6.z) 39)) :=
  ⟨below_alloc (below_alloc (Below.refl _ _) _) _, blk_alloc (blk_new w _) _, by have := blk_new (w.alloc (.cells #[.int .i64 o0, .int .i64 o1, .int .i64 o2] 61)) (.cells (row18 Row6.z Row6.z Row6.z) 39); simpa using this⟩
theorem allow_Roll.Fr.call {w y z : World} {o0 o1 o2 : Int} (h : allow_Roll.Fr w o0 o1 o2 y) (hb : Below y.heap.size y z) : allow_Roll.Fr w o0 o1 o2 z := ⟨below_step h.b hb, blk_below h.h2 hb, blk_below h.h4 hb⟩
theorem allow_Roll.Fr.alloc {w y : World} {o0 o1 o2 : Int} (h : allow_Roll.Fr w o0 o1 o2 y) (o : Obj) : allow_Roll.Fr w o0 o1 o2 (y.alloc o) := h.call (below_alloc (Below.refl _ _) o)
theorem allow_Roll.Fr.drew {w y : World} {o0 o1 o2 : Int} (h : allow_Roll.Fr w o0 o1 o2 y) : allow_Roll.Fr w o0 o1 o2 y.drew := h.call (below_drew1 (Below.refl _ _))
theorem allow_Roll.Fr.drewN {w y : World} {o0 o1 o2 : Int} (h : allow_Roll.Fr w o0 o1 o2 y) (n : Nat) : allow_Roll.Fr w o0 o1 o2 (y.drewN n) := h.call (pw_below_drewN (Below.refl _ _) n)
/-- Roll's last loop: the four maps, the rows so far. -/
structure allow_Roll.Lp (w : World) (o0 o1 o2 : Int) (l : List S64) (m1 m2 m3 m4 g : Nat) (r0 r1 r2 : Row6) (y : World) : Prop where
  fr : allow_Roll.Fr w o0 o1 o2 y
  i1 : IMap y m1 (allow_Change.sums allow_Change.key21 allow_Change.amt21 l)
  i2 : IMap y m2 (allow_Change.sums allow_Change.key23 allow_Change.amt23 l)
  i3 : IMap y m3 (allow_Change.sums allow_Change.key24 allow_Change.amt24 l)
  i4 : IMap y m4 (allow_Change.sums allow_Change.key25 allow_Change.amt25 l)
  hg : y.heap[g]? = some (.cells (row18 r0 r1 r2) 39 (0, 0))
  h0 : w.heap.size + 1 < g
  h1 : m1 < g
  h2 : m2 < g
  h3 : m3 < g
  h4 : m4 < g
theorem allow_Roll.Lp.call {w y z : World} {o0 o1 o2 : Int} {l : List S64} {m1 m2 m3 m4 g : Nat} {r0 r1 r2 : Row6} (h : allow_Roll.Lp w o0 o1 o2 l m1 m2 m3 m4 g r0 r1 r2 y) (hb : Below y.heap.size y z) : allow_Roll.Lp w o0 o1 o2 l m1 m2 m3 m4 g r0 r1 r2 z :=
  ⟨h.fr.call hb, h.i1.below hb, h.i2.below hb, h.i3.below hb, h.i4.below hb, blk_below h.hg hb, h.h0, h.h1, h.h2, h.h3, h.h4⟩
/-- A store into a block behind them all. -/
theorem allow_Roll.Lp.far {w y : World} {o0 o1 o2 : Int} {l : List S64} {m1 m2 m3 m4 g : Nat} {r0 r1 r2 : Row6} (h : allow_Roll.Lp w o0 o1 o2 l m1 m2 m3 m4 g r0 r1 r2 y) {k j : Nat} (hk : g < k) (v : Value) : allow_Roll.Lp w o0 o1 o2 l m1 m2 m3 m4 g r0 r1 r2 (y.setCell ⟨k, j, none⟩ v) := by
  have e : ∀ n, n ≤ g → (y.setCell ⟨k, j, none⟩ v).heap[n]? = y.heap[n]? := fun n hn => Below.heap_setCell _ _ _ _ (by show n ≠ k; omega)
  have := h.h0; have := h.h1; have := h.h2; have := h.h3; have := h.h4
  exact ⟨⟨h.fr.b.setCell (by show _ ≤ k; omega) _, (e _ (by omega)).trans h.fr.h2, (e _ (by omega)).trans h.fr.h4⟩, h.i1.same (e _ (by omega)), h.i2.same (e _ (by omega)), h.i3.same (e _ (by omega)), h.i4.same (e _ (by omega)), (e _ (by omega)).trans h.hg, h.h0, h.h1, h.h2, h.h3, h.h4⟩
/-- A store into the rows. -/
theorem allow_Roll.Lp.put {w y : World} {o0 o1 o2 : Int} {l : List S64} {m1 m2 m3 m4 g : Nat} {r0 r1 r2 : Row6} (s0 s1 s2 : Row6) (h : allow_Roll.Lp w o0 o1 o2 l m1 m2 m3 m4 g r0 r1 r2 y) (j : Nat) (v : Value) (e : (row18 r0 r1 r2).setIfInBounds j v = row18 s0 s1 s2) : allow_Roll.Lp w o0 o1 o2 l m1 m2 m3 m4 g s0 s1 s2 (y.setCell ⟨g, j, none⟩ v) := by
  have e' : ∀ n, n < g → (y.setCell ⟨g, j, none⟩ v).heap[n]? = y.heap[n]? := fun n hn => Below.heap_setCell _ _ _ _ (by show n ≠ g; omega)
  have := h.h0
  exact ⟨⟨h.fr.b.setCell (by show _ ≤ g; omega) _, (e' _ (by omega)).trans h.fr.h2, (e' _ (by omega)).trans h.fr.h4⟩, h.i1.same (e' _ h.h1), h.i2.same (e' _ h.h2), h.i3.same (e' _ h.h3), h.i4.same (e' _ h.h4), blk_put h.hg j v e, h.h0, h.h1, h.h2, h.h3, h.h4⟩
theorem allow_Row_close_some (a b c d e f : Int) : ∃ x y, allow_Row_close.f a b c d e f = some (x, y) := by
  have hA : ∀ a b, ∃ r, money_Add.f a b = some r := fun a b => by
    unfold money_Add.f money_sum_int64.f
    split <;> (simp only [Option.bind_some]; unfold money_told.f; split <;> exact ⟨_, rfl⟩)
  have hS : ∀ a b, ∃ r, money_Sub.f a b = some r := fun a b => by
    unfold money_Sub.f
    split <;> (unfold money_told.f; split <;> exact ⟨_, rfl⟩)
  unfold allow_Row_close.f
  obtain ⟨r1, h1⟩ := hA a b
  rw [h1, Option.bind_some]
  by_cases c1 : r1.2 = 0
  · rw [if_pos c1]
    obtain ⟨r2, h2⟩ := hA r1.1 d
    rw [h2, Option.bind_some]
    by_cases c2 : r2.2 = 0
    · rw [if_pos c2]
      obtain ⟨r3, h3⟩ := hS r2.1 c
      rw [h3, Option.bind_some]
      by_cases c3 : r3.2 = 0
      · rw [if_pos c3]
        obtain ⟨r4, h4⟩ := hS r3.1 e
        rw [h4, Option.bind_some]
        by_cases c4 : r4.2 = 0
        · rw [if_pos c4]; exact ⟨_, _, rfl⟩
        · rw [if_neg c4]; exact ⟨_, _, rfl⟩
      · rw [if_neg c3]; exact ⟨_, _, rfl⟩
    · rw [if_neg c2]; exact ⟨_, _, rfl⟩
  · rw [if_neg c1]; exact ⟨_, _, rfl⟩
/-- What becomes of one stage. -/
def allow_Roll.row (l : List S64) (o : Int) (k : Int) : Row6 :=
  ⟨o, allow_Change.sums allow_Change.key21 allow_Change.amt21 l k, allow_Change.sums allow_Change.key23 allow_Change.amt23 l k, allow_Change.sums allow_Change.key24 allow_Change.amt24 l k, allow_Change.sums allow_Change.key25 allow_Change.amt25 l k,
    ((allow_Row_close.f o (allow_Change.sums allow_Change.key21 allow_Change.amt21 l k) (allow_Change.sums allow_Change.key23 allow_Change.amt23 l k) (allow_Change.sums allow_Change.key24 allow_Change.amt24 l k) (allow_Change.sums allow_Change.key25 allow_Change.amt25 l k) 0).getD (0, 0)).1⟩
def allow_Roll.g (o0 o1 o2 : Int) (l : List S64) : Row6 × Row6 × Row6 × Int :=
  if 4096 < l.length then (Row6.z, Row6.z, Row6.z, 10) else if ¬ (∀ x ∈ l, allow_Change.ok x) then (Row6.z, Row6.z, Row6.z, 2) else if ¬ allow_Roll.okO o0 o1 o2 then (Row6.z, Row6.z, Row6.z, 2) else
    (allow_Roll.row l o0 1, allow_Roll.row l o1 2, allow_Roll.row l o2 3, 0)
def allow_Roll.P (w : World) (r : Row6 × Row6 × Row6 × Int) (e : Ending) (w' : World) : Prop := e = .returned (.tuple #[.agg (row18 r.1 r.2.1 r.2.2.1), .int .i64 r.2.2.2]) ∧ Below w.heap.size w w'
set_option maxHeartbeats 8000000 in
set_option maxRecDepth 100000 in
theorem allow_Roll.full (A : Option Addr) (c : Nat) (l : List S64) (o0 o1 o2 : Int) (w : World) (hl : 4096 < l.length) :
    Calls Try.prog 15 #[.agg #[.int .i64 o0, .int .i64 o1, .int .i64 o2], .slice A l.length c] w (allow_Roll.P w (Row6.z, Row6.z, Row6.z, 10)) := by
  have hb : decide ((4096 : Int) < (l.length : Int)) = true := decide_eq_true (by omega)
  clear hl
  go_enter Try.func15, Try.ntmps15
  go_wp2_with fail
  exact bodyPost_ret (v := .tuple #[.agg (row18 Row6.z Row6.z Row6.z), .int .i64 10]) (results_ct Try.results15 _ _ (w.heap.size + 1) 39 _ (0, 0) _ rfl (allow_Roll.Fr.start w o0 o1 o2).h4 Try.underlying39 rfl (by kernel_rfl)) rfl ⟨rfl, below_alloc (below_alloc (Below.refl _ _) _) _⟩
set_option maxHeartbeats 8000000 in
set_option maxRecDepth 100000 in
theorem allow_Roll.walk (A : Option Addr) (c : Nat) (l : List S64) (o0 o1 o2 : Int) (w : World) (hr : Kd.C k64 w A l.length l) (hc : l.length ≤ c) (hl : ¬ 4096 < l.length) (r : Row6 × Row6 × Row6 × Int)
    (hrr : (if ¬ (∀ x ∈ l, allow_Change.ok x) then (Row6.z, Row6.z, Row6.z, 2) else if ¬ allow_Roll.okO o0 o1 o2 then (Row6.z, Row6.z, Row6.z, 2) else (allow_Roll.row l o0 1, allow_Roll.row l o1 2, allow_Roll.row l o2 3, 0)) = r) :
    Calls Try.prog 15 #[.agg #[.int .i64 o0, .int .i64 o1, .int .i64 o2], .slice A l.length c] w (allow_Roll.P w r) := by
  have HR := Aside0.mk hr
  clear hr
  have hb : decide ((4096 : Int) < (l.length : Int)) = false := decide_eq_false (by omega)
  have HRR := Aside0.mk hrr
  clear hrr
  go_enter Try.func15, Try.ntmps15
  go_wp2_with fail
  have HF0 := Aside0.mk (allow_Roll.Fr.start w o0 o1 o2)
  go_loopw [21] (fun i wr => ∃ k : Nat, k ≤ l.length ∧ i = .int .i64 k ∧ Aside0 (∀ x ∈ l.take k, allow_Change.ok x) ∧ Aside0 (allow_Roll.Fr w o0 o1 o2 wr)) (fun i _ => l.length - (intOf i).toNat)
  case atStart => exact ⟨0, Nat.zero_le _, rfl, ⟨fun x hx => by simp at hx⟩, HF0⟩
  case round =>
    clear HF0
    obtain ⟨k, hk, rfl, HOK, HF⟩ := hrel
    by_cases hlt : k < l.length
    · obtain ⟨ad, rfl, hx0, hx1, hx2, hx3, hx4⟩ := at_T64 HR.out (k : Int) (by omega) (by omega)
      replace hx0 := (HF.out.b.cell (World.block_lt_of_cell? w _ hx0)).trans hx0
      replace hx1 := (HF.out.b.cell (World.block_lt_of_cell? w _ hx1)).trans hx1
      replace hx2 := (HF.out.b.cell (World.block_lt_of_cell? w _ hx2)).trans hx2
      replace hx3 := (HF.out.b.cell (World.block_lt_of_cell? w _ hx3)).trans hx3
      replace hx4 := (HF.out.b.cell (World.block_lt_of_cell? w _ hx4)).trans hx4
      have hrd : rd_T64 l (k : Int) = l[k] := by simp [rd_T64, List.getElem?_eq_getElem hlt]
      rw [hrd] at hx0 hx1 hx2 hx3 hx4
      rw [Int.toNat_natCast] at hx0 hx1 hx2 hx3 hx4
      have HTK : Aside0 (l.take (k + 1) = l.take k ++ [l[k]]) := ⟨List.take_succ_eq_append_getElem hlt⟩
      have HIN : Aside0 (l[k] ∈ l) := ⟨List.getElem_mem hlt⟩
      clear hrd
      generalize l[k] = x at hx0 hx1 hx2 hx3 hx4 HTK HIN
      have HWA := Aside0.mk (allow_Roll.wA x)
      have HWB := Aside0.mk (allow_Roll.wB x)
      by_cases hA : allow_Roll.okA x
      · go_wp2_with fail
        with_reducible refine (allow_Roll.cA x true (decide_eq_true hA) (blk_new1 wr _ _)).mono ?_
        rintro e w1 ⟨rfl, hd⟩
        have HF1 := Aside0.mk (((HF.out.alloc _).alloc _).call hd.below)
        have hbx := blk_below (blk_alloc (blk_new wr (.cells #[.int .i64 x.f0, .int .i64 x.f1, .int .i64 x.f2, .int .i64 x.f3, .int .i64 x.f4] 64)) (.cells #[.int .i64 x.f0, .int .i64 x.f1] 3)) hd.below
        have hy0 : w1.cell? ⟨wr.heap.size, 0, none⟩ = some (.int .i64 x.f0) := blk_cell hbx 0
        have hy1 : w1.cell? ⟨wr.heap.size, 1, none⟩ = some (.int .i64 x.f1) := blk_cell hbx 1
        have hy2 : w1.cell? ⟨wr.heap.size, 2, none⟩ = some (.int .i64 x.f2) := blk_cell hbx 2
        have hy3 : w1.cell? ⟨wr.heap.size, 3, none⟩ = some (.int .i64 x.f3) := blk_cell hbx 3
        have hy4 : w1.cell? ⟨wr.heap.size, 4, none⟩ = some (.int .i64 x.f4) := blk_cell hbx 4
        clear hd hbx
        by_cases hB : allow_Roll.okB x
        · go_wp2_with fail
          with_reducible refine (allow_Roll.cB x true (decide_eq_true hB) (blk_new w1 _)).mono ?_
          rintro e w2 ⟨rfl, hd⟩
          have HF2 := Aside0.mk ((HF1.out.alloc _).call hd.below)
          have HOX : Aside0 (allow_Change.ok x) := ⟨(allow_Roll.ok_iff x).2 ⟨hA, hB⟩⟩
          clear hd
          go_wp2_with fail
          go_roundw
          case rel => exact ⟨k + 1, by omega, by go_num, ⟨fun y hy => by
            rw [HTK.out, List.mem_append, List.mem_singleton] at hy
            rcases hy with hy | rfl
            · exact HOK.out y hy
            · exact HOX.out⟩, HF2⟩
          case measure => simp [intOf]; omega
        · have hrr := HRR.out
          rw [if_pos (fun h => hB ((allow_Roll.ok_iff x).1 (h x HIN.out)).2)] at hrr
          subst hrr
          go_wp2_with fail
          with_reducible refine (allow_Roll.cB x false (decide_eq_false hB) (blk_new w1 _)).mono ?_
          rintro e w2 ⟨rfl, hd⟩
          have HF2 := Aside0.mk ((HF1.out.alloc _).call hd.below)
          clear hd
          go_wp2_with ((with_reducible refine gate_store (t := 39) (p := 4) (v := .tmp 43) rfl ?_); refine store_rowTo rfl 39 (.tmp 4) (.tmp 43) rfl rfl (w.heap.size + 1) (row18 Row6.z Row6.z Row6.z) rfl rfl 39 _ HF2.out.h4 (by kernel_rfl) rfl (row18_all _ _ _) ?_)
          exact bodyPost_ret (v := .tuple #[.agg (row18 Row6.z Row6.z Row6.z), .int .i64 2]) (results_ct Try.results15 _ _ (w.heap.size + 1) 39 _ (0, 0) _ rfl (setRow_heap _ _ _ _ _ _ HF2.out.h4) Try.underlying39 rfl (by kernel_rfl)) rfl ⟨rfl, row_below HF2.out.b (by omega) _⟩
      · have hrr := HRR.out
        rw [if_pos (fun h => hA ((allow_Roll.ok_iff x).1 (h x HIN.out)).1)] at hrr
        subst hrr
        go_wp2_with fail
        with_reducible refine (allow_Roll.cA x false (decide_eq_false hA) (blk_new1 wr _ _)).mono ?_
        rintro e w1 ⟨rfl, hd⟩
        have HF1 := Aside0.mk (((HF.out.alloc _).alloc _).call hd.below)
        clear hd
        go_wp2_with ((with_reducible refine gate_store (t := 39) (p := 4) (v := .tmp 43) rfl ?_); refine store_rowTo rfl 39 (.tmp 4) (.tmp 43) rfl rfl (w.heap.size + 1) (row18 Row6.z Row6.z Row6.z) rfl rfl 39 _ HF1.out.h4 (by kernel_rfl) rfl (row18_all _ _ _) ?_)
        exact bodyPost_ret (v := .tuple #[.agg (row18 Row6.z Row6.z Row6.z), .int .i64 2]) (results_ct Try.results15 _ _ (w.heap.size + 1) 39 _ (0, 0) _ rfl (setRow_heap _ _ _ _ _ _ HF1.out.h4) Try.underlying39 rfl (by kernel_rfl)) rfl ⟨rfl, row_below HF1.out.b (by omega) _⟩
    · obtain rfl : k = l.length := by omega
      rw [List.take_length] at HOK
      have hrr := HRR.out
      rw [if_neg (show ¬ ¬ ∀ x ∈ l, allow_Change.ok x from fun h => h HOK.out)] at hrr
      have HC := Aside0.mk (allow_Roll.cO o0 o1 o2)
      by_cases hO : allow_Roll.okO o0 o1 o2
      · rw [if_neg (show ¬ ¬ allow_Roll.okO o0 o1 o2 from fun h => h hO)] at hrr
        have HRR2 := Aside0.mk hrr
        clear hrr HRR
        have hl2 : l.length ≤ 4096 := by omega
        have HCC : ∀ y, Below w.heap.size w y → Kd.C k64 y A l.length l := fun y hy => Kd.C_below HR.out hy
        go_wp2_with fail
        with_reducible refine (allow_Roll.cO o0 o1 o2 true (decide_eq_true hO) HF.out.h2).mono ?_
        rintro e w1 ⟨rfl, hd⟩
        have HF1 := Aside0.mk (HF.out.call hd.below)
        clear hd
        go_wp2_with fail
        with_reducible refine (allow_Change.by21 A c l w1 (HCC _ HF1.out.b) hc hl2 HOK.out).mono ?_
        rintro e w2 ⟨rfl, hm1, hb⟩
        have HF2 := Aside0.mk (HF1.out.call hb)
        have HM1 := Aside0.mk hm1
        have hz1 : w1.heap.size < w2.heap.size := hm1.lt
        clear hm1 hb
        go_wp2_with fail
        with_reducible refine (allow_Change.by23 A c l w2 (HCC _ HF2.out.b) hc hl2 HOK.out).mono ?_
        rintro e w3 ⟨rfl, hm2, hb⟩
        have HF3 := Aside0.mk (HF2.out.call hb)
        have HM1b := Aside0.mk (HM1.out.below hb)
        have HM2 := Aside0.mk hm2
        have hz2 : w2.heap.size < w3.heap.size := hm2.lt
        clear hm2 hb
        go_wp2_with fail
        with_reducible refine (allow_Change.by24 A c l w3 (HCC _ HF3.out.b) hc hl2 HOK.out).mono ?_
        rintro e w4 ⟨rfl, hm3, hb⟩
        have HF4 := Aside0.mk (HF3.out.call hb)
        have HM1c := Aside0.mk (HM1b.out.below hb)
        have HM2b := Aside0.mk (HM2.out.below hb)
        have HM3 := Aside0.mk hm3
        have hz3 : w3.heap.size < w4.heap.size := hm3.lt
        clear hm3 hb
        go_wp2_with fail
        with_reducible refine (allow_Change.by25 A c l w4 (HCC _ HF4.out.b) hc hl2 HOK.out).mono ?_
        rintro e w5 ⟨rfl, hm4, hb⟩
        have hz0 : w.heap.size + 1 < w1.heap.size + 1 := by have := blk_lt HF1.out.h4; omega
        have hz4 : w4.heap.size < w5.heap.size := hm4.lt
        have HL := Aside0.mk (show allow_Roll.Lp w o0 o1 o2 l w1.heap.size w2.heap.size w3.heap.size w4.heap.size w5.heap.size Row6.z Row6.z Row6.z (w5.alloc (.cells #[.int .i64 0, .int .i64 0, .int .i64 0, .int .i64 0, .int .i64 0, .int .i64 0, .int .i64 0, .int .i64 0, .int .i64 0, .int .i64 0, .int .i64 0, .int .i64 0, .int .i64 0, .int .i64 0, .int .i64 0, .int .i64 0, .int .i64 0, .int .i64 0] 39)) from
          ⟨(HF4.out.call hb).alloc _, (HM1c.out.below hb).below (below_alloc (Below.refl _ _) _), (HM2b.out.below hb).below (below_alloc (Below.refl _ _) _), (HM3.out.below hb).below (below_alloc (Below.refl _ _) _), hm4.below (below_alloc (Below.refl _ _) _), blk_new w5 _, by omega, by omega, by omega, by omega, by omega⟩)
        clear hm4 hb HF1 HF2 HF3 HF4 HM1 HM1b HM1c HM2 HM2b HM3 HF HCC HC
        go_wp2_with fail
        generalize w5.alloc (.cells #[.int .i64 0, .int .i64 0, .int .i64 0, .int .i64 0, .int .i64 0, .int .i64 0, .int .i64 0, .int .i64 0, .int .i64 0, .int .i64 0, .int .i64 0, .int .i64 0, .int .i64 0, .int .i64 0, .int .i64 0, .int .i64 0, .int .i64 0, .int .i64 0] 39) = y0 at HL
        refine wp_loop_rounds 4 ?_
        rw [rounds_succ]
        go_wp2_with fail
        obtain ⟨a00, ha00⟩ : ∃ a, allow_Change.sums allow_Change.key21 allow_Change.amt21 l 1 = a := ⟨_, rfl⟩
        obtain ⟨a01, ha01⟩ : ∃ a, allow_Change.sums allow_Change.key23 allow_Change.amt23 l 1 = a := ⟨_, rfl⟩
        obtain ⟨a02, ha02⟩ : ∃ a, allow_Change.sums allow_Change.key24 allow_Change.amt24 l 1 = a := ⟨_, rfl⟩
        obtain ⟨a03, ha03⟩ : ∃ a, allow_Change.sums allow_Change.key25 allow_Change.amt25 l 1 = a := ⟨_, rfl⟩
        obtain ⟨c0, e0, hc0⟩ := allow_Row_close_some o0 a00 a01 a02 a03 0
        have hrow0 : allow_Roll.row l o0 1 = ⟨o0, a00, a01, a02, a03, c0⟩ := by unfold allow_Roll.row; rw [ha00, ha01, ha02, ha03, hc0]; rfl
        have HRW0 := Aside0.mk hrow0
        have HCL0 := Aside0.mk hc0
        have key : ∀ z, Below y0.heap.size y0 z → z.cell? ⟨w.heap.size, 0, none⟩ = some (.int .i64 o0) ∧ (Instr.lookup 80 (.map (some w1.heap.size)) (.int .i64 1) false).run Try.prog z = .ok (.int .i64 a00) z ∧ (Instr.lookup 80 (.map (some w2.heap.size)) (.int .i64 1) false).run Try.prog z = .ok (.int .i64 a01) z ∧ (Instr.lookup 80 (.map (some w3.heap.size)) (.int .i64 1) false).run Try.prog z = .ok (.int .i64 a02) z ∧ (Instr.lookup 80 (.map (some w4.heap.size)) (.int .i64 1) false).run Try.prog z = .ok (.int .i64 a03) z := fun z hz =>
          ⟨blk_cell (HL.out.call hz).fr.h2 0, ha00 ▸ IMap.look Try.underlying80 Try.underlying3 zero_2 (HL.out.call hz).i1 1, ha01 ▸ IMap.look Try.underlying80 Try.underlying3 zero_2 (HL.out.call hz).i2 1, ha02 ▸ IMap.look Try.underlying80 Try.underlying3 zero_2 (HL.out.call hz).i3 1, ha03 ▸ IMap.look Try.underlying80 Try.underlying3 zero_2 (HL.out.call hz).i4 1⟩
        clear hrow0 hc0 ha00 ha01 ha02 ha03
        have hgl : w5.heap.size < y0.heap.size := blk_lt HL.out.hg
        have hw1 : IntKind.i64.wrap (1 : Int) = 1 := by decide
        have hw2 : wrap64 (1 : Int) = 1 := by unfold wrap64; omega
        refine start_ (n := 22) (S := fun w' => w'.cell? ⟨w.heap.size, 0, none⟩ = some (.int .i64 o0) ∧ (Instr.lookup 80 (.map (some w1.heap.size)) (.int .i64 1) false).run Try.prog w' = .ok (.int .i64 a00) w' ∧ (Instr.lookup 80 (.map (some w2.heap.size)) (.int .i64 1) false).run Try.prog w' = .ok (.int .i64 a01) w' ∧ (Instr.lookup 80 (.map (some w3.heap.size)) (.int .i64 1) false).run Try.prog w' = .ok (.int .i64 a02) w' ∧ (Instr.lookup 80 (.map (some w4.heap.size)) (.int .i64 1) false).run Try.prog w' = .ok (.int .i64 a03) w') (ds := [21]) #[false, false, false, false, false, false, false, false, false, false, false, false, false, false, false, false, false, false, false, false, false, false] (by kernel_rfl) rfl rfl ⟨(key _ (by repeat (first | exact Below.refl _ _ | apply below_alloc | apply pw_below_drewN | apply below_drew1))).1, (key _ (by repeat (first | exact Below.refl _ _ | apply below_alloc | apply pw_below_drewN | apply below_drew1))).2.1, (key _ (by repeat (first | exact Below.refl _ _ | apply below_alloc | apply pw_below_drewN | apply below_drew1))).2.2.1, (key _ (by repeat (first | exact Below.refl _ _ | apply below_alloc | apply pw_below_drewN | apply below_drew1))).2.2.2.1, (key _ (by repeat (first | exact Below.refl _ _ | apply below_alloc | apply pw_below_drewN | apply below_drew1))).2.2.2.2⟩ (fun hHeld => ?_)
        refine pure_ (i := 0) (N := some 60) (v := ?_) (a' := ?_) #[true, false, false, false, false, false, false, false, false, false, false, false, false, false, false, false, false, false, false, false, false, false] rfl rfl (by kernel_rfl) (fun _ _ _ h => h) (Or.inl ⟨by rfl, ?_⟩) ?_ ?_
        rotate_left
        · intro w'
          go_simp
          with_reducible rfl
        rotate_left
        · simp only [Act.put, List.setIfInBounds_toArray, List.set_cons_zero, List.set_cons_succ, i64_w, i32_w]
          rfl
        refine pure_ (i := 1) (N := some 61) (v := ?_) (a' := ?_) #[true, true, false, false, false, false, false, false, false, false, false, false, false, false, false, false, false, false, false, false, false, false] rfl rfl (by kernel_rfl) (fun _ _ _ h => h) (Or.inl ⟨by rfl, ?_⟩) ?_ ?_
        rotate_left
        · intro w'
          go_simp
          with_reducible rfl
        rotate_left
        · simp only [Act.put, List.setIfInBounds_toArray, List.set_cons_zero, List.set_cons_succ, i64_w, i32_w]
          rfl
        refine pure_ (i := 3) (N := some 63) (v := ?_) (a' := ?_) #[true, true, false, true, false, false, false, false, false, false, false, false, false, false, false, false, false, false, false, false, false, false] rfl rfl (by kernel_rfl) (fun _ _ _ h => h) (Or.inl ⟨by rfl, ?_⟩) ?_ ?_
        rotate_left
        · intro w'
          go_simp
          with_reducible rfl
        rotate_left
        · simp only [Act.put, List.setIfInBounds_toArray, List.set_cons_zero, List.set_cons_succ, i64_w, i32_w]
          rfl
        refine pure_ (i := 4) (N := some 64) (v := ?_) (a' := ?_) #[true, true, false, true, true, false, false, false, false, false, false, false, false, false, false, false, false, false, false, false, false, false] rfl rfl (by kernel_rfl) (fun _ _ _ h => h) (Or.inl ⟨by rfl, ?_⟩) ?_ ?_
        rotate_left
        · intro w'
          go_simp
          with_reducible rfl
        rotate_left
        · simp only [Act.put, List.setIfInBounds_toArray, List.set_cons_zero, List.set_cons_succ, i64_w, i32_w]
          rfl
        refine pure_ (i := 5) (N := some 65) (v := ?_) (a' := ?_) #[true, true, false, true, true, true, false, false, false, false, false, false, false, false, false, false, false, false, false, false, false, false] rfl rfl (by kernel_rfl) (fun _ _ _ h => h) (Or.inl ⟨by rfl, ?_⟩) ?_ ?_
        rotate_left
        · intro w'
          go_simp
          with_reducible rfl
        rotate_left
        · simp only [Act.put, List.setIfInBounds_toArray, List.set_cons_zero, List.set_cons_succ, i64_w, i32_w]
          rfl
        refine pure_ (i := 7) (N := some 67) (v := ?_) (a' := ?_) #[true, true, false, true, true, true, false, true, false, false, false, false, false, false, false, false, false, false, false, false, false, false] rfl rfl (by kernel_rfl) (fun _ _ _ h => h) (Or.inl ⟨by rfl, ?_⟩) ?_ ?_
        rotate_left
        · intro w'
          go_simp
          with_reducible rfl
        rotate_left
        · simp only [Act.put, List.setIfInBounds_toArray, List.set_cons_zero, List.set_cons_succ, i64_w, i32_w]
          rfl
        refine pure_ (i := 8) (N := some 68) (v := ?_) (a' := ?_) #[true, true, false, true, true, true, false, true, true, false, false, false, false, false, false, false, false, false, false, false, false, false] rfl rfl (by kernel_rfl) (fun _ _ _ h => h) (Or.inl ⟨by rfl, ?_⟩) ?_ ?_
        rotate_left
        · intro w'
          go_simp
          with_reducible rfl
        rotate_left
        · simp only [Act.put, List.setIfInBounds_toArray, List.set_cons_zero, List.set_cons_succ, i64_w, i32_w]
          rfl
        refine pure_ (i := 9) (N := some 69) (v := ?_) (a' := ?_) #[true, true, false, true, true, true, false, true, true, true, false, false, false, false, false, false, false, false, false, false, false, false] rfl rfl (by kernel_rfl) (fun _ _ _ h => h) (Or.inl ⟨by rfl, ?_⟩) ?_ ?_
        rotate_left
        · intro w'
          go_simp
          with_reducible rfl
        rotate_left
        · simp only [Act.put, List.setIfInBounds_toArray, List.set_cons_zero, List.set_cons_succ, i64_w, i32_w]
          rfl
        refine pure_ (i := 11) (N := some 71) (v := ?_) (a' := ?_) #[true, true, false, true, true, true, false, true, true, true, false, true, false, false, false, false, false, false, false, false, false, false] rfl rfl (by kernel_rfl) (fun _ _ _ h => h) (Or.inl ⟨by rfl, ?_⟩) ?_ ?_
        rotate_left
        · intro w'
          go_simp
          with_reducible rfl
        rotate_left
        · simp only [Act.put, List.setIfInBounds_toArray, List.set_cons_zero, List.set_cons_succ, i64_w, i32_w]
          rfl
        refine pure_ (i := 12) (N := some 72) (v := ?_) (a' := ?_) #[true, true, false, true, true, true, false, true, true, true, false, true, true, false, false, false, false, false, false, false, false, false] rfl rfl (by kernel_rfl) (fun _ _ _ h => h) (Or.inl ⟨by rfl, ?_⟩) ?_ ?_
        rotate_left
        · intro w'
          go_simp
          with_reducible rfl
        rotate_left
        · simp only [Act.put, List.setIfInBounds_toArray, List.set_cons_zero, List.set_cons_succ, i64_w, i32_w]
          rfl
        refine pure_ (i := 13) (N := some 73) (v := ?_) (a' := ?_) #[true, true, false, true, true, true, false, true, true, true, false, true, true, true, false, false, false, false, false, false, false, false] rfl rfl (by kernel_rfl) (fun _ _ _ h => h) (Or.inl ⟨by rfl, ?_⟩) ?_ ?_
        rotate_left
        · intro w'
          go_simp
          with_reducible rfl
        rotate_left
        · simp only [Act.put, List.setIfInBounds_toArray, List.set_cons_zero, List.set_cons_succ, i64_w, i32_w]
          rfl
        refine pure_ (i := 15) (N := some 75) (v := ?_) (a' := ?_) #[true, true, false, true, true, true, false, true, true, true, false, true, true, true, false, true, false, false, false, false, false, false] rfl rfl (by kernel_rfl) (fun _ _ _ h => h) (Or.inl ⟨by rfl, ?_⟩) ?_ ?_
        rotate_left
        · intro w'
          go_simp
          with_reducible rfl
        rotate_left
        · simp only [Act.put, List.setIfInBounds_toArray, List.set_cons_zero, List.set_cons_succ, i64_w, i32_w]
          rfl
        refine pure_ (i := 16) (N := some 76) (v := ?_) (a' := ?_) #[true, true, false, true, true, true, false, true, true, true, false, true, true, true, false, true, true, false, false, false, false, false] rfl rfl (by kernel_rfl) (fun _ _ _ h => h) (Or.inl ⟨by rfl, ?_⟩) ?_ ?_
        rotate_left
        · intro w'
          go_simp
          with_reducible rfl
        rotate_left
        · simp only [Act.put, List.setIfInBounds_toArray, List.set_cons_zero, List.set_cons_succ, i64_w, i32_w]
          rfl
        refine pure_ (i := 17) (N := some 77) (v := ?_) (a' := ?_) #[true, true, false, true, true, true, false, true, true, true, false, true, true, true, false, true, true, true, false, false, false, false] rfl rfl (by kernel_rfl) (fun _ _ _ h => h) (Or.inl ⟨by rfl, ?_⟩) ?_ ?_
        rotate_left
        · intro w'
          go_simp
          with_reducible rfl
        rotate_left
        · simp only [Act.put, List.setIfInBounds_toArray, List.set_cons_zero, List.set_cons_succ, i64_w, i32_w]
          rfl
        refine take_ (i := 2) (N := some 62) (v := ?_) (a' := ?_) #[true, true, true, true, true, true, false, true, true, true, false, true, true, true, false, true, true, true, false, false, false, false] rfl rfl (by kernel_rfl) (fun _ _ _ h => h) (Or.inl ⟨by rfl, ?_⟩) hHeld ?_ ?_
        rotate_left
        · rintro w' ⟨s0, s1, s2, s3, s4⟩
          go_simp
          with_reducible rfl
        rotate_left
        · simp only [Act.put, List.setIfInBounds_toArray, List.set_cons_zero, List.set_cons_succ, i64_w, i32_w]
          rfl
        refine take_ (i := 6) (N := some 66) (v := ?_) (a' := ?_) #[true, true, true, true, true, true, true, true, true, true, false, true, true, true, false, true, true, true, false, false, false, false] rfl rfl (by kernel_rfl) (fun _ _ _ h => h) (Or.inl ⟨by rfl, ?_⟩) hHeld ?_ ?_
        rotate_left
        · rintro w' ⟨s0, s1, s2, s3, s4⟩
          go_simp
          with_reducible rfl
        rotate_left
        · simp only [Act.put, List.setIfInBounds_toArray, List.set_cons_zero, List.set_cons_succ, i64_w, i32_w]
          rfl
        refine take_ (i := 10) (N := some 70) (v := ?_) (a' := ?_) #[true, true, true, true, true, true, true, true, true, true, true, true, true, true, false, true, true, true, false, false, false, false] rfl rfl (by kernel_rfl) (fun _ _ _ h => h) (Or.inl ⟨by rfl, ?_⟩) hHeld ?_ ?_
        rotate_left
        · rintro w' ⟨s0, s1, s2, s3, s4⟩
          go_simp
          with_reducible rfl
        rotate_left
        · simp only [Act.put, List.setIfInBounds_toArray, List.set_cons_zero, List.set_cons_succ, i64_w, i32_w]
          rfl
        refine take_ (i := 14) (N := some 74) (v := ?_) (a' := ?_) #[true, true, true, true, true, true, true, true, true, true, true, true, true, true, true, true, true, true, false, false, false, false] rfl rfl (by kernel_rfl) (fun _ _ _ h => h) (Or.inl ⟨by rfl, ?_⟩) hHeld ?_ ?_
        rotate_left
        · rintro w' ⟨s0, s1, s2, s3, s4⟩
          go_simp
          with_reducible rfl
        rotate_left
        · simp only [Act.put, List.setIfInBounds_toArray, List.set_cons_zero, List.set_cons_succ, i64_w, i32_w]
          rfl
        refine take_ (i := 18) (N := some 78) (v := ?_) (a' := ?_) #[true, true, true, true, true, true, true, true, true, true, true, true, true, true, true, true, true, true, true, false, false, false] rfl rfl (by kernel_rfl) (fun _ _ _ h => h) (Or.inl ⟨by rfl, ?_⟩) hHeld ?_ ?_
        rotate_left
        · rintro w' ⟨s0, s1, s2, s3, s4⟩
          go_simp
          with_reducible rfl
        rotate_left
        · simp only [Act.put, List.setIfInBounds_toArray, List.set_cons_zero, List.set_cons_succ, i64_w, i32_w]
          rfl
        refine pure_ (i := 19) (N := some 79) (v := ?_) (a' := ?_) #[true, true, true, true, true, true, true, true, true, true, true, true, true, true, true, true, true, true, true, true, false, false] rfl rfl (by kernel_rfl) (fun _ _ _ h => h) (Or.inl ⟨by rfl, ?_⟩) ?_ ?_
        rotate_left
        · intro w'
          go_simp
          with_reducible rfl
        rotate_left
        · simp only [Act.put, List.setIfInBounds_toArray, List.set_cons_zero, List.set_cons_succ, i64_w, i32_w]
          rfl
        refine one_ (i := 20) (N := some 14) #[true, true, true, true, true, true, true, true, true, true, true, true, true, true, true, true, true, true, true, true, true, false] rfl rfl (by kernel_rfl) (by decide) (fun K hK => ?_)
        refine value_ (w1 := ?_) (v := ?_) (by rfl) rfl ?_ ?_
        rotate_left 2
        · go_simp
          constructor
          · rfl
          · rfl
        refine hK.out _ _ ⟨(key _ (by repeat (first | exact Below.refl _ _ | apply below_alloc | apply pw_below_drewN | apply below_drew1))).1, (key _ (by repeat (first | exact Below.refl _ _ | apply below_alloc | apply pw_below_drewN | apply below_drew1))).2.1, (key _ (by repeat (first | exact Below.refl _ _ | apply below_alloc | apply pw_below_drewN | apply below_drew1))).2.2.1, (key _ (by repeat (first | exact Below.refl _ _ | apply below_alloc | apply pw_below_drewN | apply below_drew1))).2.2.2.1, (key _ (by repeat (first | exact Below.refl _ _ | apply below_alloc | apply pw_below_drewN | apply below_drew1))).2.2.2.2⟩ (fun hHeld => ?_)
        clear hK K
        refine norm_ (a' := ?_) ?_ ?_
        rotate_left
        · show Act.put _ (some 14) _ = _
          simp only [Act.put, List.setIfInBounds_toArray, List.set_cons_zero, List.set_cons_succ, i64_w, i32_w]
          rfl
        refine last_ (i := 21) (N := none) #[true, true, true, true, true, true, true, true, true, true, true, true, true, true, true, true, true, true, true, true, true, true] rfl rfl (by kernel_rfl) (by decide) (fun K hK => ?_)
        refine skip_ (w1 := ?_) (by rfl) rfl ?_ ?_
        rotate_left
        · go_simp
          rfl
        refine hK.out _ _ ?_
        clear hK K
        refine done_ (by kernel_rfl) ?_
        go_wp2_with fail
        with_reducible refine (allow_Row_close.calls o0 a00 a01 a02 a03 0 c0 e0 _ HCL0.out).mono ?_
        rintro e z0 ⟨rfl, hb⟩
        have HLz := Aside0.mk (HL.out.call (below_step (w := y0) (by repeat (first | exact Below.refl _ _ | apply below_alloc | apply pw_below_drewN | apply below_drew1)) hb))
        have hbk : z0.heap[y0.heap.size]? = some (.cells #[.int .i64 o0, .int .i64 a00, .int .i64 a01, .int .i64 a02, .int .i64 a03, .int .i64 0] 38 (0, 0)) := blk_below (blk_drew (blk_new _ _)) hb
        have hk0 : z0.cell? ⟨y0.heap.size, 0, none⟩ = some (.int .i64 o0) := blk_cell hbk 0
        have hk1 : z0.cell? ⟨y0.heap.size, 1, none⟩ = some (.int .i64 a00) := blk_cell hbk 1
        have hk2 : z0.cell? ⟨y0.heap.size, 2, none⟩ = some (.int .i64 a01) := blk_cell hbk 2
        have hk3 : z0.cell? ⟨y0.heap.size, 3, none⟩ = some (.int .i64 a02) := blk_cell hbk 3
        have hk4 : z0.cell? ⟨y0.heap.size, 4, none⟩ = some (.int .i64 a03) := blk_cell hbk 4
        have hk5 : z0.cell? ⟨y0.heap.size, 5, none⟩ = some (.int .i64 0) := blk_cell hbk 5
        have hkf := blk_frozen hbk 5
        have hg0 : z0.cell? ⟨w5.heap.size, 0, none⟩ = some (.int .i64 0) := blk_cell HLz.out.hg 0
        have hf0 := blk_frozen HLz.out.hg 0
        have hg1 : z0.cell? ⟨w5.heap.size, 1, none⟩ = some (.int .i64 0) := blk_cell HLz.out.hg 1
        have hf1 := blk_frozen HLz.out.hg 1
        have hg2 : z0.cell? ⟨w5.heap.size, 2, none⟩ = some (.int .i64 0) := blk_cell HLz.out.hg 2
        have hf2 := blk_frozen HLz.out.hg 2
        have hg3 : z0.cell? ⟨w5.heap.size, 3, none⟩ = some (.int .i64 0) := blk_cell HLz.out.hg 3
        have hf3 := blk_frozen HLz.out.hg 3
        have hg4 : z0.cell? ⟨w5.heap.size, 4, none⟩ = some (.int .i64 0) := blk_cell HLz.out.hg 4
        have hf4 := blk_frozen HLz.out.hg 4
        have hg5 : z0.cell? ⟨w5.heap.size, 5, none⟩ = some (.int .i64 0) := blk_cell HLz.out.hg 5
        have hf5 := blk_frozen HLz.out.hg 5
        have hne : ¬ y0.heap.size = w5.heap.size := by omega
        have hne2 : ¬ w5.heap.size = y0.heap.size := by omega
        clear hb hbk key
        go_wp2_with fail
        have HL1 := Aside0.mk (show allow_Roll.Lp w o0 o1 o2 l w1.heap.size w2.heap.size w3.heap.size w4.heap.size w5.heap.size ⟨o0, a00, a01, a02, a03, c0⟩ Row6.z Row6.z (((((((z0.setCell ⟨y0.heap.size, 5, none⟩ (.int .i64 c0)).setCell ⟨w5.heap.size, 0, none⟩ (.int .i64 o0)).setCell ⟨w5.heap.size, 1, none⟩ (.int .i64 a00)).setCell ⟨w5.heap.size, 2, none⟩ (.int .i64 a01)).setCell ⟨w5.heap.size, 3, none⟩ (.int .i64 a02)).setCell ⟨w5.heap.size, 4, none⟩ (.int .i64 a03)).setCell ⟨w5.heap.size, 5, none⟩ (.int .i64 c0)) from (((((((HLz.out.far (j := 5) hgl (.int .i64 c0)).put ⟨o0, 0, 0, 0, 0, 0⟩ Row6.z Row6.z 0 _ rfl).put ⟨o0, a00, 0, 0, 0, 0⟩ Row6.z Row6.z 1 _ rfl).put ⟨o0, a00, a01, 0, 0, 0⟩ Row6.z Row6.z 2 _ rfl).put ⟨o0, a00, a01, a02, 0, 0⟩ Row6.z Row6.z 3 _ rfl).put ⟨o0, a00, a01, a02, a03, 0⟩ Row6.z Row6.z 4 _ rfl).put ⟨o0, a00, a01, a02, a03, c0⟩ Row6.z Row6.z 5 _ rfl))
        generalize ((((((z0.setCell ⟨y0.heap.size, 5, none⟩ (.int .i64 c0)).setCell ⟨w5.heap.size, 0, none⟩ (.int .i64 o0)).setCell ⟨w5.heap.size, 1, none⟩ (.int .i64 a00)).setCell ⟨w5.heap.size, 2, none⟩ (.int .i64 a01)).setCell ⟨w5.heap.size, 3, none⟩ (.int .i64 a02)).setCell ⟨w5.heap.size, 4, none⟩ (.int .i64 a03)).setCell ⟨w5.heap.size, 5, none⟩ (.int .i64 c0) = y1 at HL1 ⊢
        clear HLz hne hne2 hgl hkf hk0 hg0 hf0 hk1 hg1 hf1 hk2 hg2 hf2 hk3 hg3 hf3 hk4 hg4 hf4 hk5 hg5 hf5
        rw [rounds_succ]
        go_wp2_with fail
        obtain ⟨a10, ha10⟩ : ∃ a, allow_Change.sums allow_Change.key21 allow_Change.amt21 l 2 = a := ⟨_, rfl⟩
        obtain ⟨a11, ha11⟩ : ∃ a, allow_Change.sums allow_Change.key23 allow_Change.amt23 l 2 = a := ⟨_, rfl⟩
        obtain ⟨a12, ha12⟩ : ∃ a, allow_Change.sums allow_Change.key24 allow_Change.amt24 l 2 = a := ⟨_, rfl⟩
        obtain ⟨a13, ha13⟩ : ∃ a, allow_Change.sums allow_Change.key25 allow_Change.amt25 l 2 = a := ⟨_, rfl⟩
        obtain ⟨c1, e1, hc1⟩ := allow_Row_close_some o1 a10 a11 a12 a13 0
        have hrow1 : allow_Roll.row l o1 2 = ⟨o1, a10, a11, a12, a13, c1⟩ := by unfold allow_Roll.row; rw [ha10, ha11, ha12, ha13, hc1]; rfl
        have HRW1 := Aside0.mk hrow1
        have HCL1 := Aside0.mk hc1
        have key : ∀ z, Below y1.heap.size y1 z → z.cell? ⟨w.heap.size, 1, none⟩ = some (.int .i64 o1) ∧ (Instr.lookup 80 (.map (some w1.heap.size)) (.int .i64 2) false).run Try.prog z = .ok (.int .i64 a10) z ∧ (Instr.lookup 80 (.map (some w2.heap.size)) (.int .i64 2) false).run Try.prog z = .ok (.int .i64 a11) z ∧ (Instr.lookup 80 (.map (some w3.heap.size)) (.int .i64 2) false).run Try.prog z = .ok (.int .i64 a12) z ∧ (Instr.lookup 80 (.map (some w4.heap.size)) (.int .i64 2) false).run Try.prog z = .ok (.int .i64 a13) z := fun z hz =>
          ⟨blk_cell (HL1.out.call hz).fr.h2 1, ha10 ▸ IMap.look Try.underlying80 Try.underlying3 zero_2 (HL1.out.call hz).i1 2, ha11 ▸ IMap.look Try.underlying80 Try.underlying3 zero_2 (HL1.out.call hz).i2 2, ha12 ▸ IMap.look Try.underlying80 Try.underlying3 zero_2 (HL1.out.call hz).i3 2, ha13 ▸ IMap.look Try.underlying80 Try.underlying3 zero_2 (HL1.out.call hz).i4 2⟩
        clear hrow1 hc1 ha10 ha11 ha12 ha13
        have hgl : w5.heap.size < y1.heap.size := blk_lt HL1.out.hg
        have hw1 : IntKind.i64.wrap (2 : Int) = 2 := by decide
        have hw2 : wrap64 (2 : Int) = 2 := by unfold wrap64; omega
        refine start_ (n := 22) (S := fun w' => w'.cell? ⟨w.heap.size, 1, none⟩ = some (.int .i64 o1) ∧ (Instr.lookup 80 (.map (some w1.heap.size)) (.int .i64 2) false).run Try.prog w' = .ok (.int .i64 a10) w' ∧ (Instr.lookup 80 (.map (some w2.heap.size)) (.int .i64 2) false).run Try.prog w' = .ok (.int .i64 a11) w' ∧ (Instr.lookup 80 (.map (some w3.heap.size)) (.int .i64 2) false).run Try.prog w' = .ok (.int .i64 a12) w' ∧ (Instr.lookup 80 (.map (some w4.heap.size)) (.int .i64 2) false).run Try.prog w' = .ok (.int .i64 a13) w') (ds := [21]) #[false, false, false, false, false, false, false, false, false, false, false, false, false, false, false, false, false, false, false, false, false, false] (by kernel_rfl) rfl rfl ⟨(key _ (by repeat (first | exact Below.refl _ _ | apply below_alloc | apply pw_below_drewN | apply below_drew1))).1, (key _ (by repeat (first | exact Below.refl _ _ | apply below_alloc | apply pw_below_drewN | apply below_drew1))).2.1, (key _ (by repeat (first | exact Below.refl _ _ | apply below_alloc | apply pw_below_drewN | apply below_drew1))).2.2.1, (key _ (by repeat (first | exact Below.refl _ _ | apply below_alloc | apply pw_below_drewN | apply below_drew1))).2.2.2.1, (key _ (by repeat (first | exact Below.refl _ _ | apply below_alloc | apply pw_below_drewN | apply below_drew1))).2.2.2.2⟩ (fun hHeld => ?_)
        refine pure_ (i := 0) (N := some 60) (v := ?_) (a' := ?_) #[true, false, false, false, false, false, false, false, false, false, false, false, false, false, false, false, false, false, false, false, false, false] rfl rfl (by kernel_rfl) (fun _ _ _ h => h) (Or.inl ⟨by rfl, ?_⟩) ?_ ?_
        rotate_left
        · intro w'
          go_simp
          with_reducible rfl
        rotate_left
        · simp only [Act.put, List.setIfInBounds_toArray, List.set_cons_zero, List.set_cons_succ, i64_w, i32_w]
          rfl
        refine pure_ (i := 1) (N := some 61) (v := ?_) (a' := ?_) #[true, true, false, false, false, false, false, false, false, false, false, false, false, false, false, false, false, false, false, false, false, false] rfl rfl (by kernel_rfl) (fun _ _ _ h => h) (Or.inl ⟨by rfl, ?_⟩) ?_ ?_
        rotate_left
        · intro w'
          go_simp
          with_reducible rfl
        rotate_left
        · simp only [Act.put, List.setIfInBounds_toArray, List.set_cons_zero, List.set_cons_succ, i64_w, i32_w]
          rfl
        refine pure_ (i := 3) (N := some 63) (v := ?_) (a' := ?_) #[true, true, false, true, false, false, false, false, false, false, false, false, false, false, false, false, false, false, false, false, false, false] rfl rfl (by kernel_rfl) (fun _ _ _ h => h) (Or.inl ⟨by rfl, ?_⟩) ?_ ?_
        rotate_left
        · intro w'
          go_simp
          with_reducible rfl
        rotate_left
        · simp only [Act.put, List.setIfInBounds_toArray, List.set_cons_zero, List.set_cons_succ, i64_w, i32_w]
          rfl
        refine pure_ (i := 4) (N := some 64) (v := ?_) (a' := ?_) #[true, true, false, true, true, false, false, false, false, false, false, false, false, false, false, false, false, false, false, false, false, false] rfl rfl (by kernel_rfl) (fun _ _ _ h => h) (Or.inl ⟨by rfl, ?_⟩) ?_ ?_
        rotate_left
        · intro w'
          go_simp
          with_reducible rfl
        rotate_left
        · simp only [Act.put, List.setIfInBounds_toArray, List.set_cons_zero, List.set_cons_succ, i64_w, i32_w]
          rfl
        refine pure_ (i := 5) (N := some 65) (v := ?_) (a' := ?_) #[true, true, false, true, true, true, false, false, false, false, false, false, false, false, false, false, false, false, false, false, false, false] rfl rfl (by kernel_rfl) (fun _ _ _ h => h) (Or.inl ⟨by rfl, ?_⟩) ?_ ?_
        rotate_left
        · intro w'
          go_simp
          with_reducible rfl
        rotate_left
        · simp only [Act.put, List.setIfInBounds_toArray, List.set_cons_zero, List.set_cons_succ, i64_w, i32_w]
          rfl
        refine pure_ (i := 7) (N := some 67) (v := ?_) (a' := ?_) #[true, true, false, true, true, true, false, true, false, false, false, false, false, false, false, false, false, false, false, false, false, false] rfl rfl (by kernel_rfl) (fun _ _ _ h => h) (Or.inl ⟨by rfl, ?_⟩) ?_ ?_
        rotate_left
        · intro w'
          go_simp
          with_reducible rfl
        rotate_left
        · simp only [Act.put, List.setIfInBounds_toArray, List.set_cons_zero, List.set_cons_succ, i64_w, i32_w]
          rfl
        refine pure_ (i := 8) (N := some 68) (v := ?_) (a' := ?_) #[true, true, false, true, true, true, false, true, true, false, false, false, false, false, false, false, false, false, false, false, false, false] rfl rfl (by kernel_rfl) (fun _ _ _ h => h) (Or.inl ⟨by rfl, ?_⟩) ?_ ?_
        rotate_left
        · intro w'
          go_simp
          with_reducible rfl
        rotate_left
        · simp only [Act.put, List.setIfInBounds_toArray, List.set_cons_zero, List.set_cons_succ, i64_w, i32_w]
          rfl
        refine pure_ (i := 9) (N := some 69) (v := ?_) (a' := ?_) #[true, true, false, true, true, true, false, true, true, true, false, false, false, false, false, false, false, false, false, false, false, false] rfl rfl (by kernel_rfl) (fun _ _ _ h => h) (Or.inl ⟨by rfl, ?_⟩) ?_ ?_
        rotate_left
        · intro w'
          go_simp
          with_reducible rfl
        rotate_left
        · simp only [Act.put, List.setIfInBounds_toArray, List.set_cons_zero, List.set_cons_succ, i64_w, i32_w]
          rfl
        refine pure_ (i := 11) (N := some 71) (v := ?_) (a' := ?_) #[true, true, false, true, true, true, false, true, true, true, false, true, false, false, false, false, false, false, false, false, false, false] rfl rfl (by kernel_rfl) (fun _ _ _ h => h) (Or.inl ⟨by rfl, ?_⟩) ?_ ?_
        rotate_left
        · intro w'
          go_simp
          with_reducible rfl
        rotate_left
        · simp only [Act.put, List.setIfInBounds_toArray, List.set_cons_zero, List.set_cons_succ, i64_w, i32_w]
          rfl
        refine pure_ (i := 12) (N := some 72) (v := ?_) (a' := ?_) #[true, true, false, true, true, true, false, true, true, true, false, true, true, false, false, false, false, false, false, false, false, false] rfl rfl (by kernel_rfl) (fun _ _ _ h => h) (Or.inl ⟨by rfl, ?_⟩) ?_ ?_
        rotate_left
        · intro w'
          go_simp
          with_reducible rfl
        rotate_left
        · simp only [Act.put, List.setIfInBounds_toArray, List.set_cons_zero, List.set_cons_succ, i64_w, i32_w]
          rfl
        refine pure_ (i := 13) (N := some 73) (v := ?_) (a' := ?_) #[true, true, false, true, true, true, false, true, true, true, false, true, true, true, false, false, false, false, false, false, false, false] rfl rfl (by kernel_rfl) (fun _ _ _ h => h) (Or.inl ⟨by rfl, ?_⟩) ?_ ?_
        rotate_left
        · intro w'
          go_simp
          with_reducible rfl
        rotate_left
        · simp only [Act.put, List.setIfInBounds_toArray, List.set_cons_zero, List.set_cons_succ, i64_w, i32_w]
          rfl
        refine pure_ (i := 15) (N := some 75) (v := ?_) (a' := ?_) #[true, true, false, true, true, true, false, true, true, true, false, true, true, true, false, true, false, false, false, false, false, false] rfl rfl (by kernel_rfl) (fun _ _ _ h => h) (Or.inl ⟨by rfl, ?_⟩) ?_ ?_
        rotate_left
        · intro w'
          go_simp
          with_reducible rfl
        rotate_left
        · simp only [Act.put, List.setIfInBounds_toArray, List.set_cons_zero, List.set_cons_succ, i64_w, i32_w]
          rfl
        refine pure_ (i := 16) (N := some 76) (v := ?_) (a' := ?_) #[true, true, false, true, true, true, false, true, true, true, false, true, true, true, false, true, true, false, false, false, false, false] rfl rfl (by kernel_rfl) (fun _ _ _ h => h) (Or.inl ⟨by rfl, ?_⟩) ?_ ?_
        rotate_left
        · intro w'
          go_simp
          with_reducible rfl
        rotate_left
        · simp only [Act.put, List.setIfInBounds_toArray, List.set_cons_zero, List.set_cons_succ, i64_w, i32_w]
          rfl
        refine pure_ (i := 17) (N := some 77) (v := ?_) (a' := ?_) #[true, true, false, true, true, true, false, true, true, true, false, true, true, true, false, true, true, true, false, false, false, false] rfl rfl (by kernel_rfl) (fun _ _ _ h => h) (Or.inl ⟨by rfl, ?_⟩) ?_ ?_
        rotate_left
        · intro w'
          go_simp
          with_reducible rfl
        rotate_left
        · simp only [Act.put, List.setIfInBounds_toArray, List.set_cons_zero, List.set_cons_succ, i64_w, i32_w]
          rfl
        refine take_ (i := 2) (N := some 62) (v := ?_) (a' := ?_) #[true, true, true, true, true, true, false, true, true, true, false, true, true, true, false, true, true, true, false, false, false, false] rfl rfl (by kernel_rfl) (fun _ _ _ h => h) (Or.inl ⟨by rfl, ?_⟩) hHeld ?_ ?_
        rotate_left
        · rintro w' ⟨s0, s1, s2, s3, s4⟩
          go_simp
          with_reducible rfl
        rotate_left
        · simp only [Act.put, List.setIfInBounds_toArray, List.set_cons_zero, List.set_cons_succ, i64_w, i32_w]
          rfl
        refine take_ (i := 6) (N := some 66) (v := ?_) (a' := ?_) #[true, true, true, true, true, true, true, true, true, true, false, true, true, true, false, true, true, true, false, false, false, false] rfl rfl (by kernel_rfl) (fun _ _ _ h => h) (Or.inl ⟨by rfl, ?_⟩) hHeld ?_ ?_
        rotate_left
        · rintro w' ⟨s0, s1, s2, s3, s4⟩
          go_simp
          with_reducible rfl
        rotate_left
        · simp only [Act.put, List.setIfInBounds_toArray, List.set_cons_zero, List.set_cons_succ, i64_w, i32_w]
          rfl
        refine take_ (i := 10) (N := some 70) (v := ?_) (a' := ?_) #[true, true, true, true, true, true, true, true, true, true, true, true, true, true, false, true, true, true, false, false, false, false] rfl rfl (by kernel_rfl) (fun _ _ _ h => h) (Or.inl ⟨by rfl, ?_⟩) hHeld ?_ ?_
        rotate_left
        · rintro w' ⟨s0, s1, s2, s3, s4⟩
          go_simp
          with_reducible rfl
        rotate_left
        · simp only [Act.put, List.setIfInBounds_toArray, List.set_cons_zero, List.set_cons_succ, i64_w, i32_w]
          rfl
        refine take_ (i := 14) (N := some 74) (v := ?_) (a' := ?_) #[true, true, true, true, true, true, true, true, true, true, true, true, true, true, true, true, true, true, false, false, false, false] rfl rfl (by kernel_rfl) (fun _ _ _ h => h) (Or.inl ⟨by rfl, ?_⟩) hHeld ?_ ?_
        rotate_left
        · rintro w' ⟨s0, s1, s2, s3, s4⟩
          go_simp
          with_reducible rfl
        rotate_left
        · simp only [Act.put, List.setIfInBounds_toArray, List.set_cons_zero, List.set_cons_succ, i64_w, i32_w]
          rfl
        refine take_ (i := 18) (N := some 78) (v := ?_) (a' := ?_) #[true, true, true, true, true, true, true, true, true, true, true, true, true, true, true, true, true, true, true, false, false, false] rfl rfl (by kernel_rfl) (fun _ _ _ h => h) (Or.inl ⟨by rfl, ?_⟩) hHeld ?_ ?_
        rotate_left
        · rintro w' ⟨s0, s1, s2, s3, s4⟩
          go_simp
          with_reducible rfl
        rotate_left
        · simp only [Act.put, List.setIfInBounds_toArray, List.set_cons_zero, List.set_cons_succ, i64_w, i32_w]
          rfl
        refine pure_ (i := 19) (N := some 79) (v := ?_) (a' := ?_) #[true, true, true, true, true, true, true, true, true, true, true, true, true, true, true, true, true, true, true, true, false, false] rfl rfl (by kernel_rfl) (fun _ _ _ h => h) (Or.inl ⟨by rfl, ?_⟩) ?_ ?_
        rotate_left
        · intro w'
          go_simp
          with_reducible rfl
        rotate_left
        · simp only [Act.put, List.setIfInBounds_toArray, List.set_cons_zero, List.set_cons_succ, i64_w, i32_w]
          rfl
        refine one_ (i := 20) (N := some 14) #[true, true, true, true, true, true, true, true, true, true, true, true, true, true, true, true, true, true, true, true, true, false] rfl rfl (by kernel_rfl) (by decide) (fun K hK => ?_)
        refine value_ (w1 := ?_) (v := ?_) (by rfl) rfl ?_ ?_
        rotate_left 2
        · go_simp
          constructor
          · rfl
          · rfl
        refine hK.out _ _ ⟨(key _ (by repeat (first | exact Below.refl _ _ | apply below_alloc | apply pw_below_drewN | apply below_drew1))).1, (key _ (by repeat (first | exact Below.refl _ _ | apply below_alloc | apply pw_below_drewN | apply below_drew1))).2.1, (key _ (by repeat (first | exact Below.refl _ _ | apply below_alloc | apply pw_below_drewN | apply below_drew1))).2.2.1, (key _ (by repeat (first | exact Below.refl _ _ | apply below_alloc | apply pw_below_drewN | apply below_drew1))).2.2.2.1, (key _ (by repeat (first | exact Below.refl _ _ | apply below_alloc | apply pw_below_drewN | apply below_drew1))).2.2.2.2⟩ (fun hHeld => ?_)
        clear hK K
        refine norm_ (a' := ?_) ?_ ?_
        rotate_left
        · show Act.put _ (some 14) _ = _
          simp only [Act.put, List.setIfInBounds_toArray, List.set_cons_zero, List.set_cons_succ, i64_w, i32_w]
          rfl
        refine last_ (i := 21) (N := none) #[true, true, true, true, true, true, true, true, true, true, true, true, true, true, true, true, true, true, true, true, true, true] rfl rfl (by kernel_rfl) (by decide) (fun K hK => ?_)
        refine skip_ (w1 := ?_) (by rfl) rfl ?_ ?_
        rotate_left
        · go_simp
          rfl
        refine hK.out _ _ ?_
        clear hK K
        refine done_ (by kernel_rfl) ?_
        go_wp2_with fail
        with_reducible refine (allow_Row_close.calls o1 a10 a11 a12 a13 0 c1 e1 _ HCL1.out).mono ?_
        rintro e z1 ⟨rfl, hb⟩
        have HLz := Aside0.mk (HL1.out.call (below_step (w := y1) (by repeat (first | exact Below.refl _ _ | apply below_alloc | apply pw_below_drewN | apply below_drew1)) hb))
        have hbk : z1.heap[y1.heap.size]? = some (.cells #[.int .i64 o1, .int .i64 a10, .int .i64 a11, .int .i64 a12, .int .i64 a13, .int .i64 0] 38 (0, 0)) := blk_below (blk_drew (blk_new _ _)) hb
        have hk0 : z1.cell? ⟨y1.heap.size, 0, none⟩ = some (.int .i64 o1) := blk_cell hbk 0
        have hk1 : z1.cell? ⟨y1.heap.size, 1, none⟩ = some (.int .i64 a10) := blk_cell hbk 1
        have hk2 : z1.cell? ⟨y1.heap.size, 2, none⟩ = some (.int .i64 a11) := blk_cell hbk 2
        have hk3 : z1.cell? ⟨y1.heap.size, 3, none⟩ = some (.int .i64 a12) := blk_cell hbk 3
        have hk4 : z1.cell? ⟨y1.heap.size, 4, none⟩ = some (.int .i64 a13) := blk_cell hbk 4
        have hk5 : z1.cell? ⟨y1.heap.size, 5, none⟩ = some (.int .i64 0) := blk_cell hbk 5
        have hkf := blk_frozen hbk 5
        have hg0 : z1.cell? ⟨w5.heap.size, 6, none⟩ = some (.int .i64 0) := blk_cell HLz.out.hg 6
        have hf0 := blk_frozen HLz.out.hg 6
        have hg1 : z1.cell? ⟨w5.heap.size, 7, none⟩ = some (.int .i64 0) := blk_cell HLz.out.hg 7
        have hf1 := blk_frozen HLz.out.hg 7
        have hg2 : z1.cell? ⟨w5.heap.size, 8, none⟩ = some (.int .i64 0) := blk_cell HLz.out.hg 8
        have hf2 := blk_frozen HLz.out.hg 8
        have hg3 : z1.cell? ⟨w5.heap.size, 9, none⟩ = some (.int .i64 0) := blk_cell HLz.out.hg 9
        have hf3 := blk_frozen HLz.out.hg 9
        have hg4 : z1.cell? ⟨w5.heap.size, 10, none⟩ = some (.int .i64 0) := blk_cell HLz.out.hg 10
        have hf4 := blk_frozen HLz.out.hg 10
        have hg5 : z1.cell? ⟨w5.heap.size, 11, none⟩ = some (.int .i64 0) := blk_cell HLz.out.hg 11
        have hf5 := blk_frozen HLz.out.hg 11
        have hne : ¬ y1.heap.size = w5.heap.size := by omega
        have hne2 : ¬ w5.heap.size = y1.heap.size := by omega
        clear hb hbk key
        go_wp2_with fail
        have HL2 := Aside0.mk (show allow_Roll.Lp w o0 o1 o2 l w1.heap.size w2.heap.size w3.heap.size w4.heap.size w5.heap.size ⟨o0, a00, a01, a02, a03, c0⟩ ⟨o1, a10, a11, a12, a13, c1⟩ Row6.z (((((((z1.setCell ⟨y1.heap.size, 5, none⟩ (.int .i64 c1)).setCell ⟨w5.heap.size, 6, none⟩ (.int .i64 o1)).setCell ⟨w5.heap.size, 7, none⟩ (.int .i64 a10)).setCell ⟨w5.heap.size, 8, none⟩ (.int .i64 a11)).setCell ⟨w5.heap.size, 9, none⟩ (.int .i64 a12)).setCell ⟨w5.heap.size, 10, none⟩ (.int .i64 a13)).setCell ⟨w5.heap.size, 11, none⟩ (.int .i64 c1)) from (((((((HLz.out.far (j := 5) hgl (.int .i64 c1)).put ⟨o0, a00, a01, a02, a03, c0⟩ ⟨o1, 0, 0, 0, 0, 0⟩ Row6.z 6 _ rfl).put ⟨o0, a00, a01, a02, a03, c0⟩ ⟨o1, a10, 0, 0, 0, 0⟩ Row6.z 7 _ rfl).put ⟨o0, a00, a01, a02, a03, c0⟩ ⟨o1, a10, a11, 0, 0, 0⟩ Row6.z 8 _ rfl).put ⟨o0, a00, a01, a02, a03, c0⟩ ⟨o1, a10, a11, a12, 0, 0⟩ Row6.z 9 _ rfl).put ⟨o0, a00, a01, a02, a03, c0⟩ ⟨o1, a10, a11, a12, a13, 0⟩ Row6.z 10 _ rfl).put ⟨o0, a00, a01, a02, a03, c0⟩ ⟨o1, a10, a11, a12, a13, c1⟩ Row6.z 11 _ rfl))
        generalize ((((((z1.setCell ⟨y1.heap.size, 5, none⟩ (.int .i64 c1)).setCell ⟨w5.heap.size, 6, none⟩ (.int .i64 o1)).setCell ⟨w5.heap.size, 7, none⟩ (.int .i64 a10)).setCell ⟨w5.heap.size, 8, none⟩ (.int .i64 a11)).setCell ⟨w5.heap.size, 9, none⟩ (.int .i64 a12)).setCell ⟨w5.heap.size, 10, none⟩ (.int .i64 a13)).setCell ⟨w5.heap.size, 11, none⟩ (.int .i64 c1) = y2 at HL2 ⊢
        clear HLz hne hne2 hgl hkf hk0 hg0 hf0 hk1 hg1 hf1 hk2 hg2 hf2 hk3 hg3 hf3 hk4 hg4 hf4 hk5 hg5 hf5
        rw [rounds_succ]
        go_wp2_with fail
        obtain ⟨a20, ha20⟩ : ∃ a, allow_Change.sums allow_Change.key21 allow_Change.amt21 l 3 = a := ⟨_, rfl⟩
        obtain ⟨a21, ha21⟩ : ∃ a, allow_Change.sums allow_Change.key23 allow_Change.amt23 l 3 = a := ⟨_, rfl⟩
        obtain ⟨a22, ha22⟩ : ∃ a, allow_Change.sums allow_Change.key24 allow_Change.amt24 l 3 = a := ⟨_, rfl⟩
        obtain ⟨a23, ha23⟩ : ∃ a, allow_Change.sums allow_Change.key25 allow_Change.amt25 l 3 = a := ⟨_, rfl⟩
        obtain ⟨c2, e2, hc2⟩ := allow_Row_close_some o2 a20 a21 a22 a23 0
        have hrow2 : allow_Roll.row l o2 3 = ⟨o2, a20, a21, a22, a23, c2⟩ := by unfold allow_Roll.row; rw [ha20, ha21, ha22, ha23, hc2]; rfl
        have HRW2 := Aside0.mk hrow2
        have HCL2 := Aside0.mk hc2
        have key : ∀ z, Below y2.heap.size y2 z → z.cell? ⟨w.heap.size, 2, none⟩ = some (.int .i64 o2) ∧ (Instr.lookup 80 (.map (some w1.heap.size)) (.int .i64 3) false).run Try.prog z = .ok (.int .i64 a20) z ∧ (Instr.lookup 80 (.map (some w2.heap.size)) (.int .i64 3) false).run Try.prog z = .ok (.int .i64 a21) z ∧ (Instr.lookup 80 (.map (some w3.heap.size)) (.int .i64 3) false).run Try.prog z = .ok (.int .i64 a22) z ∧ (Instr.lookup 80 (.map (some w4.heap.size)) (.int .i64 3) false).run Try.prog z = .ok (.int .i64 a23) z := fun z hz =>
          ⟨blk_cell (HL2.out.call hz).fr.h2 2, ha20 ▸ IMap.look Try.underlying80 Try.underlying3 zero_2 (HL2.out.call hz).i1 3, ha21 ▸ IMap.look Try.underlying80 Try.underlying3 zero_2 (HL2.out.call hz).i2 3, ha22 ▸ IMap.look Try.underlying80 Try.underlying3 zero_2 (HL2.out.call hz).i3 3, ha23 ▸ IMap.look Try.underlying80 Try.underlying3 zero_2 (HL2.out.call hz).i4 3⟩
        clear hrow2 hc2 ha20 ha21 ha22 ha23
        have hgl : w5.heap.size < y2.heap.size := blk_lt HL2.out.hg
        have hw1 : IntKind.i64.wrap (3 : Int) = 3 := by decide
        have hw2 : wrap64 (3 : Int) = 3 := by unfold wrap64; omega
        refine start_ (n := 22) (S := fun w' => w'.cell? ⟨w.heap.size, 2, none⟩ = some (.int .i64 o2) ∧ (Instr.lookup 80 (.map (some w1.heap.size)) (.int .i64 3) false).run Try.prog w' = .ok (.int .i64 a20) w' ∧ (Instr.lookup 80 (.map (some w2.heap.size)) (.int .i64 3) false).run Try.prog w' = .ok (.int .i64 a21) w' ∧ (Instr.lookup 80 (.map (some w3.heap.size)) (.int .i64 3) false).run Try.prog w' = .ok (.int .i64 a22) w' ∧ (Instr.lookup 80 (.map (some w4.heap.size)) (.int .i64 3) false).run Try.prog w' = .ok (.int .i64 a23) w') (ds := [21]) #[false, false, false, false, false, false, false, false, false, false, false, false, false, false, false, false, false, false, false, false, false, false] (by kernel_rfl) rfl rfl ⟨(key _ (by repeat (first | exact Below.refl _ _ | apply below_alloc | apply pw_below_drewN | apply below_drew1))).1, (key _ (by repeat (first | exact Below.refl _ _ | apply below_alloc | apply pw_below_drewN | apply below_drew1))).2.1, (key _ (by repeat (first | exact Below.refl _ _ | apply below_alloc | apply pw_below_drewN | apply below_drew1))).2.2.1, (key _ (by repeat (first | exact Below.refl _ _ | apply below_alloc | apply pw_below_drewN | apply below_drew1))).2.2.2.1, (key _ (by repeat (first | exact Below.refl _ _ | apply below_alloc | apply pw_below_drewN | apply below_drew1))).2.2.2.2⟩ (fun hHeld => ?_)
        refine pure_ (i := 0) (N := some 60) (v := ?_) (a' := ?_) #[true, false, false, false, false, false, false, false, false, false, false, false, false, false, false, false, false, false, false, false, false, false] rfl rfl (by kernel_rfl) (fun _ _ _ h => h) (Or.inl ⟨by rfl, ?_⟩) ?_ ?_
        rotate_left
        · intro w'
          go_simp
          with_reducible rfl
        rotate_left
        · simp only [Act.put, List.setIfInBounds_toArray, List.set_cons_zero, List.set_cons_succ, i64_w, i32_w]
          rfl
        refine pure_ (i := 1) (N := some 61) (v := ?_) (a' := ?_) #[true, true, false, false, false, false, false, false, false, false, false, false, false, false, false, false, false, false, false, false, false, false] rfl rfl (by kernel_rfl) (fun _ _ _ h => h) (Or.inl ⟨by rfl, ?_⟩) ?_ ?_
        rotate_left
        · intro w'
          go_simp
          with_reducible rfl
        rotate_left
        · simp only [Act.put, List.setIfInBounds_toArray, List.set_cons_zero, List.set_cons_succ, i64_w, i32_w]
          rfl
        refine pure_ (i := 3) (N := some 63) (v := ?_) (a' := ?_) #[true, true, false, true, false, false, false, false, false, false, false, false, false, false, false, false, false, false, false, false, false, false] rfl rfl (by kernel_rfl) (fun _ _ _ h => h) (Or.inl ⟨by rfl, ?_⟩) ?_ ?_
        rotate_left
        · intro w'
          go_simp
          with_reducible rfl
        rotate_left
        · simp only [Act.put, List.setIfInBounds_toArray, List.set_cons_zero, List.set_cons_succ, i64_w, i32_w]
          rfl
        refine pure_ (i := 4) (N := some 64) (v := ?_) (a' := ?_) #[true, true, false, true, true, false, false, false, false, false, false, false, false, false, false, false, false, false, false, false, false, false] rfl rfl (by kernel_rfl) (fun _ _ _ h => h) (Or.inl ⟨by rfl, ?_⟩) ?_ ?_
        rotate_left
        · intro w'
          go_simp
          with_reducible rfl
        rotate_left
        · simp only [Act.put, List.setIfInBounds_toArray, List.set_cons_zero, List.set_cons_succ, i64_w, i32_w]
          rfl
        refine pure_ (i := 5) (N := some 65) (v := ?_) (a' := ?_) #[true, true, false, true, true, true, false, false, false, false, false, false, false, false, false, false, false, false, false, false, false, false] rfl rfl (by kernel_rfl) (fun _ _ _ h => h) (Or.inl ⟨by rfl, ?_⟩) ?_ ?_
        rotate_left
        · intro w'
          go_simp
          with_reducible rfl
        rotate_left
        · simp only [Act.put, List.setIfInBounds_toArray, List.set_cons_zero, List.set_cons_succ, i64_w, i32_w]
          rfl
        refine pure_ (i := 7) (N := some 67) (v := ?_) (a' := ?_) #[true, true, false, true, true, true, false, true, false, false, false, false, false, false, false, false, false, false, false, false, false, false] rfl rfl (by kernel_rfl) (fun _ _ _ h => h) (Or.inl ⟨by rfl, ?_⟩) ?_ ?_
        rotate_left
        · intro w'
          go_simp
          with_reducible rfl
        rotate_left
        · simp only [Act.put, List.setIfInBounds_toArray, List.set_cons_zero, List.set_cons_succ, i64_w, i32_w]
          rfl
        refine pure_ (i := 8) (N := some 68) (v := ?_) (a' := ?_) #[true, true, false, true, true, true, false, true, true, false, false, false, false, false, false, false, false, false, false, false, false, false] rfl rfl (by kernel_rfl) (fun _ _ _ h => h) (Or.inl ⟨by rfl, ?_⟩) ?_ ?_
        rotate_left
        · intro w'
          go_simp
          with_reducible rfl
        rotate_left
        · simp only [Act.put, List.setIfInBounds_toArray, List.set_cons_zero, List.set_cons_succ, i64_w, i32_w]
          rfl
        refine pure_ (i := 9) (N := some 69) (v := ?_) (a' := ?_) #[true, true, false, true, true, true, false, true, true, true, false, false, false, false, false, false, false, false, false, false, false, false] rfl rfl (by kernel_rfl) (fun _ _ _ h => h) (Or.inl ⟨by rfl, ?_⟩) ?_ ?_
        rotate_left
        · intro w'
          go_simp
          with_reducible rfl
        rotate_left
        · simp only [Act.put, List.setIfInBounds_toArray, List.set_cons_zero, List.set_cons_succ, i64_w, i32_w]
          rfl
        refine pure_ (i := 11) (N := some 71) (v := ?_) (a' := ?_) #[true, true, false, true, true, true, false, true, true, true, false, true, false, false, false, false, false, false, false, false, false, false] rfl rfl (by kernel_rfl) (fun _ _ _ h => h) (Or.inl ⟨by rfl, ?_⟩) ?_ ?_
        rotate_left
        · intro w'
          go_simp
          with_reducible rfl
        rotate_left
        · simp only [Act.put, List.setIfInBounds_toArray, List.set_cons_zero, List.set_cons_succ, i64_w, i32_w]
          rfl
        refine pure_ (i := 12) (N := some 72) (v := ?_) (a' := ?_) #[true, true, false, true, true, true, false, true, true, true, false, true, true, false, false, false, false, false, false, false, false, false] rfl rfl (by kernel_rfl) (fun _ _ _ h => h) (Or.inl ⟨by rfl, ?_⟩) ?_ ?_
        rotate_left
        · intro w'
          go_simp
          with_reducible rfl
        rotate_left
        · simp only [Act.put, List.setIfInBounds_toArray, List.set_cons_zero, List.set_cons_succ, i64_w, i32_w]
          rfl
        refine pure_ (i := 13) (N := some 73) (v := ?_) (a' := ?_) #[true, true, false, true, true, true, false, true, true, true, false, true, true, true, false, false, false, false, false, false, false, false] rfl rfl (by kernel_rfl) (fun _ _ _ h => h) (Or.inl ⟨by rfl, ?_⟩) ?_ ?_
        rotate_left
        · intro w'
          go_simp
          with_reducible rfl
        rotate_left
        · simp only [Act.put, List.setIfInBounds_toArray, List.set_cons_zero, List.set_cons_succ, i64_w, i32_w]
          rfl
        refine pure_ (i := 15) (N := some 75) (v := ?_) (a' := ?_) #[true, true, false, true, true, true, false, true, true, true, false, true, true, true, false, true, false, false, false, false, false, false] rfl rfl (by kernel_rfl) (fun _ _ _ h => h) (Or.inl ⟨by rfl, ?_⟩) ?_ ?_
        rotate_left
        · intro w'
          go_simp
          with_reducible rfl
        rotate_left
        · simp only [Act.put, List.setIfInBounds_toArray, List.set_cons_zero, List.set_cons_succ, i64_w, i32_w]
          rfl
        refine pure_ (i := 16) (N := some 76) (v := ?_) (a' := ?_) #[true, true, false, true, true, true, false, true, true, true, false, true, true, true, false, true, true, false, false, false, false, false] rfl rfl (by kernel_rfl) (fun _ _ _ h => h) (Or.inl ⟨by rfl, ?_⟩) ?_ ?_
        rotate_left
        · intro w'
          go_simp
          with_reducible rfl
        rotate_left
        · simp only [Act.put, List.setIfInBounds_toArray, List.set_cons_zero, List.set_cons_succ, i64_w, i32_w]
          rfl
        refine pure_ (i := 17) (N := some 77) (v := ?_) (a' := ?_) #[true, true, false, true, true, true, false, true, true, true, false, true, true, true, false, true, true, true, false, false, false, false] rfl rfl (by kernel_rfl) (fun _ _ _ h => h) (Or.inl ⟨by rfl, ?_⟩) ?_ ?_
        rotate_left
        · intro w'
          go_simp
          with_reducible rfl
        rotate_left
        · simp only [Act.put, List.setIfInBounds_toArray, List.set_cons_zero, List.set_cons_succ, i64_w, i32_w]
          rfl
        refine take_ (i := 2) (N := some 62) (v := ?_) (a' := ?_) #[true, true, true, true, true, true, false, true, true, true, false, true, true, true, false, true, true, true, false, false, false, false] rfl rfl (by kernel_rfl) (fun _ _ _ h => h) (Or.inl ⟨by rfl, ?_⟩) hHeld ?_ ?_
        rotate_left
        · rintro w' ⟨s0, s1, s2, s3, s4⟩
          go_simp
          with_reducible rfl
        rotate_left
        · simp only [Act.put, List.setIfInBounds_toArray, List.set_cons_zero, List.set_cons_succ, i64_w, i32_w]
          rfl
        refine take_ (i := 6) (N := some 66) (v := ?_) (a' := ?_) #[true, true, true, true, true, true, true, true, true, true, false, true, true, true, false, true, true, true, false, false, false, false] rfl rfl (by kernel_rfl) (fun _ _ _ h => h) (Or.inl ⟨by rfl, ?_⟩) hHeld ?_ ?_
        rotate_left
        · rintro w' ⟨s0, s1, s2, s3, s4⟩
          go_simp
          with_reducible rfl
        rotate_left
        · simp only [Act.put, List.setIfInBounds_toArray, List.set_cons_zero, List.set_cons_succ, i64_w, i32_w]
          rfl
        refine take_ (i := 10) (N := some 70) (v := ?_) (a' := ?_) #[true, true, true, true, true, true, true, true, true, true, true, true, true, true, false, true, true, true, false, false, false, false] rfl rfl (by kernel_rfl) (fun _ _ _ h => h) (Or.inl ⟨by rfl, ?_⟩) hHeld ?_ ?_
        rotate_left
        · rintro w' ⟨s0, s1, s2, s3, s4⟩
          go_simp
          with_reducible rfl
        rotate_left
        · simp only [Act.put, List.setIfInBounds_toArray, List.set_cons_zero, List.set_cons_succ, i64_w, i32_w]
          rfl
        refine take_ (i := 14) (N := some 74) (v := ?_) (a' := ?_) #[true, true, true, true, true, true, true, true, true, true, true, true, true, true, true, true, true, true, false, false, false, false] rfl rfl (by kernel_rfl) (fun _ _ _ h => h) (Or.inl ⟨by rfl, ?_⟩) hHeld ?_ ?_
        rotate_left
        · rintro w' ⟨s0, s1, s2, s3, s4⟩
          go_simp
          with_reducible rfl
        rotate_left
        · simp only [Act.put, List.setIfInBounds_toArray, List.set_cons_zero, List.set_cons_succ, i64_w, i32_w]
          rfl
        refine take_ (i := 18) (N := some 78) (v := ?_) (a' := ?_) #[true, true, true, true, true, true, true, true, true, true, true, true, true, true, true, true, true, true, true, false, false, false] rfl rfl (by kernel_rfl) (fun _ _ _ h => h) (Or.inl ⟨by rfl, ?_⟩) hHeld ?_ ?_
        rotate_left
        · rintro w' ⟨s0, s1, s2, s3, s4⟩
          go_simp
          with_reducible rfl
        rotate_left
        · simp only [Act.put, List.setIfInBounds_toArray, List.set_cons_zero, List.set_cons_succ, i64_w, i32_w]
          rfl
        refine pure_ (i := 19) (N := some 79) (v := ?_) (a' := ?_) #[true, true, true, true, true, true, true, true, true, true, true, true, true, true, true, true, true, true, true, true, false, false] rfl rfl (by kernel_rfl) (fun _ _ _ h => h) (Or.inl ⟨by rfl, ?_⟩) ?_ ?_
        rotate_left
        · intro w'
          go_simp
          with_reducible rfl
        rotate_left
        · simp only [Act.put, List.setIfInBounds_toArray, List.set_cons_zero, List.set_cons_succ, i64_w, i32_w]
          rfl
        refine one_ (i := 20) (N := some 14) #[true, true, true, true, true, true, true, true, true, true, true, true, true, true, true, true, true, true, true, true, true, false] rfl rfl (by kernel_rfl) (by decide) (fun K hK => ?_)
        refine value_ (w1 := ?_) (v := ?_) (by rfl) rfl ?_ ?_
        rotate_left 2
        · go_simp
          constructor
          · rfl
          · rfl
        refine hK.out _ _ ⟨(key _ (by repeat (first | exact Below.refl _ _ | apply below_alloc | apply pw_below_drewN | apply below_drew1))).1, (key _ (by repeat (first | exact Below.refl _ _ | apply below_alloc | apply pw_below_drewN | apply below_drew1))).2.1, (key _ (by repeat (first | exact Below.refl _ _ | apply below_alloc | apply pw_below_drewN | apply below_drew1))).2.2.1, (key _ (by repeat (first | exact Below.refl _ _ | apply below_alloc | apply pw_below_drewN | apply below_drew1))).2.2.2.1, (key _ (by repeat (first | exact Below.refl _ _ | apply below_alloc | apply pw_below_drewN | apply below_drew1))).2.2.2.2⟩ (fun hHeld => ?_)
        clear hK K
        refine norm_ (a' := ?_) ?_ ?_
        rotate_left
        · show Act.put _ (some 14) _ = _
          simp only [Act.put, List.setIfInBounds_toArray, List.set_cons_zero, List.set_cons_succ, i64_w, i32_w]
          rfl
        refine last_ (i := 21) (N := none) #[true, true, true, true, true, true, true, true, true, true, true, true, true, true, true, true, true, true, true, true, true, true] rfl rfl (by kernel_rfl) (by decide) (fun K hK => ?_)
        refine skip_ (w1 := ?_) (by rfl) rfl ?_ ?_
        rotate_left
        · go_simp
          rfl
        refine hK.out _ _ ?_
        clear hK K
        refine done_ (by kernel_rfl) ?_
        go_wp2_with fail
        with_reducible refine (allow_Row_close.calls o2 a20 a21 a22 a23 0 c2 e2 _ HCL2.out).mono ?_
        rintro e z2 ⟨rfl, hb⟩
        have HLz := Aside0.mk (HL2.out.call (below_step (w := y2) (by repeat (first | exact Below.refl _ _ | apply below_alloc | apply pw_below_drewN | apply below_drew1)) hb))
        have hbk : z2.heap[y2.heap.size]? = some (.cells #[.int .i64 o2, .int .i64 a20, .int .i64 a21, .int .i64 a22, .int .i64 a23, .int .i64 0] 38 (0, 0)) := blk_below (blk_drew (blk_new _ _)) hb
        have hk0 : z2.cell? ⟨y2.heap.size, 0, none⟩ = some (.int .i64 o2) := blk_cell hbk 0
        have hk1 : z2.cell? ⟨y2.heap.size, 1, none⟩ = some (.int .i64 a20) := blk_cell hbk 1
        have hk2 : z2.cell? ⟨y2.heap.size, 2, none⟩ = some (.int .i64 a21) := blk_cell hbk 2
        have hk3 : z2.cell? ⟨y2.heap.size, 3, none⟩ = some (.int .i64 a22) := blk_cell hbk 3
        have hk4 : z2.cell? ⟨y2.heap.size, 4, none⟩ = some (.int .i64 a23) := blk_cell hbk 4
        have hk5 : z2.cell? ⟨y2.heap.size, 5, none⟩ = some (.int .i64 0) := blk_cell hbk 5
        have hkf := blk_frozen hbk 5
        have hg0 : z2.cell? ⟨w5.heap.size, 12, none⟩ = some (.int .i64 0) := blk_cell HLz.out.hg 12
        have hf0 := blk_frozen HLz.out.hg 12
        have hg1 : z2.cell? ⟨w5.heap.size, 13, none⟩ = some (.int .i64 0) := blk_cell HLz.out.hg 13
        have hf1 := blk_frozen HLz.out.hg 13
        have hg2 : z2.cell? ⟨w5.heap.size, 14, none⟩ = some (.int .i64 0) := blk_cell HLz.out.hg 14
        have hf2 := blk_frozen HLz.out.hg 14
        have hg3 : z2.cell? ⟨w5.heap.size, 15, none⟩ = some (.int .i64 0) := blk_cell HLz.out.hg 15
        have hf3 := blk_frozen HLz.out.hg 15
        have hg4 : z2.cell? ⟨w5.heap.size, 16, none⟩ = some (.int .i64 0) := blk_cell HLz.out.hg 16
        have hf4 := blk_frozen HLz.out.hg 16
        have hg5 : z2.cell? ⟨w5.heap.size, 17, none⟩ = some (.int .i64 0) := blk_cell HLz.out.hg 17
        have hf5 := blk_frozen HLz.out.hg 17
        have hne : ¬ y2.heap.size = w5.heap.size := by omega
        have hne2 : ¬ w5.heap.size = y2.heap.size := by omega
        clear hb hbk key
        go_wp2_with fail
        have HL3 := Aside0.mk (show allow_Roll.Lp w o0 o1 o2 l w1.heap.size w2.heap.size w3.heap.size w4.heap.size w5.heap.size ⟨o0, a00, a01, a02, a03, c0⟩ ⟨o1, a10, a11, a12, a13, c1⟩ ⟨o2, a20, a21, a22, a23, c2⟩ (((((((z2.setCell ⟨y2.heap.size, 5, none⟩ (.int .i64 c2)).setCell ⟨w5.heap.size, 12, none⟩ (.int .i64 o2)).setCell ⟨w5.heap.size, 13, none⟩ (.int .i64 a20)).setCell ⟨w5.heap.size, 14, none⟩ (.int .i64 a21)).setCell ⟨w5.heap.size, 15, none⟩ (.int .i64 a22)).setCell ⟨w5.heap.size, 16, none⟩ (.int .i64 a23)).setCell ⟨w5.heap.size, 17, none⟩ (.int .i64 c2)) from (((((((HLz.out.far (j := 5) hgl (.int .i64 c2)).put ⟨o0, a00, a01, a02, a03, c0⟩ ⟨o1, a10, a11, a12, a13, c1⟩ ⟨o2, 0, 0, 0, 0, 0⟩ 12 _ rfl).put ⟨o0, a00, a01, a02, a03, c0⟩ ⟨o1, a10, a11, a12, a13, c1⟩ ⟨o2, a20, 0, 0, 0, 0⟩ 13 _ rfl).put ⟨o0, a00, a01, a02, a03, c0⟩ ⟨o1, a10, a11, a12, a13, c1⟩ ⟨o2, a20, a21, 0, 0, 0⟩ 14 _ rfl).put ⟨o0, a00, a01, a02, a03, c0⟩ ⟨o1, a10, a11, a12, a13, c1⟩ ⟨o2, a20, a21, a22, 0, 0⟩ 15 _ rfl).put ⟨o0, a00, a01, a02, a03, c0⟩ ⟨o1, a10, a11, a12, a13, c1⟩ ⟨o2, a20, a21, a22, a23, 0⟩ 16 _ rfl).put ⟨o0, a00, a01, a02, a03, c0⟩ ⟨o1, a10, a11, a12, a13, c1⟩ ⟨o2, a20, a21, a22, a23, c2⟩ 17 _ rfl))
        generalize ((((((z2.setCell ⟨y2.heap.size, 5, none⟩ (.int .i64 c2)).setCell ⟨w5.heap.size, 12, none⟩ (.int .i64 o2)).setCell ⟨w5.heap.size, 13, none⟩ (.int .i64 a20)).setCell ⟨w5.heap.size, 14, none⟩ (.int .i64 a21)).setCell ⟨w5.heap.size, 15, none⟩ (.int .i64 a22)).setCell ⟨w5.heap.size, 16, none⟩ (.int .i64 a23)).setCell ⟨w5.heap.size, 17, none⟩ (.int .i64 c2) = y3 at HL3 ⊢
        clear HLz hne hne2 hgl hkf hk0 hg0 hf0 hk1 hg1 hf1 hk2 hg2 hf2 hk3 hg3 hf3 hk4 hg4 hf4 hk5 hg5 hf5
        rw [rounds_succ]
        have hrr := HRR2.out
        rw [HRW0.out, HRW1.out, HRW2.out] at hrr
        subst hrr
        go_wp2_with (first | ((with_reducible refine gate_dst (N := 90) rfl ?_); refine wpList_load_row rfl 39 (.tmp 12) rfl w5.heap.size rfl 39 _ (0, 0) _ HL3.out.hg Try.underlying39 rfl (by kernel_rfl) ?_) | ((with_reducible refine gate_store (t := 39) (p := 4) (v := .tmp 90) rfl ?_); refine store_rowTo rfl 39 (.tmp 4) (.tmp 90) rfl rfl (w.heap.size + 1) (row18 ⟨o0, a00, a01, a02, a03, c0⟩ ⟨o1, a10, a11, a12, a13, c1⟩ ⟨o2, a20, a21, a22, a23, c2⟩) rfl rfl 39 _ HL3.out.fr.h4 (by kernel_rfl) rfl (row18_all _ _ _) ?_))
        exact bodyPost_ret (v := .tuple #[.agg (row18 ⟨o0, a00, a01, a02, a03, c0⟩ ⟨o1, a10, a11, a12, a13, c1⟩ ⟨o2, a20, a21, a22, a23, c2⟩), .int .i64 0]) (results_ct Try.results15 _ _ (w.heap.size + 1) 39 _ (0, 0) _ rfl (setRow_heap _ _ _ _ _ _ HL3.out.fr.h4) Try.underlying39 rfl (by kernel_rfl)) rfl ⟨rfl, row_below HL3.out.fr.b (by omega) _⟩
      · rw [if_pos hO] at hrr
        subst hrr
        go_wp2_with fail
        with_reducible refine (allow_Roll.cO o0 o1 o2 false (decide_eq_false hO) HF.out.h2).mono ?_
        rintro e w1 ⟨rfl, hd⟩
        have HF1 := Aside0.mk (HF.out.call hd.below)
        clear hd
        go_wp2_with ((with_reducible refine gate_store (t := 39) (p := 4) (v := .tmp 48) rfl ?_); refine store_rowTo rfl 39 (.tmp 4) (.tmp 48) rfl rfl (w.heap.size + 1) (row18 Row6.z Row6.z Row6.z) rfl rfl 39 _ HF1.out.h4 (by kernel_rfl) rfl (row18_all _ _ _) ?_)
        exact bodyPost_ret (v := .tuple #[.agg (row18 Row6.z Row6.z Row6.z), .int .i64 2]) (results_ct Try.results15 _ _ (w.heap.size + 1) 39 _ (0, 0) _ rfl (setRow_heap _ _ _ _ _ _ HF1.out.h4) Try.underlying39 rfl (by kernel_rfl)) rfl ⟨rfl, row_below HF1.out.b (by omega) _⟩
theorem allow_Roll.go_ (A : Option Addr) (c : Nat) (l : List S64) (o0 o1 o2 : Int) (w : World) (hr : Kd.C k64 w A l.length l) (hc : l.length ≤ c) :
    Calls Try.prog 15 #[.agg #[.int .i64 o0, .int .i64 o1, .int .i64 o2], .slice A l.length c] w (allow_Roll.P w (allow_Roll.g o0 o1 o2 l)) := by
  by_cases hl : 4096 < l.length
  · have : allow_Roll.g o0 o1 o2 l = (Row6.z, Row6.z, Row6.z, 10) := if_pos hl
    rw [this]
    exact allow_Roll.full A c l o0 o1 o2 w hl
  · exact allow_Roll.walk A c l o0 o1 o2 w hr hc hl _ (if_neg hl).symm
def allow_Roll.f (o0 o1 o2 : Int) (l : List S64) : Option (Int × Int × Int × Int × Int × Int × Int × Int × Int × Int × Int × Int × Int × Int × Int × Int × Int × Int × Int) := some ((allow_Roll.g o0 o1 o2 l).1.o, (allow_Roll.g o0 o1 o2 l).1.i, (allow_Roll.g o0 o1 o2 l).1.u, (allow_Roll.g o0 o1 o2 l).1.n, (allow_Roll.g o0 o1 o2 l).1.w, (allow_Roll.g o0 o1 o2 l).1.c, (allow_Roll.g o0 o1 o2 l).2.1.o, (allow_Roll.g o0 o1 o2 l).2.1.i, (allow_Roll.g o0 o1 o2 l).2.1.u, (allow_Roll.g o0 o1 o2 l).2.1.n, (allow_Roll.g o0 o1 o2 l).2.1.w, (allow_Roll.g o0 o1 o2 l).2.1.c, (allow_Roll.g o0 o1 o2 l).2.2.1.o, (allow_Roll.g o0 o1 o2 l).2.2.1.i, (allow_Roll.g o0 o1 o2 l).2.2.1.u, (allow_Roll.g o0 o1 o2 l).2.2.1.n, (allow_Roll.g o0 o1 o2 l).2.2.1.w, (allow_Roll.g o0 o1 o2 l).2.2.1.c, (allow_Roll.g o0 o1 o2 l).2.2.2)
theorem allow_Roll.calls (a0_0 : Int) (a0_1 : Int) (a0_2 : Int) (A1 : Option Addr) (c1 : Nat) (l1 : List (S64)) (r1 : Int) (r2 : Int) (r3 : Int) (r4 : Int) (r5 : Int) (r6 : Int) (r7 : Int) (r8 : Int) (r9 : Int) (r10 : Int) (r11 : Int) (r12 : Int) (r13 : Int) (r14 : Int) (r15 : Int) (r16 : Int) (r17 : Int) (r18 : Int) (r19 : Int) (w : World) (hr1 : Kd.C k64 w A1 l1.length l1) (hc1 : l1.length ≤ c1) (h : allow_Roll.f a0_0 a0_1 a0_2 l1 = some (r1, r2, r3, r4, r5, r6, r7, r8, r9, r10, r11, r12, r13, r14, r15, r16, r17, r18, r19)) :
    Calls Try.prog 15 #[.agg #[.int .i64 a0_0, .int .i64 a0_1, .int .i64 a0_2], .slice A1 l1.length c1] w fun e w' => e = .returned (.tuple #[.agg #[.int .i64 r1, .int .i64 r2, .int .i64 r3, .int .i64 r4, .int .i64 r5, .int .i64 r6, .int .i64 r7, .int .i64 r8, .int .i64 r9, .int .i64 r10, .int .i64 r11, .int .i64 r12, .int .i64 r13, .int .i64 r14, .int .i64 r15, .int .i64 r16, .int .i64 r17, .int .i64 r18], .int .i64 r19]) ∧ Below w.heap.size w w' := by
  have e_ := Option.some.inj h
  simp only [Prod.mk.injEq] at e_
  obtain ⟨rfl, rfl, rfl, rfl, rfl, rfl, rfl, rfl, rfl, rfl, rfl, rfl, rfl, rfl, rfl, rfl, rfl, rfl, rfl⟩ := e_
  exact allow_Roll.go_ A1 c1 l1 a0_0 a0_1 a0_2 w hr1 hc1


end Go.Proofs.Ytpcllhhbaockfaa.Print
