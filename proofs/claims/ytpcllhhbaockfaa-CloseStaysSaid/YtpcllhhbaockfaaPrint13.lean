-- written by this session's program wip/hybrid.py over the kit's printer, and by hand. Not trusted: Lean checks it.
import Derived.Test.YtpcllhhbaockfaaPrint0
import Derived.Test.YtpcllhhbaockfaaPrint1
import Derived.Test.YtpcllhhbaockfaaPrint4
import Derived.Test.YtpcllhhbaockfaaPrint9
import Derived.Test.YtpcllhhbaockfaaPrint12
namespace Go.Proofs.Ytpcllhhbaockfaa.Print
open Go.RowKit Go.Proofs.YtpcllhhbaockfaaW.PrintWords Go.Proofs.YtpcllhhbaockfaaW.PrintLast Go.Proofs.YtpcllhhbaockfaaW.PrintMore
attribute [local go_sem] max2_int min2_int max_two min_two max_three min_three max_four min_four   -- for this text's walks alone
set_option linter.unusedVariables false
set_option linter.unusedSimpArgs false

/-! ### close_Closer_with: function 17 -/
/-- What an event led to: outlay, interest, effects, received, written, recovered. -/
structure D6 where
  a : Int
  i : Int
  e : Int
  r : Int
  w : Int
  v : Int
def dcs (b0 b1 : Int) (lv : Value) (d : D6) (cv : Value) : Array Value := #[.int .i64 b0, .int .i64 b1, lv, .int .i64 d.a, .int .i64 d.i, .int .i64 d.e, .int .i64 d.r, .int .i64 d.w, .int .i64 d.v, cv]
def ccells (pv : Value) (x : Rep) (t : Int) (cv : Value) : Array Value := #[pv, .int .i64 x.p, .int .i64 x.o, .int .i64 x.a, .int .i64 x.i, .int .i64 x.e, .int .i64 x.r, .int .i64 x.w, .int .i64 x.c, .int .i64 x.s0.o, .int .i64 x.s0.i, .int .i64 x.s0.u, .int .i64 x.s0.n, .int .i64 x.s0.w, .int .i64 x.s0.c, .int .i64 x.s1.o, .int .i64 x.s1.i, .int .i64 x.s1.u, .int .i64 x.s1.n, .int .i64 x.s1.w, .int .i64 x.s1.c, .int .i64 x.s2.o, .int .i64 x.s2.i, .int .i64 x.s2.u, .int .i64 x.s2.n, .int .i64 x.s2.w, .int .i64 x.s2.c, .int .i64 x.v, .int .i64 t, cv]
theorem ccells_now (pv : Value) (x : Rep) (t : Int) (cv : Value) : ∀ j v, x.cs.toList[j]? = some v → (ccells pv x t cv)[1 + j]? = some v := by
  intro j v hj
  have hlt : j < 27 := (List.getElem?_eq_some_iff.1 hj).1
  rw [← hj]
  have : j = 0 ∨ j = 1 ∨ j = 2 ∨ j = 3 ∨ j = 4 ∨ j = 5 ∨ j = 6 ∨ j = 7 ∨ j = 8 ∨ j = 9 ∨ j = 10 ∨ j = 11 ∨ j = 12 ∨ j = 13 ∨ j = 14 ∨ j = 15 ∨ j = 16 ∨ j = 17 ∨ j = 18 ∨ j = 19 ∨ j = 20 ∨ j = 21 ∨ j = 22 ∨ j = 23 ∨ j = 24 ∨ j = 25 ∨ j = 26 := by omega
  rcases this with rfl | rfl | rfl | rfl | rfl | rfl | rfl | rfl | rfl | rfl | rfl | rfl | rfl | rfl | rfl | rfl | rfl | rfl | rfl | rfl | rfl | rfl | rfl | rfl | rfl | rfl | rfl <;> rfl
theorem now_st (pv : Value) (x : Rep) (t : Int) (cv : Value) {W : World} {g : Nat} {ty : TypeId} {fr : Nat × Nat} (h : W.heap[g]? = some (.cells (ccells pv x t cv) ty fr)) : ∀ j v, x.cs.toList[j]? = some v → W.cell? ((⟨g, 1, none⟩ : Addr).add j) = some v := by
  intro j v hj
  have hadd : (⟨g, 1, none⟩ : Addr).add j = ⟨g, 1 + j, none⟩ := by unfold Addr.add; split <;> simp_all
  rw [hadd, cell_of_row W g (1 + j) _ ty fr h]
  exact ccells_now pv x t cv j v hj
def inM (n : Int) : Prop := -1152921504606846976 ≤ n ∧ n ≤ 1152921504606846976
instance (n : Int) : Decidable (inM n) := by unfold inM; infer_instance
def in0 (n : Int) : Prop := 0 ≤ n ∧ n ≤ 1152921504606846976
instance (n : Int) : Decidable (in0 n) := by unfold in0; infer_instance
/-- k of the six are added. -/
def addI (x : Rep) (d : D6) : Nat → Rep
  | 0 => x
  | 1 => { x with a := wrap64 (x.a + d.a) }
  | 2 => { x with a := wrap64 (x.a + d.a), i := wrap64 (x.i + d.i) }
  | 3 => { x with a := wrap64 (x.a + d.a), i := wrap64 (x.i + d.i), e := wrap64 (x.e + d.e) }
  | 4 => { x with a := wrap64 (x.a + d.a), i := wrap64 (x.i + d.i), e := wrap64 (x.e + d.e), r := wrap64 (x.r + d.r) }
  | 5 => { x with a := wrap64 (x.a + d.a), i := wrap64 (x.i + d.i), e := wrap64 (x.e + d.e), r := wrap64 (x.r + d.r), w := wrap64 (x.w + d.w) }
  | _ => { x with a := wrap64 (x.a + d.a), i := wrap64 (x.i + d.i), e := wrap64 (x.e + d.e), r := wrap64 (x.r + d.r), w := wrap64 (x.w + d.w), v := wrap64 (x.v + d.v) }
def addF : Nat → Nat
  | 0 => 2
  | 1 => 3
  | 2 => 4
  | 3 => 5
  | 4 => 6
  | _ => 26
def addD (d : D6) : Nat → Int
  | 0 => d.a
  | 1 => d.i
  | 2 => d.e
  | 3 => d.r
  | 4 => d.w
  | _ => d.v
def addV (x : Rep) : Nat → Int
  | 0 => x.a
  | 1 => x.i
  | 2 => x.e
  | 3 => x.r
  | 4 => x.w
  | _ => x.v
def sumI (x : Rep) (d : D6) (k : Nat) : Int := wrap64 (addV x k + addD d k)
def clos (y : Rep) : Rep := { y with c := wrap64 (wrap64 (wrap64 (wrap64 (wrap64 (y.o + y.a) + y.i) + y.e) - y.r) - y.w) }
def setS (y : Rep) (a b c : Row6) : Rep := { y with s0 := a, s1 := b, s2 := c }
theorem setS_cs (y : Rep) (a b c : Row6) : (y.cs.toList.take 8 ++ (row18 a b c).toList ++ y.cs.toList.drop (8 + (row18 a b c).size)).toArray = (setS y a b c).cs := rfl
def allIn (x : Rep) (d : D6) : Prop := inM (sumI x d 0) ∧ inM (sumI x d 1) ∧ inM (sumI x d 2) ∧ inM (sumI x d 3) ∧ inM (sumI x d 4) ∧ inM (sumI x d 5)
instance (x : Rep) (d : D6) : Decidable (allIn x d) := by unfold allIn; infer_instance
theorem allIn_of {x : Rep} {d : D6} (h : ∀ k, k < 6 → inM (sumI x d k)) : allIn x d := ⟨h 0 (by omega), h 1 (by omega), h 2 (by omega), h 3 (by omega), h 4 (by omega), h 5 (by omega)⟩
theorem allIn_at {x : Rep} {d : D6} (h : allIn x d) {k : Nat} (hk : k < 6) : inM (sumI x d k) := by
  obtain ⟨h0, h1, h2, h3, h4, h5⟩ := h
  rcases (show k = 0 ∨ k = 1 ∨ k = 2 ∨ k = 3 ∨ k = 4 ∨ k = 5 by omega) with rfl | rfl | rfl | rfl | rfl | rfl <;> assumption
def withR (x : Rep) (d : D6) (ch : List S64) : Rep × Int :=
  if allIn x d then
    if (allow_Roll.g x.s0.o x.s1.o x.s2.o ch).2.2.2 = 0 ∧ inM (clos (addI x d 6)).c ∧ in0 (allow_Roll.g x.s0.o x.s1.o x.s2.o ch).1.c ∧ in0 (allow_Roll.g x.s0.o x.s1.o x.s2.o ch).2.1.c ∧ in0 (allow_Roll.g x.s0.o x.s1.o x.s2.o ch).2.2.1.c then
      (setS (clos (addI x d 6)) (allow_Roll.g x.s0.o x.s1.o x.s2.o ch).1 (allow_Roll.g x.s0.o x.s1.o x.s2.o ch).2.1 (allow_Roll.g x.s0.o x.s1.o x.s2.o ch).2.2.1, 0)
    else (Rep.z, 3)
  else (Rep.z, 3)
theorem add_cell (x : Rep) (d : D6) {k : Nat} (hk : k < 6) : (addI x d k).cs[addF k]? = some (.int .i64 (addV x k)) := by
  rcases (show k = 0 ∨ k = 1 ∨ k = 2 ∨ k = 3 ∨ k = 4 ∨ k = 5 by omega) with rfl | rfl | rfl | rfl | rfl | rfl <;> rfl
theorem add_next (x : Rep) (d : D6) {k : Nat} (hk : k < 6) : (addI x d k).cs.setIfInBounds (addF k) (.int .i64 (sumI x d k)) = (addI x d (k + 1)).cs := by
  rcases (show k = 0 ∨ k = 1 ∨ k = 2 ∨ k = 3 ∨ k = 4 ∨ k = 5 by omega) with rfl | rfl | rfl | rfl | rfl | rfl <;> rfl
theorem add_idx (g8 : Nat) (d : D6) {k : Nat} (hk : k < 6) (W : World) : (Instr.index 90 (.agg #[.pointer (some ⟨g8, 2, none⟩), .int .i64 d.a, .pointer (some ⟨g8, 3, none⟩), .int .i64 d.i, .pointer (some ⟨g8, 4, none⟩), .int .i64 d.e, .pointer (some ⟨g8, 5, none⟩), .int .i64 d.r, .pointer (some ⟨g8, 6, none⟩), .int .i64 d.w, .pointer (some ⟨g8, 26, none⟩), .int .i64 d.v]) (.int .i64 (k : Int))).run Try.prog W = .ok (.agg #[.pointer (some ⟨g8, addF k, none⟩), .int .i64 (addD d k)]) W := by
  rcases (show k = 0 ∨ k = 1 ∨ k = 2 ∨ k = 3 ∨ k = 4 ∨ k = 5 by omega) with rfl | rfl | rfl | rfl | rfl | rfl <;> kernel_rfl
theorem two_all (g f : Nat) (m : Int) : (#[Value.pointer (some ⟨g, f, none⟩), .int .i64 m] : Array Value).all (·.oneCell') = true := by kernel_rfl
theorem close_within.lit (lo hi : Int) (l : List Int) {b : Bool} (hb : decide (∀ x ∈ l, lo ≤ x ∧ x ≤ hi) = b) (hl : l.length ≤ 1000) {n : Nat} (hn : n = l.length) {g : Nat} {W : World} {cs : Array Value} (hg : W.heap[g]? = some (.cells cs 2 (0, 0))) (hcs : cs = (nums .i64 l).toArray) :
    Calls Try.prog 14 #[.int .i64 lo, .int .i64 hi, .slice (some ⟨g, 0, none⟩) n n] W fun e w' => e = .returned (.bool b) ∧ Below W.heap.size W w' := by
  subst hn hcs
  exact close_within.calls (c := l.length) lo hi (C_lit64 l hg rfl (by omega)) hb
theorem roll_op (x : Rep) {A : Option Addr} {c : Nat} {l : List S64} {w : World} (hr : Kd.C k64 w A l.length l) (hc : l.length ≤ c) {q : Row6 × Row6 × Row6 × Int} (hq : allow_Roll.g x.s0.o x.s1.o x.s2.o l = q) :
    Calls Try.prog 15 #[.agg x.op, .slice A l.length c] w fun e w' => e = .returned (.tuple #[.agg (row18 q.1 q.2.1 q.2.2.1), .int .i64 q.2.2.2]) ∧ Below w.heap.size w w' := by
  subst hq
  exact allow_Roll.go_ A c l x.s0.o x.s1.o x.s2.o w hr hc
theorem add_s (x : Rep) (d : D6) (k : Nat) : (addI x d k).s0 = x.s0 ∧ (addI x d k).s1 = x.s1 ∧ (addI x d k).s2 = x.s2 := by
  unfold addI
  split <;> exact ⟨rfl, rfl, rfl⟩
set_option maxHeartbeats 16000000 in
set_option maxRecDepth 100000 in
theorem close_Closer_with.calls (x : Rep) (d : D6) {pv cv lv dv : Value} {t b0 b1 : Int} {w : World} {p : Nat} (hp : w.heap[p]? = some (.cells (ccells pv x t cv) 57 (0, 0))) {A : Option Addr} {c : Nat} {ch : List S64} (hC : Kd.C k64 w A ch.length ch) (hc : ch.length ≤ c) {q : Rep × Int} (hq : withR x d ch = q) :
    Calls Try.prog 17 #[.pointer (some ⟨p, 0, none⟩), .agg (dcs b0 b1 lv d dv), .slice A ch.length c] w fun e w' => e = .returned (.tuple #[.agg q.1.cs, .int .i64 q.2]) ∧ Below w.heap.size w w' := by
  have s1 : (w.alloc (.cells (dcs b0 b1 lv d dv) 51)).heap.size = w.heap.size + 1 := by simp
  have hb := below_alloc (below_alloc (Below.refl w.heap.size w) (.cells (dcs b0 b1 lv d dv) 51)) (.cells Rep.z.cs 41)
  have k0 := blk_alloc (blk_new w (.cells (dcs b0 b1 lv d dv) 51)) (.cells Rep.z.cs 41)
  have k1 := blk_new (w.alloc (.cells (dcs b0 b1 lv d dv) 51)) (.cells Rep.z.cs 41)
  rw [s1] at k1
  have HB := Aside0.mk hb
  have H4 := Aside0.mk k0
  have H6 := Aside0.mk k1
  have HP := Aside0.mk (blk_below hp hb)
  have HC := Aside0.mk hC
  replace hq := Aside0.mk hq
  clear s1 hb k0 k1 hp hC
  go_enter Try.func17, Try.ntmps17
  go_upto_region 1 with fail
  change Code.wp _ _ _ _ ((w.alloc (.cells (dcs b0 b1 lv d dv) 51)).alloc (.cells Rep.z.cs 41))
  obtain ⟨g4, hg4⟩ : ∃ g, g = w.heap.size := ⟨_, rfl⟩
  obtain ⟨g6, hg6⟩ : ∃ g, g = w.heap.size + 1 := ⟨_, rfl⟩
  rw [← hg4] at H4
  rw [← hg6] at H6
  generalize (w.alloc (.cells (dcs b0 b1 lv d dv) 51)).alloc (.cells Rep.z.cs 41) = w1 at HB H4 H6 HP ⊢
  rw [← hg6, ← hg4]
  have hlt1 := Aside0.mk (blk_lt H6.out)
  have ge6 := Aside0.mk (show w.heap.size ≤ g6 by omega)
  clear hg4 hg6
  go_wp2_with (first | ((with_reducible refine gate_dst (N := 17) rfl ?_); refine wpl_value rfl (load_run_at 41 (.tmp 16) rfl ⟨p, 1, none⟩ rfl x.cs.toList _ (now_st _ x _ _ HP.out) Try.underlying41 rfl (by kernel_rfl)) ?_) | ((with_reducible refine gate_store (t := 41) (p := 8) (v := .tmp 17) rfl ?_); refine Shut.out ?_))
  unfold Shut
  change wpList _ _ _ _ _ (w1.alloc (.cells Rep.z.cs 41))
  obtain ⟨hnb, hnk⟩ := newbk w1 Rep.z.cs x.cs 41
  refine store_rowTo rfl 41 (.tmp 8) (.tmp 17) rfl rfl w1.heap.size x.cs rfl rfl 41 _ (blk_new w1 _) (by kernel_rfl) rfl (Rep.all x) ?_
  have HB' := Aside0.mk (below_step HB.out hnb)
  have H4' := Aside0.mk (blk_below H4.out hnb)
  have H6' := Aside0.mk (blk_below H6.out hnb)
  have H8 := Aside0.mk hnk
  have ge8 := Aside0.mk HB.out.size
  have ne68 := Aside0.mk (show g6 ≠ w1.heap.size from Nat.ne_of_lt hlt1.out)
  clear HB H4 H6 HP hnb hnk hlt1
  generalize (w1.alloc (.cells Rep.z.cs 41)).setRow w1.heap.size x.cs = w2 at HB' H4' H6' H8 ⊢
  generalize w1.heap.size = g8 at H8 ge8 ne68 ⊢
  have HB := HB'
  have H4 := H4'
  have H6 := H6'
  clear HB' H4' H6'
  go_wp2_with fail
  have n_HB := Aside0.mk (below_step HB.out (below_drew (Below.refl _ _)))
  have n_H4 := Aside0.mk (blk_below H4.out (below_drew (Below.refl _ _)))
  have n_H6 := Aside0.mk (blk_below H6.out (below_drew (Below.refl _ _)))
  have n_H8 := Aside0.mk (blk_below H8.out (below_drew (Below.refl _ _)))
  clear HB
  have HB := n_HB
  clear n_HB
  clear H4
  have H4 := n_H4
  clear n_H4
  clear H6
  have H6 := n_H6
  clear n_H6
  clear H8
  have H8 := n_H8
  clear n_H8
  refine start_ (n := 36) (S := fun w' => w'.cell? ⟨g4, 3, none⟩ = some (.int .i64 d.a) ∧ w'.cell? ⟨g4, 4, none⟩ = some (.int .i64 d.i) ∧ w'.cell? ⟨g4, 5, none⟩ = some (.int .i64 d.e) ∧ w'.cell? ⟨g4, 6, none⟩ = some (.int .i64 d.r) ∧ w'.cell? ⟨g4, 7, none⟩ = some (.int .i64 d.w) ∧ w'.cell? ⟨g4, 8, none⟩ = some (.int .i64 d.v)) (ds := []) #[false, false, false, false, false, false, false, false, false, false, false, false, false, false, false, false, false, false, false, false, false, false, false, false, false, false, false, false, false, false, false, false, false, false, false, false] (by kernel_rfl) rfl rfl ⟨(blk_cell H4.out 3).trans rfl, (blk_cell H4.out 4).trans rfl, (blk_cell H4.out 5).trans rfl, (blk_cell H4.out 6).trans rfl, (blk_cell H4.out 7).trans rfl, (blk_cell H4.out 8).trans rfl⟩ (fun hHeld => ?_)
  generalize w2.drew = w3 at HB H4 H6 H8 hHeld ⊢
  refine pure_ (i := 0) (N := some 19) (v := ?_) (a' := ?_) #[true, false, false, false, false, false, false, false, false, false, false, false, false, false, false, false, false, false, false, false, false, false, false, false, false, false, false, false, false, false, false, false, false, false, false, false] rfl rfl (by kernel_rfl) (fun _ _ _ h => h) (Or.inl ⟨by rfl, ?_⟩) ?_ ?_
  rotate_left
  · intro w'
    go_simp
    with_reducible rfl
  rotate_left
  · simp only [Act.put, List.setIfInBounds_toArray, List.set_cons_zero, List.set_cons_succ, i64_w, i32_w]
    rfl
  refine pure_ (i := 1) (N := some 20) (v := ?_) (a' := ?_) #[true, true, false, false, false, false, false, false, false, false, false, false, false, false, false, false, false, false, false, false, false, false, false, false, false, false, false, false, false, false, false, false, false, false, false, false] rfl rfl (by kernel_rfl) (fun _ _ _ h => h) (Or.inl ⟨by rfl, ?_⟩) ?_ ?_
  rotate_left
  · intro w'
    go_simp
    with_reducible rfl
  rotate_left
  · simp only [Act.put, List.setIfInBounds_toArray, List.set_cons_zero, List.set_cons_succ, i64_w, i32_w]
    rfl
  refine pure_ (i := 2) (N := some 21) (v := ?_) (a' := ?_) #[true, true, true, false, false, false, false, false, false, false, false, false, false, false, false, false, false, false, false, false, false, false, false, false, false, false, false, false, false, false, false, false, false, false, false, false] rfl rfl (by kernel_rfl) (fun _ _ _ h => h) (Or.inl ⟨by rfl, ?_⟩) ?_ ?_
  rotate_left
  · intro w'
    go_simp
    with_reducible rfl
  rotate_left
  · simp only [Act.put, List.setIfInBounds_toArray, List.set_cons_zero, List.set_cons_succ, i64_w, i32_w]
    rfl
  refine pure_ (i := 3) (N := some 22) (v := ?_) (a' := ?_) #[true, true, true, true, false, false, false, false, false, false, false, false, false, false, false, false, false, false, false, false, false, false, false, false, false, false, false, false, false, false, false, false, false, false, false, false] rfl rfl (by kernel_rfl) (fun _ _ _ h => h) (Or.inl ⟨by rfl, ?_⟩) ?_ ?_
  rotate_left
  · intro w'
    go_simp
    with_reducible rfl
  rotate_left
  · simp only [Act.put, List.setIfInBounds_toArray, List.set_cons_zero, List.set_cons_succ, i64_w, i32_w]
    rfl
  refine pure_ (i := 6) (N := some 25) (v := ?_) (a' := ?_) #[true, true, true, true, false, false, true, false, false, false, false, false, false, false, false, false, false, false, false, false, false, false, false, false, false, false, false, false, false, false, false, false, false, false, false, false] rfl rfl (by kernel_rfl) (fun _ _ _ h => h) (Or.inl ⟨by rfl, ?_⟩) ?_ ?_
  rotate_left
  · intro w'
    go_simp
    with_reducible rfl
  rotate_left
  · simp only [Act.put, List.setIfInBounds_toArray, List.set_cons_zero, List.set_cons_succ, i64_w, i32_w]
    rfl
  refine pure_ (i := 7) (N := some 26) (v := ?_) (a' := ?_) #[true, true, true, true, false, false, true, true, false, false, false, false, false, false, false, false, false, false, false, false, false, false, false, false, false, false, false, false, false, false, false, false, false, false, false, false] rfl rfl (by kernel_rfl) (fun _ _ _ h => h) (Or.inl ⟨by rfl, ?_⟩) ?_ ?_
  rotate_left
  · intro w'
    go_simp
    with_reducible rfl
  rotate_left
  · simp only [Act.put, List.setIfInBounds_toArray, List.set_cons_zero, List.set_cons_succ, i64_w, i32_w]
    rfl
  refine pure_ (i := 8) (N := some 27) (v := ?_) (a' := ?_) #[true, true, true, true, false, false, true, true, true, false, false, false, false, false, false, false, false, false, false, false, false, false, false, false, false, false, false, false, false, false, false, false, false, false, false, false] rfl rfl (by kernel_rfl) (fun _ _ _ h => h) (Or.inl ⟨by rfl, ?_⟩) ?_ ?_
  rotate_left
  · intro w'
    go_simp
    with_reducible rfl
  rotate_left
  · simp only [Act.put, List.setIfInBounds_toArray, List.set_cons_zero, List.set_cons_succ, i64_w, i32_w]
    rfl
  refine pure_ (i := 9) (N := some 28) (v := ?_) (a' := ?_) #[true, true, true, true, false, false, true, true, true, true, false, false, false, false, false, false, false, false, false, false, false, false, false, false, false, false, false, false, false, false, false, false, false, false, false, false] rfl rfl (by kernel_rfl) (fun _ _ _ h => h) (Or.inl ⟨by rfl, ?_⟩) ?_ ?_
  rotate_left
  · intro w'
    go_simp
    with_reducible rfl
  rotate_left
  · simp only [Act.put, List.setIfInBounds_toArray, List.set_cons_zero, List.set_cons_succ, i64_w, i32_w]
    rfl
  refine pure_ (i := 12) (N := some 31) (v := ?_) (a' := ?_) #[true, true, true, true, false, false, true, true, true, true, false, false, true, false, false, false, false, false, false, false, false, false, false, false, false, false, false, false, false, false, false, false, false, false, false, false] rfl rfl (by kernel_rfl) (fun _ _ _ h => h) (Or.inl ⟨by rfl, ?_⟩) ?_ ?_
  rotate_left
  · intro w'
    go_simp
    with_reducible rfl
  rotate_left
  · simp only [Act.put, List.setIfInBounds_toArray, List.set_cons_zero, List.set_cons_succ, i64_w, i32_w]
    rfl
  refine pure_ (i := 13) (N := some 32) (v := ?_) (a' := ?_) #[true, true, true, true, false, false, true, true, true, true, false, false, true, true, false, false, false, false, false, false, false, false, false, false, false, false, false, false, false, false, false, false, false, false, false, false] rfl rfl (by kernel_rfl) (fun _ _ _ h => h) (Or.inl ⟨by rfl, ?_⟩) ?_ ?_
  rotate_left
  · intro w'
    go_simp
    with_reducible rfl
  rotate_left
  · simp only [Act.put, List.setIfInBounds_toArray, List.set_cons_zero, List.set_cons_succ, i64_w, i32_w]
    rfl
  refine pure_ (i := 14) (N := some 33) (v := ?_) (a' := ?_) #[true, true, true, true, false, false, true, true, true, true, false, false, true, true, true, false, false, false, false, false, false, false, false, false, false, false, false, false, false, false, false, false, false, false, false, false] rfl rfl (by kernel_rfl) (fun _ _ _ h => h) (Or.inl ⟨by rfl, ?_⟩) ?_ ?_
  rotate_left
  · intro w'
    go_simp
    with_reducible rfl
  rotate_left
  · simp only [Act.put, List.setIfInBounds_toArray, List.set_cons_zero, List.set_cons_succ, i64_w, i32_w]
    rfl
  refine pure_ (i := 15) (N := some 34) (v := ?_) (a' := ?_) #[true, true, true, true, false, false, true, true, true, true, false, false, true, true, true, true, false, false, false, false, false, false, false, false, false, false, false, false, false, false, false, false, false, false, false, false] rfl rfl (by kernel_rfl) (fun _ _ _ h => h) (Or.inl ⟨by rfl, ?_⟩) ?_ ?_
  rotate_left
  · intro w'
    go_simp
    with_reducible rfl
  rotate_left
  · simp only [Act.put, List.setIfInBounds_toArray, List.set_cons_zero, List.set_cons_succ, i64_w, i32_w]
    rfl
  refine pure_ (i := 18) (N := some 37) (v := ?_) (a' := ?_) #[true, true, true, true, false, false, true, true, true, true, false, false, true, true, true, true, false, false, true, false, false, false, false, false, false, false, false, false, false, false, false, false, false, false, false, false] rfl rfl (by kernel_rfl) (fun _ _ _ h => h) (Or.inl ⟨by rfl, ?_⟩) ?_ ?_
  rotate_left
  · intro w'
    go_simp
    with_reducible rfl
  rotate_left
  · simp only [Act.put, List.setIfInBounds_toArray, List.set_cons_zero, List.set_cons_succ, i64_w, i32_w]
    rfl
  refine pure_ (i := 19) (N := some 38) (v := ?_) (a' := ?_) #[true, true, true, true, false, false, true, true, true, true, false, false, true, true, true, true, false, false, true, true, false, false, false, false, false, false, false, false, false, false, false, false, false, false, false, false] rfl rfl (by kernel_rfl) (fun _ _ _ h => h) (Or.inl ⟨by rfl, ?_⟩) ?_ ?_
  rotate_left
  · intro w'
    go_simp
    with_reducible rfl
  rotate_left
  · simp only [Act.put, List.setIfInBounds_toArray, List.set_cons_zero, List.set_cons_succ, i64_w, i32_w]
    rfl
  refine pure_ (i := 20) (N := some 39) (v := ?_) (a' := ?_) #[true, true, true, true, false, false, true, true, true, true, false, false, true, true, true, true, false, false, true, true, true, false, false, false, false, false, false, false, false, false, false, false, false, false, false, false] rfl rfl (by kernel_rfl) (fun _ _ _ h => h) (Or.inl ⟨by rfl, ?_⟩) ?_ ?_
  rotate_left
  · intro w'
    go_simp
    with_reducible rfl
  rotate_left
  · simp only [Act.put, List.setIfInBounds_toArray, List.set_cons_zero, List.set_cons_succ, i64_w, i32_w]
    rfl
  refine pure_ (i := 21) (N := some 40) (v := ?_) (a' := ?_) #[true, true, true, true, false, false, true, true, true, true, false, false, true, true, true, true, false, false, true, true, true, true, false, false, false, false, false, false, false, false, false, false, false, false, false, false] rfl rfl (by kernel_rfl) (fun _ _ _ h => h) (Or.inl ⟨by rfl, ?_⟩) ?_ ?_
  rotate_left
  · intro w'
    go_simp
    with_reducible rfl
  rotate_left
  · simp only [Act.put, List.setIfInBounds_toArray, List.set_cons_zero, List.set_cons_succ, i64_w, i32_w]
    rfl
  refine pure_ (i := 24) (N := some 43) (v := ?_) (a' := ?_) #[true, true, true, true, false, false, true, true, true, true, false, false, true, true, true, true, false, false, true, true, true, true, false, false, true, false, false, false, false, false, false, false, false, false, false, false] rfl rfl (by kernel_rfl) (fun _ _ _ h => h) (Or.inl ⟨by rfl, ?_⟩) ?_ ?_
  rotate_left
  · intro w'
    go_simp
    with_reducible rfl
  rotate_left
  · simp only [Act.put, List.setIfInBounds_toArray, List.set_cons_zero, List.set_cons_succ, i64_w, i32_w]
    rfl
  refine pure_ (i := 25) (N := some 44) (v := ?_) (a' := ?_) #[true, true, true, true, false, false, true, true, true, true, false, false, true, true, true, true, false, false, true, true, true, true, false, false, true, true, false, false, false, false, false, false, false, false, false, false] rfl rfl (by kernel_rfl) (fun _ _ _ h => h) (Or.inl ⟨by rfl, ?_⟩) ?_ ?_
  rotate_left
  · intro w'
    go_simp
    with_reducible rfl
  rotate_left
  · simp only [Act.put, List.setIfInBounds_toArray, List.set_cons_zero, List.set_cons_succ, i64_w, i32_w]
    rfl
  refine pure_ (i := 26) (N := some 45) (v := ?_) (a' := ?_) #[true, true, true, true, false, false, true, true, true, true, false, false, true, true, true, true, false, false, true, true, true, true, false, false, true, true, true, false, false, false, false, false, false, false, false, false] rfl rfl (by kernel_rfl) (fun _ _ _ h => h) (Or.inl ⟨by rfl, ?_⟩) ?_ ?_
  rotate_left
  · intro w'
    go_simp
    with_reducible rfl
  rotate_left
  · simp only [Act.put, List.setIfInBounds_toArray, List.set_cons_zero, List.set_cons_succ, i64_w, i32_w]
    rfl
  refine pure_ (i := 27) (N := some 46) (v := ?_) (a' := ?_) #[true, true, true, true, false, false, true, true, true, true, false, false, true, true, true, true, false, false, true, true, true, true, false, false, true, true, true, true, false, false, false, false, false, false, false, false] rfl rfl (by kernel_rfl) (fun _ _ _ h => h) (Or.inl ⟨by rfl, ?_⟩) ?_ ?_
  rotate_left
  · intro w'
    go_simp
    with_reducible rfl
  rotate_left
  · simp only [Act.put, List.setIfInBounds_toArray, List.set_cons_zero, List.set_cons_succ, i64_w, i32_w]
    rfl
  refine pure_ (i := 30) (N := some 49) (v := ?_) (a' := ?_) #[true, true, true, true, false, false, true, true, true, true, false, false, true, true, true, true, false, false, true, true, true, true, false, false, true, true, true, true, false, false, true, false, false, false, false, false] rfl rfl (by kernel_rfl) (fun _ _ _ h => h) (Or.inl ⟨by rfl, ?_⟩) ?_ ?_
  rotate_left
  · intro w'
    go_simp
    with_reducible rfl
  rotate_left
  · simp only [Act.put, List.setIfInBounds_toArray, List.set_cons_zero, List.set_cons_succ, i64_w, i32_w]
    rfl
  refine pure_ (i := 31) (N := some 50) (v := ?_) (a' := ?_) #[true, true, true, true, false, false, true, true, true, true, false, false, true, true, true, true, false, false, true, true, true, true, false, false, true, true, true, true, false, false, true, true, false, false, false, false] rfl rfl (by kernel_rfl) (fun _ _ _ h => h) (Or.inl ⟨by rfl, ?_⟩) ?_ ?_
  rotate_left
  · intro w'
    go_simp
    with_reducible rfl
  rotate_left
  · simp only [Act.put, List.setIfInBounds_toArray, List.set_cons_zero, List.set_cons_succ, i64_w, i32_w]
    rfl
  refine pure_ (i := 35) (N := some 54) (v := ?_) (a' := ?_) #[true, true, true, true, false, false, true, true, true, true, false, false, true, true, true, true, false, false, true, true, true, true, false, false, true, true, true, true, false, false, true, true, false, false, false, true] rfl rfl (by kernel_rfl) (fun _ _ _ h => h) (Or.inl ⟨by rfl, ?_⟩) ?_ ?_
  rotate_left
  · intro w'
    go_simp
    with_reducible rfl
  rotate_left
  · simp only [Act.put, List.setIfInBounds_toArray, List.set_cons_zero, List.set_cons_succ, i64_w, i32_w]
    rfl
  refine take_ (i := 4) (N := some 23) (v := ?_) (a' := ?_) #[true, true, true, true, true, false, true, true, true, true, false, false, true, true, true, true, false, false, true, true, true, true, false, false, true, true, true, true, false, false, true, true, false, false, false, true] rfl rfl (by kernel_rfl) (fun _ _ _ h => h) (Or.inl ⟨by rfl, ?_⟩) hHeld ?_ ?_
  rotate_left
  · rintro w' ⟨s0, s1, s2, s3, s4, s5⟩
    go_simp
    with_reducible rfl
  rotate_left
  · simp only [Act.put, List.setIfInBounds_toArray, List.set_cons_zero, List.set_cons_succ, i64_w, i32_w]
    rfl
  refine pure_ (i := 5) (N := some 24) (v := ?_) (a' := ?_) #[true, true, true, true, true, true, true, true, true, true, false, false, true, true, true, true, false, false, true, true, true, true, false, false, true, true, true, true, false, false, true, true, false, false, false, true] rfl rfl (by kernel_rfl) (fun _ _ _ h => h) (Or.inl ⟨by rfl, ?_⟩) ?_ ?_
  rotate_left
  · intro w'
    go_simp
    with_reducible rfl
  rotate_left
  · simp only [Act.put, List.setIfInBounds_toArray, List.set_cons_zero, List.set_cons_succ, i64_w, i32_w]
    rfl
  refine take_ (i := 10) (N := some 29) (v := ?_) (a' := ?_) #[true, true, true, true, true, true, true, true, true, true, true, false, true, true, true, true, false, false, true, true, true, true, false, false, true, true, true, true, false, false, true, true, false, false, false, true] rfl rfl (by kernel_rfl) (fun _ _ _ h => h) (Or.inl ⟨by rfl, ?_⟩) hHeld ?_ ?_
  rotate_left
  · rintro w' ⟨s0, s1, s2, s3, s4, s5⟩
    go_simp
    with_reducible rfl
  rotate_left
  · simp only [Act.put, List.setIfInBounds_toArray, List.set_cons_zero, List.set_cons_succ, i64_w, i32_w]
    rfl
  refine pure_ (i := 11) (N := some 30) (v := ?_) (a' := ?_) #[true, true, true, true, true, true, true, true, true, true, true, true, true, true, true, true, false, false, true, true, true, true, false, false, true, true, true, true, false, false, true, true, false, false, false, true] rfl rfl (by kernel_rfl) (fun _ _ _ h => h) (Or.inl ⟨by rfl, ?_⟩) ?_ ?_
  rotate_left
  · intro w'
    go_simp
    with_reducible rfl
  rotate_left
  · simp only [Act.put, List.setIfInBounds_toArray, List.set_cons_zero, List.set_cons_succ, i64_w, i32_w]
    rfl
  refine take_ (i := 16) (N := some 35) (v := ?_) (a' := ?_) #[true, true, true, true, true, true, true, true, true, true, true, true, true, true, true, true, true, false, true, true, true, true, false, false, true, true, true, true, false, false, true, true, false, false, false, true] rfl rfl (by kernel_rfl) (fun _ _ _ h => h) (Or.inl ⟨by rfl, ?_⟩) hHeld ?_ ?_
  rotate_left
  · rintro w' ⟨s0, s1, s2, s3, s4, s5⟩
    go_simp
    with_reducible rfl
  rotate_left
  · simp only [Act.put, List.setIfInBounds_toArray, List.set_cons_zero, List.set_cons_succ, i64_w, i32_w]
    rfl
  refine pure_ (i := 17) (N := some 36) (v := ?_) (a' := ?_) #[true, true, true, true, true, true, true, true, true, true, true, true, true, true, true, true, true, true, true, true, true, true, false, false, true, true, true, true, false, false, true, true, false, false, false, true] rfl rfl (by kernel_rfl) (fun _ _ _ h => h) (Or.inl ⟨by rfl, ?_⟩) ?_ ?_
  rotate_left
  · intro w'
    go_simp
    with_reducible rfl
  rotate_left
  · simp only [Act.put, List.setIfInBounds_toArray, List.set_cons_zero, List.set_cons_succ, i64_w, i32_w]
    rfl
  refine take_ (i := 22) (N := some 41) (v := ?_) (a' := ?_) #[true, true, true, true, true, true, true, true, true, true, true, true, true, true, true, true, true, true, true, true, true, true, true, false, true, true, true, true, false, false, true, true, false, false, false, true] rfl rfl (by kernel_rfl) (fun _ _ _ h => h) (Or.inl ⟨by rfl, ?_⟩) hHeld ?_ ?_
  rotate_left
  · rintro w' ⟨s0, s1, s2, s3, s4, s5⟩
    go_simp
    with_reducible rfl
  rotate_left
  · simp only [Act.put, List.setIfInBounds_toArray, List.set_cons_zero, List.set_cons_succ, i64_w, i32_w]
    rfl
  refine pure_ (i := 23) (N := some 42) (v := ?_) (a' := ?_) #[true, true, true, true, true, true, true, true, true, true, true, true, true, true, true, true, true, true, true, true, true, true, true, true, true, true, true, true, false, false, true, true, false, false, false, true] rfl rfl (by kernel_rfl) (fun _ _ _ h => h) (Or.inl ⟨by rfl, ?_⟩) ?_ ?_
  rotate_left
  · intro w'
    go_simp
    with_reducible rfl
  rotate_left
  · simp only [Act.put, List.setIfInBounds_toArray, List.set_cons_zero, List.set_cons_succ, i64_w, i32_w]
    rfl
  refine take_ (i := 28) (N := some 47) (v := ?_) (a' := ?_) #[true, true, true, true, true, true, true, true, true, true, true, true, true, true, true, true, true, true, true, true, true, true, true, true, true, true, true, true, true, false, true, true, false, false, false, true] rfl rfl (by kernel_rfl) (fun _ _ _ h => h) (Or.inl ⟨by rfl, ?_⟩) hHeld ?_ ?_
  rotate_left
  · rintro w' ⟨s0, s1, s2, s3, s4, s5⟩
    go_simp
    with_reducible rfl
  rotate_left
  · simp only [Act.put, List.setIfInBounds_toArray, List.set_cons_zero, List.set_cons_succ, i64_w, i32_w]
    rfl
  refine pure_ (i := 29) (N := some 48) (v := ?_) (a' := ?_) #[true, true, true, true, true, true, true, true, true, true, true, true, true, true, true, true, true, true, true, true, true, true, true, true, true, true, true, true, true, true, true, true, false, false, false, true] rfl rfl (by kernel_rfl) (fun _ _ _ h => h) (Or.inl ⟨by rfl, ?_⟩) ?_ ?_
  rotate_left
  · intro w'
    go_simp
    with_reducible rfl
  rotate_left
  · simp only [Act.put, List.setIfInBounds_toArray, List.set_cons_zero, List.set_cons_succ, i64_w, i32_w]
    rfl
  refine take_ (i := 32) (N := some 51) (v := ?_) (a' := ?_) #[true, true, true, true, true, true, true, true, true, true, true, true, true, true, true, true, true, true, true, true, true, true, true, true, true, true, true, true, true, true, true, true, true, false, false, true] rfl rfl (by kernel_rfl) (fun _ _ _ h => h) (Or.inl ⟨by rfl, ?_⟩) hHeld ?_ ?_
  rotate_left
  · rintro w' ⟨s0, s1, s2, s3, s4, s5⟩
    go_simp
    with_reducible rfl
  rotate_left
  · simp only [Act.put, List.setIfInBounds_toArray, List.set_cons_zero, List.set_cons_succ, i64_w, i32_w]
    rfl
  refine pure_ (i := 33) (N := some 52) (v := ?_) (a' := ?_) #[true, true, true, true, true, true, true, true, true, true, true, true, true, true, true, true, true, true, true, true, true, true, true, true, true, true, true, true, true, true, true, true, true, true, false, true] rfl rfl (by kernel_rfl) (fun _ _ _ h => h) (Or.inl ⟨by rfl, ?_⟩) ?_ ?_
  rotate_left
  · intro w'
    go_simp
    with_reducible rfl
  rotate_left
  · simp only [Act.put, List.setIfInBounds_toArray, List.set_cons_zero, List.set_cons_succ, i64_w, i32_w]
    rfl
  refine pure_ (i := 34) (N := some 53) (v := ?_) (a' := ?_) #[true, true, true, true, true, true, true, true, true, true, true, true, true, true, true, true, true, true, true, true, true, true, true, true, true, true, true, true, true, true, true, true, true, true, true, true] rfl rfl (by kernel_rfl) (fun _ _ _ h => h) (Or.inl ⟨by rfl, ?_⟩) ?_ ?_
  rotate_left
  · intro w'
    go_simp
    with_reducible rfl
  rotate_left
  · simp only [Act.put, List.setIfInBounds_toArray, List.set_cons_zero, List.set_cons_succ, i64_w, i32_w]
    rfl
  refine done_ (by kernel_rfl) ?_
  clear hHeld H4
  obtain ⟨AA, hAA⟩ : ∃ AA : Array Value, AA = #[.pointer (some ⟨g8, 2, none⟩), .int .i64 d.a, .pointer (some ⟨g8, 3, none⟩), .int .i64 d.i, .pointer (some ⟨g8, 4, none⟩), .int .i64 d.e, .pointer (some ⟨g8, 5, none⟩), .int .i64 d.r, .pointer (some ⟨g8, 6, none⟩), .int .i64 d.w, .pointer (some ⟨g8, 26, none⟩), .int .i64 d.v] := ⟨_, rfl⟩
  have hidx := Aside0.mk (fun k (hk : k < 6) W => add_idx g8 d (k := k) hk W)
  rw [← hAA] at hidx ⊢
  clear hAA
  go_wp2_with fail
  go_loopw [54] (fun u wr => ∃ k : Nat, k ≤ 6 ∧ u = .int .i64 k ∧ Aside0 (Below w.heap.size w wr) ∧ Aside0 (wr.heap[g6]? = some (.cells Rep.z.cs 41 (0, 0))) ∧ Aside0 (wr.heap[g8]? = some (.cells (addI x d k).cs 41 (0, 0))) ∧ Aside0 (∀ j, j < k → inM (sumI x d j))) (fun u _ => 6 - (intOf u).toNat)
  case atStart => exact ⟨0, by omega, rfl, HB, H6, H8, ⟨fun j hj => by omega⟩⟩
  case round =>
    clear HB H6 H8
    obtain ⟨k, hk, rfl, HB, H6, H8, HI⟩ := hrel
    by_cases hk6 : k < 6
    case pos =>
      have hix := fun W => hidx.out k hk6 W
      have hv := add_cell x d hk6
      have hnx := Aside0.mk (add_next x d hk6)
      have hsm := Aside0.mk (show wrap64 (addV x k + addD d k) = sumI x d k from rfl)
      have hlt8 := Aside0.mk (show addF k < 27 by rcases (show k = 0 ∨ k = 1 ∨ k = 2 ∨ k = 3 ∨ k = 4 ∨ k = 5 by omega) with rfl | rfl | rfl | rfl | rfl | rfl <;> decide)
      generalize addF k = f at hix hv hnx hlt8
      generalize addD d k = m at hix hsm
      generalize addV x k = vv at hv hsm
      obtain ⟨y, hy⟩ : ∃ y, y = addI x d k := ⟨_, rfl⟩
      rw [← hy] at hv hnx H8
      obtain ⟨sm, hss⟩ : ∃ sm, sm = sumI x d k := ⟨_, rfl⟩
      rw [← hss] at hnx hsm
      replace hv := Aside0.mk hv
      replace hss := Aside0.mk hss
      clear hy
      go_wp2_with ((with_reducible refine gate_store (t := 89) (p := 11) (v := .tmp 56) rfl ?_); refine Shut.out ?_)
      unfold Shut
      change wpList _ _ _ _ _ (wr.alloc (.cells #[.pointer none, .int .i64 0] 89))
      obtain ⟨hnb, hnk⟩ := newbk wr #[.pointer none, .int .i64 0] #[.pointer (some ⟨g8, f, none⟩), .int .i64 m] 89
      refine store_rowTo rfl 89 (.tmp 11) (.tmp 56) rfl rfl wr.heap.size #[.pointer (some ⟨g8, f, none⟩), .int .i64 m] rfl rfl 89 _ (blk_new wr _) (by kernel_rfl) rfl (two_all _ _ _) ?_
      have HB' := Aside0.mk (below_step HB.out hnb)
      have H6' := Aside0.mk (blk_below H6.out hnb)
      have H8' := Aside0.mk (blk_below H8.out hnb)
      have H11 := Aside0.mk hnk
      clear HB H6 H8 hnb hnk hix
      generalize (wr.alloc (.cells #[.pointer none, .int .i64 0] 89)).setRow wr.heap.size #[.pointer (some ⟨g8, f, none⟩), .int .i64 m] = w4 at HB' H6' H8' H11 ⊢
      generalize wr.heap.size = g11 at H11 ⊢
      have HB := HB'
      have H6 := H6'
      have H8 := H8'
      clear HB' H6' H8'
      go_wp2_with fail
      have n_HB := Aside0.mk (below_step HB.out (below_drew (Below.refl _ _)))
      have n_H6 := Aside0.mk (blk_below H6.out (below_drew (Below.refl _ _)))
      have n_H8 := Aside0.mk (blk_below H8.out (below_drew (Below.refl _ _)))
      have n_H11 := Aside0.mk (blk_below H11.out (below_drew (Below.refl _ _)))
      clear HB
      have HB := n_HB
      clear n_HB
      clear H6
      have H6 := n_H6
      clear n_H6
      clear H8
      have H8 := n_H8
      clear n_H8
      clear H11
      have H11 := n_H11
      clear n_H11
      refine start_ (n := 9) (S := fun w' => w'.cell? ⟨g11, 0, none⟩ = some (.pointer (some ⟨g8, f, none⟩)) ∧ w'.cell? ⟨g11, 1, none⟩ = some (.int .i64 m) ∧ w'.cell? ⟨g8, f, none⟩ = some (.int .i64 vv)) (ds := [8]) #[false, false, false, false, false, false, false, false, false] (by kernel_rfl) rfl rfl ⟨(blk_cell H11.out 0).trans rfl, (blk_cell H11.out 1).trans rfl, (blk_cell H8.out f).trans hv.out⟩ (fun hHeld => ?_)
      generalize w4.drew = w5 at HB H6 H8 H11 hHeld ⊢
      refine pure_ (i := 0) (N := some 57) (v := ?_) (a' := ?_) #[true, false, false, false, false, false, false, false, false] rfl rfl (by kernel_rfl) (fun _ _ _ h => h) (Or.inl ⟨by rfl, ?_⟩) ?_ ?_
      rotate_left
      · intro w'
        go_simp
        with_reducible rfl
      rotate_left
      · simp only [Act.put, List.setIfInBounds_toArray, List.set_cons_zero, List.set_cons_succ, i64_w, i32_w]
        rfl
      refine pure_ (i := 4) (N := some 61) (v := ?_) (a' := ?_) #[true, false, false, false, true, false, false, false, false] rfl rfl (by kernel_rfl) (fun _ _ _ h => h) (Or.inl ⟨by rfl, ?_⟩) ?_ ?_
      rotate_left
      · intro w'
        go_simp
        with_reducible rfl
      rotate_left
      · simp only [Act.put, List.setIfInBounds_toArray, List.set_cons_zero, List.set_cons_succ, i64_w, i32_w]
        rfl
      refine take_ (i := 1) (N := some 58) (v := ?_) (a' := ?_) #[true, true, false, false, true, false, false, false, false] rfl rfl (by kernel_rfl) (fun _ _ _ h => h) (Or.inl ⟨by rfl, ?_⟩) hHeld ?_ ?_
      rotate_left
      · rintro w' ⟨s0, s1, s2⟩
        go_simp
        with_reducible rfl
      rotate_left
      · simp only [Act.put, List.setIfInBounds_toArray, List.set_cons_zero, List.set_cons_succ, i64_w, i32_w]
        rfl
      refine pure_ (i := 2) (N := some 59) (v := ?_) (a' := ?_) #[true, true, true, false, true, false, false, false, false] rfl rfl (by kernel_rfl) (fun _ _ _ h => h) (Or.inl ⟨by rfl, ?_⟩) ?_ ?_
      rotate_left
      · intro w'
        go_simp
        with_reducible rfl
      rotate_left
      · simp only [Act.put, List.setIfInBounds_toArray, List.set_cons_zero, List.set_cons_succ, i64_w, i32_w]
        rfl
      refine take_ (i := 3) (N := some 60) (v := ?_) (a' := ?_) #[true, true, true, true, true, false, false, false, false] rfl rfl (by kernel_rfl) (fun _ _ _ h => h) (Or.inl ⟨by rfl, ?_⟩) hHeld ?_ ?_
      rotate_left
      · rintro w' ⟨s0, s1, s2⟩
        go_simp
        with_reducible rfl
      rotate_left
      · simp only [Act.put, List.setIfInBounds_toArray, List.set_cons_zero, List.set_cons_succ, i64_w, i32_w]
        rfl
      refine take_ (i := 5) (N := some 62) (v := ?_) (a' := ?_) #[true, true, true, true, true, true, false, false, false] rfl rfl (by kernel_rfl) (fun _ _ _ h => h) (Or.inl ⟨by rfl, ?_⟩) hHeld ?_ ?_
      rotate_left
      · rintro w' ⟨s0, s1, s2⟩
        go_simp
        with_reducible rfl
      rotate_left
      · simp only [Act.put, List.setIfInBounds_toArray, List.set_cons_zero, List.set_cons_succ, i64_w, i32_w]
        rfl
      refine pure_ (i := 6) (N := some 63) (v := ?_) (a' := ?_) #[true, true, true, true, true, true, true, false, false] rfl rfl (by kernel_rfl) (fun _ _ _ h => h) (Or.inl ⟨by rfl, ?_⟩) ?_ ?_
      rotate_left
      · intro w'
        go_simp
        with_reducible rfl
      rotate_left
      · simp only [Act.put, List.setIfInBounds_toArray, List.set_cons_zero, List.set_cons_succ, i64_w, i32_w]
        rfl
      refine pure_ (i := 7) (N := some 64) (v := ?_) (a' := ?_) #[true, true, true, true, true, true, true, true, false] rfl rfl (by kernel_rfl) (fun _ _ _ h => h) (Or.inl ⟨by rfl, ?_⟩) ?_ ?_
      rotate_left
      · intro w'
        go_simp
        with_reducible rfl
      rotate_left
      · simp only [Act.put, List.setIfInBounds_toArray, List.set_cons_zero, List.set_cons_succ, i64_w, i32_w]
        rfl
      refine last_ (i := 8) (N := none) #[true, true, true, true, true, true, true, true, true] rfl rfl (by kernel_rfl) (by decide) (fun K hK => ?_)
      have kf := blk_frozen H8.out f
      have kc := (blk_cell H8.out f).trans hv.out
      refine skip_ (w1 := ?_) (by rfl) rfl ?_ ?_
      rotate_left
      · go_simp
        rfl
      refine hK.out _ _ ?_
      clear hK K
      refine done_ (by kernel_rfl) ?_
      clear hHeld kf kc
      rw [hsm.out]
      rw [put_step H8.out, hnx.out]
      have HB' := Aside0.mk (row_below HB.out ge8.out (addI x d (k + 1)).cs)
      have H8' := Aside0.mk (setRow_heap w5 g8 _ (addI x d (k + 1)).cs 41 (0, 0) H8.out)
      have H6' := Aside0.mk (show (w5.setRow g8 (addI x d (k + 1)).cs).heap[g6]? = some (.cells Rep.z.cs 41 (0, 0)) from (setRow_other w5 g8 g6 _ ne68.out).trans H6.out)
      have H11' := Aside0.mk (show (w5.setRow g8 (addI x d (k + 1)).cs).heap[g11]? = some (.cells #[.pointer (some ⟨g8, f, none⟩), .int .i64 m] 89 (0, 0)) from (setRow_other w5 g8 g11 _ (fun e => by have h1 := H11.out; rw [e, H8.out] at h1; injection h1 with h1; injection h1 with _ h1; exact absurd h1 (by decide))).trans H11.out)
      have hv2 : (addI x d (k + 1)).cs[f]? = some (.int .i64 sm) := by rw [← hnx.out, Array.getElem?_setIfInBounds_self_of_lt (by have h27 : y.cs.size = 27 := rfl; rw [h27]; exact hlt8.out)]
      clear HB H8 H6 H11 hv hnx hsm
      generalize hw6 : w5.setRow g8 (addI x d (k + 1)).cs = w6 at HB' H8' H6' H11' ⊢
      clear hw6
      have c11 : w6.cell? ⟨g11, 0, none⟩ = some (.pointer (some ⟨g8, f, none⟩)) := (blk_cell H11'.out 0).trans rfl
      have c8 : w6.cell? ⟨g8, f, none⟩ = some (.int .i64 sm) := (blk_cell H8'.out f).trans hv2
      have hba := below_alloc (Below.refl w6.heap.size w6) (.cells #[.int .i64 sm] 2)
      by_cases hin : inM sm
      case neg =>
        obtain rfl : q = (Rep.z, 3) := by rw [← hq.out, withR, if_neg (fun h => hin (by rw [hss.out]; exact allIn_at h hk6))]
        go_wp2_with fail
        refine (close_within.lit (-1152921504606846976) 1152921504606846976 [sm] (b := false) (by simpa [inM] using hin) (by simp) rfl (blk_new w6 _) rfl).mono ?_
        rintro e w7 ⟨rfl, hb⟩
        have hb2 := below_step hba hb
        have HB7 := Aside0.mk (below_step HB'.out hb2)
        have H67 := Aside0.mk (blk_below H6'.out hb2)
        clear hb hb2 hba HB' H6' H8' H11' c11 c8
        go_wp2_with ((with_reducible refine gate_store (t := 41) (p := 6) (v := .tmp 72) rfl ?_); refine store_rowTo rfl 41 (.tmp 6) (.tmp 72) rfl rfl g6 Rep.z.cs rfl rfl 41 _ H67.out (by kernel_rfl) rfl (Rep.all _) ?_)
        exact bodyPost_ret (v := .tuple #[.agg Rep.z.cs, .int .i64 3]) (results_ct Try.results17 _ _ g6 41 _ (0, 0) _ rfl (setRow_heap _ _ _ _ _ _ H67.out) Try.underlying41 rfl (by kernel_rfl)) rfl ⟨rfl, row_below HB7.out ge6.out _⟩
      go_wp2_with fail
      refine (close_within.lit (-1152921504606846976) 1152921504606846976 [sm] (b := true) (by simpa [inM] using hin) (by simp) rfl (blk_new w6 _) rfl).mono ?_
      rintro e w7 ⟨rfl, hb⟩
      have hb2 := below_step hba hb
      have HB7 := Aside0.mk (below_step HB'.out hb2)
      have H67 := Aside0.mk (blk_below H6'.out hb2)
      have H87 := Aside0.mk (blk_below H8'.out hb2)
      clear hb hb2 hba HB' H6' H8' H11' c11 c8
      go_wp2_with fail
      go_roundw
      case rel => exact ⟨k + 1, by omega, by go_num, HB7, H67, H87, ⟨fun j hj => by
        by_cases e : j = k
        · subst e; rw [← hss.out]; exact hin
        · exact HI.out j (by omega)⟩⟩
      case measure => simp [intOf]; omega
    obtain rfl : k = 6 := by omega
    have hall := allIn_of HI.out
    obtain ⟨⟨r0, r1, r2, er⟩, hroll⟩ : ∃ R, allow_Roll.g x.s0.o x.s1.o x.s2.o ch = R := ⟨_, rfl⟩
    have hq' := hq.out
    rw [withR, if_pos hall, hroll] at hq'
    simp only at hq'
    obtain ⟨z, hz⟩ : ∃ z, z = clos (addI x d 6) := ⟨_, rfl⟩
    rw [← hz] at hq'
    have hroll2 : allow_Roll.g z.s0.o z.s1.o z.s2.o ch = (r0, r1, r2, er) := by rw [hz]; exact hroll
    obtain ⟨y, hy⟩ : ∃ y, y = addI x d 6 := ⟨_, rfl⟩
    rw [← hy] at hz H8
    have hzc := Aside0.mk (show y.cs.setIfInBounds 7 (.int .i64 (wrap64 (wrap64 (wrap64 (wrap64 (wrap64 (y.o + y.a) + y.i) + y.e) - y.r) - y.w))) = z.cs by rw [hz]; rfl)
    replace hq := Aside0.mk hq'
    replace hroll2 := Aside0.mk hroll2
    clear hq' hroll hy hz hall hidx
    go_wp2_with fail
    have n_HB := Aside0.mk (below_step HB.out (below_drew (Below.refl _ _)))
    have n_H6 := Aside0.mk (blk_below H6.out (below_drew (Below.refl _ _)))
    have n_H8 := Aside0.mk (blk_below H8.out (below_drew (Below.refl _ _)))
    clear HB
    have HB := n_HB
    clear n_HB
    clear H6
    have H6 := n_H6
    clear n_H6
    clear H8
    have H8 := n_H8
    clear n_H8
    refine start_ (n := 33) (S := fun w' => w'.cell? ⟨g8, 1, none⟩ = some (.int .i64 y.o) ∧ w'.cell? ⟨g8, 2, none⟩ = some (.int .i64 y.a) ∧ w'.cell? ⟨g8, 3, none⟩ = some (.int .i64 y.i) ∧ w'.cell? ⟨g8, 4, none⟩ = some (.int .i64 y.e) ∧ w'.cell? ⟨g8, 5, none⟩ = some (.int .i64 y.r) ∧ w'.cell? ⟨g8, 6, none⟩ = some (.int .i64 y.w)) (ds := [32]) #[false, false, false, false, false, false, false, false, false, false, false, false, false, false, false, false, false, false, false, false, false, false, false, false, false, false, false, false, false, false, false, false, false] (by kernel_rfl) rfl rfl ⟨(blk_cell H8.out 1).trans rfl, (blk_cell H8.out 2).trans rfl, (blk_cell H8.out 3).trans rfl, (blk_cell H8.out 4).trans rfl, (blk_cell H8.out 5).trans rfl, (blk_cell H8.out 6).trans rfl⟩ (fun hHeld => ?_)
    generalize wr.drew = w9 at HB H6 H8 hHeld ⊢
    refine pure_ (i := 0) (N := some 74) (v := ?_) (a' := ?_) #[true, false, false, false, false, false, false, false, false, false, false, false, false, false, false, false, false, false, false, false, false, false, false, false, false, false, false, false, false, false, false, false, false] rfl rfl (by kernel_rfl) (fun _ _ _ h => h) (Or.inl ⟨by rfl, ?_⟩) ?_ ?_
    rotate_left
    · intro w'
      go_simp
      with_reducible rfl
    rotate_left
    · simp only [Act.put, List.setIfInBounds_toArray, List.set_cons_zero, List.set_cons_succ, i64_w, i32_w]
      rfl
    refine pure_ (i := 1) (N := some 75) (v := ?_) (a' := ?_) #[true, true, false, false, false, false, false, false, false, false, false, false, false, false, false, false, false, false, false, false, false, false, false, false, false, false, false, false, false, false, false, false, false] rfl rfl (by kernel_rfl) (fun _ _ _ h => h) (Or.inl ⟨by rfl, ?_⟩) ?_ ?_
    rotate_left
    · intro w'
      go_simp
      with_reducible rfl
    rotate_left
    · simp only [Act.put, List.setIfInBounds_toArray, List.set_cons_zero, List.set_cons_succ, i64_w, i32_w]
      rfl
    refine pure_ (i := 2) (N := some 76) (v := ?_) (a' := ?_) #[true, true, true, false, false, false, false, false, false, false, false, false, false, false, false, false, false, false, false, false, false, false, false, false, false, false, false, false, false, false, false, false, false] rfl rfl (by kernel_rfl) (fun _ _ _ h => h) (Or.inl ⟨by rfl, ?_⟩) ?_ ?_
    rotate_left
    · intro w'
      go_simp
      with_reducible rfl
    rotate_left
    · simp only [Act.put, List.setIfInBounds_toArray, List.set_cons_zero, List.set_cons_succ, i64_w, i32_w]
      rfl
    refine pure_ (i := 3) (N := some 77) (v := ?_) (a' := ?_) #[true, true, true, true, false, false, false, false, false, false, false, false, false, false, false, false, false, false, false, false, false, false, false, false, false, false, false, false, false, false, false, false, false] rfl rfl (by kernel_rfl) (fun _ _ _ h => h) (Or.inl ⟨by rfl, ?_⟩) ?_ ?_
    rotate_left
    · intro w'
      go_simp
      with_reducible rfl
    rotate_left
    · simp only [Act.put, List.setIfInBounds_toArray, List.set_cons_zero, List.set_cons_succ, i64_w, i32_w]
      rfl
    refine pure_ (i := 5) (N := some 79) (v := ?_) (a' := ?_) #[true, true, true, true, false, true, false, false, false, false, false, false, false, false, false, false, false, false, false, false, false, false, false, false, false, false, false, false, false, false, false, false, false] rfl rfl (by kernel_rfl) (fun _ _ _ h => h) (Or.inl ⟨by rfl, ?_⟩) ?_ ?_
    rotate_left
    · intro w'
      go_simp
      with_reducible rfl
    rotate_left
    · simp only [Act.put, List.setIfInBounds_toArray, List.set_cons_zero, List.set_cons_succ, i64_w, i32_w]
      rfl
    refine pure_ (i := 6) (N := some 80) (v := ?_) (a' := ?_) #[true, true, true, true, false, true, true, false, false, false, false, false, false, false, false, false, false, false, false, false, false, false, false, false, false, false, false, false, false, false, false, false, false] rfl rfl (by kernel_rfl) (fun _ _ _ h => h) (Or.inl ⟨by rfl, ?_⟩) ?_ ?_
    rotate_left
    · intro w'
      go_simp
      with_reducible rfl
    rotate_left
    · simp only [Act.put, List.setIfInBounds_toArray, List.set_cons_zero, List.set_cons_succ, i64_w, i32_w]
      rfl
    refine pure_ (i := 7) (N := some 81) (v := ?_) (a' := ?_) #[true, true, true, true, false, true, true, true, false, false, false, false, false, false, false, false, false, false, false, false, false, false, false, false, false, false, false, false, false, false, false, false, false] rfl rfl (by kernel_rfl) (fun _ _ _ h => h) (Or.inl ⟨by rfl, ?_⟩) ?_ ?_
    rotate_left
    · intro w'
      go_simp
      with_reducible rfl
    rotate_left
    · simp only [Act.put, List.setIfInBounds_toArray, List.set_cons_zero, List.set_cons_succ, i64_w, i32_w]
      rfl
    refine pure_ (i := 10) (N := some 84) (v := ?_) (a' := ?_) #[true, true, true, true, false, true, true, true, false, false, true, false, false, false, false, false, false, false, false, false, false, false, false, false, false, false, false, false, false, false, false, false, false] rfl rfl (by kernel_rfl) (fun _ _ _ h => h) (Or.inl ⟨by rfl, ?_⟩) ?_ ?_
    rotate_left
    · intro w'
      go_simp
      with_reducible rfl
    rotate_left
    · simp only [Act.put, List.setIfInBounds_toArray, List.set_cons_zero, List.set_cons_succ, i64_w, i32_w]
      rfl
    refine pure_ (i := 11) (N := some 85) (v := ?_) (a' := ?_) #[true, true, true, true, false, true, true, true, false, false, true, true, false, false, false, false, false, false, false, false, false, false, false, false, false, false, false, false, false, false, false, false, false] rfl rfl (by kernel_rfl) (fun _ _ _ h => h) (Or.inl ⟨by rfl, ?_⟩) ?_ ?_
    rotate_left
    · intro w'
      go_simp
      with_reducible rfl
    rotate_left
    · simp only [Act.put, List.setIfInBounds_toArray, List.set_cons_zero, List.set_cons_succ, i64_w, i32_w]
      rfl
    refine pure_ (i := 12) (N := some 86) (v := ?_) (a' := ?_) #[true, true, true, true, false, true, true, true, false, false, true, true, true, false, false, false, false, false, false, false, false, false, false, false, false, false, false, false, false, false, false, false, false] rfl rfl (by kernel_rfl) (fun _ _ _ h => h) (Or.inl ⟨by rfl, ?_⟩) ?_ ?_
    rotate_left
    · intro w'
      go_simp
      with_reducible rfl
    rotate_left
    · simp only [Act.put, List.setIfInBounds_toArray, List.set_cons_zero, List.set_cons_succ, i64_w, i32_w]
      rfl
    refine pure_ (i := 15) (N := some 89) (v := ?_) (a' := ?_) #[true, true, true, true, false, true, true, true, false, false, true, true, true, false, false, true, false, false, false, false, false, false, false, false, false, false, false, false, false, false, false, false, false] rfl rfl (by kernel_rfl) (fun _ _ _ h => h) (Or.inl ⟨by rfl, ?_⟩) ?_ ?_
    rotate_left
    · intro w'
      go_simp
      with_reducible rfl
    rotate_left
    · simp only [Act.put, List.setIfInBounds_toArray, List.set_cons_zero, List.set_cons_succ, i64_w, i32_w]
      rfl
    refine pure_ (i := 16) (N := some 90) (v := ?_) (a' := ?_) #[true, true, true, true, false, true, true, true, false, false, true, true, true, false, false, true, true, false, false, false, false, false, false, false, false, false, false, false, false, false, false, false, false] rfl rfl (by kernel_rfl) (fun _ _ _ h => h) (Or.inl ⟨by rfl, ?_⟩) ?_ ?_
    rotate_left
    · intro w'
      go_simp
      with_reducible rfl
    rotate_left
    · simp only [Act.put, List.setIfInBounds_toArray, List.set_cons_zero, List.set_cons_succ, i64_w, i32_w]
      rfl
    refine pure_ (i := 17) (N := some 91) (v := ?_) (a' := ?_) #[true, true, true, true, false, true, true, true, false, false, true, true, true, false, false, true, true, true, false, false, false, false, false, false, false, false, false, false, false, false, false, false, false] rfl rfl (by kernel_rfl) (fun _ _ _ h => h) (Or.inl ⟨by rfl, ?_⟩) ?_ ?_
    rotate_left
    · intro w'
      go_simp
      with_reducible rfl
    rotate_left
    · simp only [Act.put, List.setIfInBounds_toArray, List.set_cons_zero, List.set_cons_succ, i64_w, i32_w]
      rfl
    refine pure_ (i := 20) (N := some 94) (v := ?_) (a' := ?_) #[true, true, true, true, false, true, true, true, false, false, true, true, true, false, false, true, true, true, false, false, true, false, false, false, false, false, false, false, false, false, false, false, false] rfl rfl (by kernel_rfl) (fun _ _ _ h => h) (Or.inl ⟨by rfl, ?_⟩) ?_ ?_
    rotate_left
    · intro w'
      go_simp
      with_reducible rfl
    rotate_left
    · simp only [Act.put, List.setIfInBounds_toArray, List.set_cons_zero, List.set_cons_succ, i64_w, i32_w]
      rfl
    refine pure_ (i := 21) (N := some 95) (v := ?_) (a' := ?_) #[true, true, true, true, false, true, true, true, false, false, true, true, true, false, false, true, true, true, false, false, true, true, false, false, false, false, false, false, false, false, false, false, false] rfl rfl (by kernel_rfl) (fun _ _ _ h => h) (Or.inl ⟨by rfl, ?_⟩) ?_ ?_
    rotate_left
    · intro w'
      go_simp
      with_reducible rfl
    rotate_left
    · simp only [Act.put, List.setIfInBounds_toArray, List.set_cons_zero, List.set_cons_succ, i64_w, i32_w]
      rfl
    refine pure_ (i := 22) (N := some 96) (v := ?_) (a' := ?_) #[true, true, true, true, false, true, true, true, false, false, true, true, true, false, false, true, true, true, false, false, true, true, true, false, false, false, false, false, false, false, false, false, false] rfl rfl (by kernel_rfl) (fun _ _ _ h => h) (Or.inl ⟨by rfl, ?_⟩) ?_ ?_
    rotate_left
    · intro w'
      go_simp
      with_reducible rfl
    rotate_left
    · simp only [Act.put, List.setIfInBounds_toArray, List.set_cons_zero, List.set_cons_succ, i64_w, i32_w]
      rfl
    refine pure_ (i := 25) (N := some 99) (v := ?_) (a' := ?_) #[true, true, true, true, false, true, true, true, false, false, true, true, true, false, false, true, true, true, false, false, true, true, true, false, false, true, false, false, false, false, false, false, false] rfl rfl (by kernel_rfl) (fun _ _ _ h => h) (Or.inl ⟨by rfl, ?_⟩) ?_ ?_
    rotate_left
    · intro w'
      go_simp
      with_reducible rfl
    rotate_left
    · simp only [Act.put, List.setIfInBounds_toArray, List.set_cons_zero, List.set_cons_succ, i64_w, i32_w]
      rfl
    refine pure_ (i := 26) (N := some 100) (v := ?_) (a' := ?_) #[true, true, true, true, false, true, true, true, false, false, true, true, true, false, false, true, true, true, false, false, true, true, true, false, false, true, true, false, false, false, false, false, false] rfl rfl (by kernel_rfl) (fun _ _ _ h => h) (Or.inl ⟨by rfl, ?_⟩) ?_ ?_
    rotate_left
    · intro w'
      go_simp
      with_reducible rfl
    rotate_left
    · simp only [Act.put, List.setIfInBounds_toArray, List.set_cons_zero, List.set_cons_succ, i64_w, i32_w]
      rfl
    refine pure_ (i := 27) (N := some 101) (v := ?_) (a' := ?_) #[true, true, true, true, false, true, true, true, false, false, true, true, true, false, false, true, true, true, false, false, true, true, true, false, false, true, true, true, false, false, false, false, false] rfl rfl (by kernel_rfl) (fun _ _ _ h => h) (Or.inl ⟨by rfl, ?_⟩) ?_ ?_
    rotate_left
    · intro w'
      go_simp
      with_reducible rfl
    rotate_left
    · simp only [Act.put, List.setIfInBounds_toArray, List.set_cons_zero, List.set_cons_succ, i64_w, i32_w]
      rfl
    refine take_ (i := 4) (N := some 78) (v := ?_) (a' := ?_) #[true, true, true, true, true, true, true, true, false, false, true, true, true, false, false, true, true, true, false, false, true, true, true, false, false, true, true, true, false, false, false, false, false] rfl rfl (by kernel_rfl) (fun _ _ _ h => h) (Or.inl ⟨by rfl, ?_⟩) hHeld ?_ ?_
    rotate_left
    · rintro w' ⟨s0, s1, s2, s3, s4, s5⟩
      go_simp
      with_reducible rfl
    rotate_left
    · simp only [Act.put, List.setIfInBounds_toArray, List.set_cons_zero, List.set_cons_succ, i64_w, i32_w]
      rfl
    refine take_ (i := 8) (N := some 82) (v := ?_) (a' := ?_) #[true, true, true, true, true, true, true, true, true, false, true, true, true, false, false, true, true, true, false, false, true, true, true, false, false, true, true, true, false, false, false, false, false] rfl rfl (by kernel_rfl) (fun _ _ _ h => h) (Or.inl ⟨by rfl, ?_⟩) hHeld ?_ ?_
    rotate_left
    · rintro w' ⟨s0, s1, s2, s3, s4, s5⟩
      go_simp
      with_reducible rfl
    rotate_left
    · simp only [Act.put, List.setIfInBounds_toArray, List.set_cons_zero, List.set_cons_succ, i64_w, i32_w]
      rfl
    refine pure_ (i := 9) (N := some 83) (v := ?_) (a' := ?_) #[true, true, true, true, true, true, true, true, true, true, true, true, true, false, false, true, true, true, false, false, true, true, true, false, false, true, true, true, false, false, false, false, false] rfl rfl (by kernel_rfl) (fun _ _ _ h => h) (Or.inl ⟨by rfl, ?_⟩) ?_ ?_
    rotate_left
    · intro w'
      go_simp
      with_reducible rfl
    rotate_left
    · simp only [Act.put, List.setIfInBounds_toArray, List.set_cons_zero, List.set_cons_succ, i64_w, i32_w]
      rfl
    refine take_ (i := 13) (N := some 87) (v := ?_) (a' := ?_) #[true, true, true, true, true, true, true, true, true, true, true, true, true, true, false, true, true, true, false, false, true, true, true, false, false, true, true, true, false, false, false, false, false] rfl rfl (by kernel_rfl) (fun _ _ _ h => h) (Or.inl ⟨by rfl, ?_⟩) hHeld ?_ ?_
    rotate_left
    · rintro w' ⟨s0, s1, s2, s3, s4, s5⟩
      go_simp
      with_reducible rfl
    rotate_left
    · simp only [Act.put, List.setIfInBounds_toArray, List.set_cons_zero, List.set_cons_succ, i64_w, i32_w]
      rfl
    refine pure_ (i := 14) (N := some 88) (v := ?_) (a' := ?_) #[true, true, true, true, true, true, true, true, true, true, true, true, true, true, true, true, true, true, false, false, true, true, true, false, false, true, true, true, false, false, false, false, false] rfl rfl (by kernel_rfl) (fun _ _ _ h => h) (Or.inl ⟨by rfl, ?_⟩) ?_ ?_
    rotate_left
    · intro w'
      go_simp
      with_reducible rfl
    rotate_left
    · simp only [Act.put, List.setIfInBounds_toArray, List.set_cons_zero, List.set_cons_succ, i64_w, i32_w]
      rfl
    refine take_ (i := 18) (N := some 92) (v := ?_) (a' := ?_) #[true, true, true, true, true, true, true, true, true, true, true, true, true, true, true, true, true, true, true, false, true, true, true, false, false, true, true, true, false, false, false, false, false] rfl rfl (by kernel_rfl) (fun _ _ _ h => h) (Or.inl ⟨by rfl, ?_⟩) hHeld ?_ ?_
    rotate_left
    · rintro w' ⟨s0, s1, s2, s3, s4, s5⟩
      go_simp
      with_reducible rfl
    rotate_left
    · simp only [Act.put, List.setIfInBounds_toArray, List.set_cons_zero, List.set_cons_succ, i64_w, i32_w]
      rfl
    refine pure_ (i := 19) (N := some 93) (v := ?_) (a' := ?_) #[true, true, true, true, true, true, true, true, true, true, true, true, true, true, true, true, true, true, true, true, true, true, true, false, false, true, true, true, false, false, false, false, false] rfl rfl (by kernel_rfl) (fun _ _ _ h => h) (Or.inl ⟨by rfl, ?_⟩) ?_ ?_
    rotate_left
    · intro w'
      go_simp
      with_reducible rfl
    rotate_left
    · simp only [Act.put, List.setIfInBounds_toArray, List.set_cons_zero, List.set_cons_succ, i64_w, i32_w]
      rfl
    refine take_ (i := 23) (N := some 97) (v := ?_) (a' := ?_) #[true, true, true, true, true, true, true, true, true, true, true, true, true, true, true, true, true, true, true, true, true, true, true, true, false, true, true, true, false, false, false, false, false] rfl rfl (by kernel_rfl) (fun _ _ _ h => h) (Or.inl ⟨by rfl, ?_⟩) hHeld ?_ ?_
    rotate_left
    · rintro w' ⟨s0, s1, s2, s3, s4, s5⟩
      go_simp
      with_reducible rfl
    rotate_left
    · simp only [Act.put, List.setIfInBounds_toArray, List.set_cons_zero, List.set_cons_succ, i64_w, i32_w]
      rfl
    refine pure_ (i := 24) (N := some 98) (v := ?_) (a' := ?_) #[true, true, true, true, true, true, true, true, true, true, true, true, true, true, true, true, true, true, true, true, true, true, true, true, true, true, true, true, false, false, false, false, false] rfl rfl (by kernel_rfl) (fun _ _ _ h => h) (Or.inl ⟨by rfl, ?_⟩) ?_ ?_
    rotate_left
    · intro w'
      go_simp
      with_reducible rfl
    rotate_left
    · simp only [Act.put, List.setIfInBounds_toArray, List.set_cons_zero, List.set_cons_succ, i64_w, i32_w]
      rfl
    refine take_ (i := 28) (N := some 102) (v := ?_) (a' := ?_) #[true, true, true, true, true, true, true, true, true, true, true, true, true, true, true, true, true, true, true, true, true, true, true, true, true, true, true, true, true, false, false, false, false] rfl rfl (by kernel_rfl) (fun _ _ _ h => h) (Or.inl ⟨by rfl, ?_⟩) hHeld ?_ ?_
    rotate_left
    · rintro w' ⟨s0, s1, s2, s3, s4, s5⟩
      go_simp
      with_reducible rfl
    rotate_left
    · simp only [Act.put, List.setIfInBounds_toArray, List.set_cons_zero, List.set_cons_succ, i64_w, i32_w]
      rfl
    refine pure_ (i := 29) (N := some 103) (v := ?_) (a' := ?_) #[true, true, true, true, true, true, true, true, true, true, true, true, true, true, true, true, true, true, true, true, true, true, true, true, true, true, true, true, true, true, false, false, false] rfl rfl (by kernel_rfl) (fun _ _ _ h => h) (Or.inl ⟨by rfl, ?_⟩) ?_ ?_
    rotate_left
    · intro w'
      go_simp
      with_reducible rfl
    rotate_left
    · simp only [Act.put, List.setIfInBounds_toArray, List.set_cons_zero, List.set_cons_succ, i64_w, i32_w]
      rfl
    refine pure_ (i := 30) (N := some 104) (v := ?_) (a' := ?_) #[true, true, true, true, true, true, true, true, true, true, true, true, true, true, true, true, true, true, true, true, true, true, true, true, true, true, true, true, true, true, true, false, false] rfl rfl (by kernel_rfl) (fun _ _ _ h => h) (Or.inl ⟨by rfl, ?_⟩) ?_ ?_
    rotate_left
    · intro w'
      go_simp
      with_reducible rfl
    rotate_left
    · simp only [Act.put, List.setIfInBounds_toArray, List.set_cons_zero, List.set_cons_succ, i64_w, i32_w]
      rfl
    refine pure_ (i := 31) (N := some 105) (v := ?_) (a' := ?_) #[true, true, true, true, true, true, true, true, true, true, true, true, true, true, true, true, true, true, true, true, true, true, true, true, true, true, true, true, true, true, true, true, false] rfl rfl (by kernel_rfl) (fun _ _ _ h => h) (Or.inl ⟨by rfl, ?_⟩) ?_ ?_
    rotate_left
    · intro w'
      go_simp
      with_reducible rfl
    rotate_left
    · simp only [Act.put, List.setIfInBounds_toArray, List.set_cons_zero, List.set_cons_succ, i64_w, i32_w]
      rfl
    refine last_ (i := 32) (N := none) #[true, true, true, true, true, true, true, true, true, true, true, true, true, true, true, true, true, true, true, true, true, true, true, true, true, true, true, true, true, true, true, true, true] rfl rfl (by kernel_rfl) (by decide) (fun K hK => ?_)
    have kf := blk_frozen H8.out 7
    have kc := (blk_cell H8.out 7).trans (show y.cs[7]? = some (.int .i64 y.c) from rfl)
    refine skip_ (w1 := ?_) (by rfl) rfl ?_ ?_
    rotate_left
    · go_simp
      rfl
    refine hK.out _ _ ?_
    clear hK K
    refine done_ (by kernel_rfl) ?_
    clear hHeld kf kc
    rw [put_step H8.out, hzc.out]
    have HB' := Aside0.mk (row_below HB.out ge8.out z.cs)
    have H8' := Aside0.mk (setRow_heap w9 g8 _ z.cs 41 (0, 0) H8.out)
    have H6' := Aside0.mk (show (w9.setRow g8 z.cs).heap[g6]? = some (.cells Rep.z.cs 41 (0, 0)) from (setRow_other w9 g8 g6 _ ne68.out).trans H6.out)
    clear HB H8 H6 hzc
    generalize w9.setRow g8 z.cs = w10 at HB' H8' H6' ⊢
    go_wp2_with ((with_reducible refine gate_dst (N := 107) rfl ?_); refine wpList_load_row rfl 41 (.tmp 8) rfl g8 rfl 41 _ (0, 0) _ H8'.out Try.underlying41 rfl (by kernel_rfl) ?_)
    refine (close_Report_opens.calls z _).mono ?_
    rintro e w11 ⟨rfl, hb⟩
    have HB := Aside0.mk (below_step HB'.out hb)
    have H8 := Aside0.mk (blk_below H8'.out hb)
    have H6 := Aside0.mk (blk_below H6'.out hb)
    clear hb HB' H8' H6'
    go_wp2_with fail
    refine (roll_op z (Kd.C_below HC.out HB.out) hc hroll2.out).mono ?_
    rintro e w12 ⟨rfl, hb⟩
    have HB' := Aside0.mk (below_step HB.out hb)
    have H8' := Aside0.mk (blk_below H8.out hb)
    have H6' := Aside0.mk (blk_below H6.out hb)
    clear hb HB H8 H6
    go_wp2_with ((with_reducible refine gate_store (t := 39) (p := 12) (v := .tmp 111) rfl ?_); refine Shut.out ?_)
    unfold Shut
    change wpList _ _ _ _ _ (w12.alloc (.cells (row18 Row6.z Row6.z Row6.z) 39))
    obtain ⟨hnb, hnk⟩ := newbk w12 (row18 Row6.z Row6.z Row6.z) (row18 r0 r1 r2) 39
    refine store_rowTo rfl 39 (.tmp 12) (.tmp 111) rfl rfl w12.heap.size (row18 r0 r1 r2) rfl rfl 39 _ (blk_new w12 _) (by kernel_rfl) rfl (row18_all _ _ _) ?_
    have HB := Aside0.mk (below_step HB'.out hnb)
    have H8 := Aside0.mk (blk_below H8'.out hnb)
    have H6 := Aside0.mk (blk_below H6'.out hnb)
    have H12 := Aside0.mk hnk
    clear HB' H8' H6' hnb hnk
    generalize (w12.alloc (.cells (row18 Row6.z Row6.z Row6.z) 39)).setRow w12.heap.size (row18 r0 r1 r2) = w13 at HB H8 H6 H12 ⊢
    generalize w12.heap.size = g12 at H12 ⊢
    by_cases he : er = 0
    case neg =>
      have e1 : (er != 0) = true := by simpa using he
      obtain rfl : q = (Rep.z, 3) := by rw [← hq.out, if_neg (fun h => he h.1)]
      clear hroll2
      go_wp2_with ((with_reducible refine gate_store (t := 41) (p := 6) (v := .tmp 138) rfl ?_); refine store_rowTo rfl 41 (.tmp 6) (.tmp 138) rfl rfl g6 Rep.z.cs rfl rfl 41 _ H6.out (by kernel_rfl) rfl (Rep.all _) ?_)
      exact bodyPost_ret (v := .tuple #[.agg Rep.z.cs, .int .i64 3]) (results_ct Try.results17 _ _ g6 41 _ (0, 0) _ rfl (setRow_heap _ _ _ _ _ _ H6.out) Try.underlying41 rfl (by kernel_rfl)) rfl ⟨rfl, row_below HB.out ge6.out _⟩
    subst he
    have e1 : ((0 : Int) != 0) = false := rfl
    have c87 : w13.cell? ⟨g8, 7, none⟩ = some (.int .i64 z.c) := (blk_cell H8.out 7).trans rfl
    have hba := below_alloc (Below.refl w13.heap.size w13) (.cells #[.int .i64 z.c] 2)
    by_cases hin : inM z.c
    case neg =>
      obtain rfl : q = (Rep.z, 3) := by rw [← hq.out, if_neg (fun h => hin h.2.1)]
      go_wp2_with fail
      refine (close_within.lit (-1152921504606846976) 1152921504606846976 [z.c] (b := false) (by simpa [inM] using hin) (by simp) rfl (blk_new w13 _) rfl).mono ?_
      rintro e w14 ⟨rfl, hb⟩
      have hb2 := below_step hba hb
      have HB7 := Aside0.mk (below_step HB.out hb2)
      have H67 := Aside0.mk (blk_below H6.out hb2)
      clear hb hb2 hba HB H6 H8 H12 c87
      go_wp2_with ((with_reducible refine gate_store (t := 41) (p := 6) (v := .tmp 138) rfl ?_); refine store_rowTo rfl 41 (.tmp 6) (.tmp 138) rfl rfl g6 Rep.z.cs rfl rfl 41 _ H67.out (by kernel_rfl) rfl (Rep.all _) ?_)
      exact bodyPost_ret (v := .tuple #[.agg Rep.z.cs, .int .i64 3]) (results_ct Try.results17 _ _ g6 41 _ (0, 0) _ rfl (setRow_heap _ _ _ _ _ _ H67.out) Try.underlying41 rfl (by kernel_rfl)) rfl ⟨rfl, row_below HB7.out ge6.out _⟩
    go_wp2_with fail
    refine (close_within.lit (-1152921504606846976) 1152921504606846976 [z.c] (b := true) (by simpa [inM] using hin) (by simp) rfl (blk_new w13 _) rfl).mono ?_
    rintro e w14 ⟨rfl, hb⟩
    have hb2 := below_step hba hb
    have HB7 := Aside0.mk (below_step HB.out hb2)
    have H67 := Aside0.mk (blk_below H6.out hb2)
    have H87 := Aside0.mk (blk_below H8.out hb2)
    have H127 := Aside0.mk (blk_below H12.out hb2)
    clear hb hb2 hba HB H6 H8 H12 c87
    have c0 : w14.cell? ⟨g12, 5, none⟩ = some (.int .i64 r0.c) := (blk_cell H127.out 5).trans rfl
    have c1 : w14.cell? ⟨g12, 11, none⟩ = some (.int .i64 r1.c) := (blk_cell H127.out 11).trans rfl
    have c2 : w14.cell? ⟨g12, 17, none⟩ = some (.int .i64 r2.c) := (blk_cell H127.out 17).trans rfl
    have hba := below_alloc (Below.refl w14.heap.size w14) (.cells #[.int .i64 r0.c, .int .i64 r1.c, .int .i64 r2.c] 2)
    by_cases hin3 : in0 r0.c ∧ in0 r1.c ∧ in0 r2.c
    case neg =>
      obtain rfl : q = (Rep.z, 3) := by rw [← hq.out, if_neg (fun h => hin3 h.2.2)]
      go_wp2_with fail
      refine (close_within.lit 0 1152921504606846976 [r0.c, r1.c, r2.c] (b := false) (decide_eq_false (fun h => hin3 ⟨h _ (by simp), h _ (by simp), h _ (by simp)⟩)) (by simp) rfl (blk_new w14 _) rfl).mono ?_
      rintro e w15 ⟨rfl, hb⟩
      have hb2 := below_step hba hb
      have HB8 := Aside0.mk (below_step HB7.out hb2)
      have H68 := Aside0.mk (blk_below H67.out hb2)
      clear hb hb2 hba HB7 H67 H87 H127 c0 c1 c2
      go_wp2_with ((with_reducible refine gate_store (t := 41) (p := 6) (v := .tmp 138) rfl ?_); refine store_rowTo rfl 41 (.tmp 6) (.tmp 138) rfl rfl g6 Rep.z.cs rfl rfl 41 _ H68.out (by kernel_rfl) rfl (Rep.all _) ?_)
      exact bodyPost_ret (v := .tuple #[.agg Rep.z.cs, .int .i64 3]) (results_ct Try.results17 _ _ g6 41 _ (0, 0) _ rfl (setRow_heap _ _ _ _ _ _ H68.out) Try.underlying41 rfl (by kernel_rfl)) rfl ⟨rfl, row_below HB8.out ge6.out _⟩
    obtain ⟨u, hu⟩ : ∃ u, u = setS z r0 r1 r2 := ⟨_, rfl⟩
    obtain rfl : q = (u, 0) := by rw [hu, ← hq.out, if_pos ⟨by first | trivial | rfl, hin, hin3⟩]
    replace hu := Aside0.mk hu
    go_wp2_with fail
    refine (close_within.lit 0 1152921504606846976 [r0.c, r1.c, r2.c] (b := true) (decide_eq_true (fun y hy => by simp only [List.mem_cons, List.not_mem_nil, or_false] at hy; rcases hy with rfl | rfl | rfl <;> first | exact hin3.1 | exact hin3.2.1 | exact hin3.2.2)) (by simp) rfl (blk_new w14 _) rfl).mono ?_
    rintro e w15 ⟨rfl, hb⟩
    have hb2 := below_step hba hb
    have HB8 := Aside0.mk (below_step HB7.out hb2)
    have H68 := Aside0.mk (blk_below H67.out hb2)
    have H88 := Aside0.mk (blk_below H87.out hb2)
    have H128 := Aside0.mk (blk_below H127.out hb2)
    clear hb hb2 hba HB7 H67 H87 H127 c0 c1 c2
    go_wp2_with (first | ((with_reducible refine gate_dst (N := 139) rfl ?_); refine wpList_load_row rfl 39 (.tmp 12) rfl g12 rfl 39 _ (0, 0) _ H128.out Try.underlying39 rfl (by kernel_rfl) ?_) | ((with_reducible refine gate_store (t := 39) (p := 140) (v := .tmp 139) rfl ?_); refine Shut.out ?_))
    unfold Shut
    refine wpl_skip rfl rfl (store_run_mid 39 (.tmp 140) (.tmp 139) rfl g8 8 (row18 r0 r1 r2) rfl rfl 41 _ H88.out (by kernel_rfl) (by show 8 + 18 ≤ 27; omega) (row18_all _ _ _)) ?_
    rw [setS_cs, ← hu.out]
    have HB' := Aside0.mk (row_below HB8.out ge8.out u.cs)
    have H8' := Aside0.mk (setRow_heap w15 g8 _ u.cs 41 (0, 0) H88.out)
    have H6' := Aside0.mk (show (w15.setRow g8 u.cs).heap[g6]? = some (.cells Rep.z.cs 41 (0, 0)) from (setRow_other w15 g8 g6 _ ne68.out).trans H68.out)
    clear HB8 H88 H68 H128
    generalize w15.setRow g8 u.cs = w16 at HB' H8' H6' ⊢
    go_wp2_with (first | ((with_reducible refine gate_dst (N := 141) rfl ?_); refine wpList_load_row rfl 41 (.tmp 8) rfl g8 rfl 41 _ (0, 0) _ H8'.out Try.underlying41 rfl (by kernel_rfl) ?_) | ((with_reducible refine gate_store (t := 41) (p := 6) (v := .tmp 141) rfl ?_); refine store_rowTo rfl 41 (.tmp 6) (.tmp 141) rfl rfl g6 u.cs rfl rfl 41 _ H6'.out (by kernel_rfl) rfl (Rep.all _) ?_))
    exact bodyPost_ret (v := .tuple #[.agg u.cs, .int .i64 0]) (results_ct Try.results17 _ _ g6 41 _ (0, 0) _ rfl (setRow_heap _ _ _ _ _ _ H6'.out) Try.underlying41 rfl (by kernel_rfl)) rfl ⟨rfl, row_below HB'.out ge6.out _⟩


end Go.Proofs.Ytpcllhhbaockfaa.Print
