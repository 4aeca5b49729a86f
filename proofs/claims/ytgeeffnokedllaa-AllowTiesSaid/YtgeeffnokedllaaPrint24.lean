-- written by this session's program wip/hybrid.py over the kit's printer, and by hand. Not trusted: Lean checks it.
import Derived.Test.YtgeeffnokedllaaPrint0
import Derived.Test.YtgeeffnokedllaaPrint1
import Derived.Test.YtgeeffnokedllaaPrint3
import Derived.Test.YtgeeffnokedllaaPrint5
import Derived.Test.YtgeeffnokedllaaPrint6
import Derived.Test.YtgeeffnokedllaaPrint7
import Derived.Test.YtgeeffnokedllaaPrint8
import Derived.Test.YtgeeffnokedllaaPrint9
import Derived.Test.YtgeeffnokedllaaPrint12
import Derived.Test.YtgeeffnokedllaaPrint19
namespace Go.Proofs.Ytgeeffnokedllaa.Print
open Go.RowKit Go.Proofs.YtgeeffnokedllaaW.PrintWords Go.Proofs.YtgeeffnokedllaaW.PrintLast Go.Proofs.YtgeeffnokedllaaW.PrintMore
attribute [local go_sem] max2_int min2_int max_two min_two max_three min_three max_four min_four   -- for this text's walks alone
set_option linter.unusedVariables false
set_option linter.unusedSimpArgs false

/-! ### lombardlaw16_AllowTies: function 8 -/
theorem lombardlaw16_AllowTies.pos_bd (key amt : S50 → Int) (l : List S50) (k : Int) (h : ∀ x ∈ l, 0 ≤ amt x) : 0 ≤ allow_Change.sums key amt l k := by
  induction l with
  | nil => simp [allow_Change.sums]
  | cons x t ih =>
    have h1 := h x List.mem_cons_self
    have h2 := ih (fun y hy => h y (List.mem_cons_of_mem _ hy))
    simp only [allow_Change.sums]
    split <;> omega
theorem lombardlaw16_AllowTies.both (l : List S50) (h : ∀ x ∈ l, allow_Change.ok x) : allow_Change.sums allow_Change.key21 allow_Change.amt21 l 1 + allow_Change.sums allow_Change.key21 allow_Change.amt21 l 2 + allow_Change.sums allow_Change.key21 allow_Change.amt21 l 3 = allow_Change.sums allow_Change.key23 allow_Change.amt23 l 1 + allow_Change.sums allow_Change.key23 allow_Change.amt23 l 2 + allow_Change.sums allow_Change.key23 allow_Change.amt23 l 3 := by
  induction l with
  | nil => simp [allow_Change.sums]
  | cons x t ih =>
    have h1 := h x List.mem_cons_self
    have h2 := ih (fun y hy => h y (List.mem_cons_of_mem _ hy))
    have e : ∀ f m : Int, (1 ≤ f ∧ f ≤ 3) → (if (1 : Int) = f then m else 0) + (if (2 : Int) = f then m else 0) + (if (3 : Int) = f then m else 0) = m := by
      intro f m hf
      rcases (show f = 1 ∨ f = 2 ∨ f = 3 by omega) with rfl | rfl | rfl <;> simp
    unfold allow_Change.ok at h1
    have e1 := e x.f1 (allow_Change.moved x) ⟨by omega, by omega⟩
    have e2 := e x.f0 (allow_Change.moved x) ⟨by omega, by omega⟩
    simp only [allow_Change.sums, allow_Change.key21, allow_Change.key23, allow_Change.amt21, allow_Change.amt23] at h2 ⊢
    omega
def lombardlaw16_AllowTies.good (r : Row6) (o : Int) : Prop := allow_Ties.f r.o r.i r.u r.n r.w r.c = some true ∧ r.o = o ∧ 0 ≤ r.i ∧ 0 ≤ r.u ∧ 0 ≤ r.w ∧ r.inr
theorem lombardlaw16_AllowTies.good_inr {r : Row6} {o : Int} (h : lombardlaw16_AllowTies.good r o) : r.inr := by unfold lombardlaw16_AllowTies.good at h; exact h.2.2.2.2.2
def ok59 (x : Int) : Prop := -562949953421312000 ≤ x ∧ x ≤ 562949953421312000
theorem lombardlaw16_AllowTies.row_good (l : List S50) (o k : Int) (h : ∀ x ∈ l, allow_Change.ok x) (hl : l.length ≤ 500) (ho : 0 ≤ o ∧ o ≤ 1152921504606846976) : lombardlaw16_AllowTies.good (allow_Roll.row l o k) o ∧ (allow_Roll.row l o k).c = o + (allow_Roll.row l o k).i + (allow_Roll.row l o k).n - (allow_Roll.row l o k).u - (allow_Roll.row l o k).w ∧ ok59 (allow_Roll.row l o k).i ∧ ok59 (allow_Roll.row l o k).u ∧ ok59 (allow_Roll.row l o k).n ∧ ok59 (allow_Roll.row l o k).w := by
  have h1 := sums_bd allow_Change.key21 allow_Change.amt21 l k (fun x hx => (amt_bd (h x hx)).1)
  have h2 := sums_bd allow_Change.key23 allow_Change.amt23 l k (fun x hx => (amt_bd (h x hx)).2.1)
  have h3 := sums_bd allow_Change.key24 allow_Change.amt24 l k (fun x hx => (amt_bd (h x hx)).2.2.1)
  have h4 := sums_bd allow_Change.key25 allow_Change.amt25 l k (fun x hx => (amt_bd (h x hx)).2.2.2)
  have p1 := lombardlaw16_AllowTies.pos_bd allow_Change.key21 allow_Change.amt21 l k (fun x hx => by have := h x hx; unfold allow_Change.ok at this; unfold allow_Change.amt21 allow_Change.moved; split <;> omega)
  have p2 := lombardlaw16_AllowTies.pos_bd allow_Change.key23 allow_Change.amt23 l k (fun x hx => by have := h x hx; unfold allow_Change.ok at this; unfold allow_Change.amt23 allow_Change.moved; split <;> omega)
  have p4 := lombardlaw16_AllowTies.pos_bd allow_Change.key25 allow_Change.amt25 l k (fun x hx => by have := h x hx; unfold allow_Change.ok at this; unfold allow_Change.amt25; omega)
  have hl' : (l.length : Int) ≤ 500 := by omega
  have w0 : okW o := by unfold okW; omega
  rw [row_ok l o k h (by omega) w0]
  generalize allow_Change.sums allow_Change.key21 allow_Change.amt21 l k = I at *
  generalize allow_Change.sums allow_Change.key23 allow_Change.amt23 l k = U at *
  generalize allow_Change.sums allow_Change.key24 allow_Change.amt24 l k = N at *
  generalize allow_Change.sums allow_Change.key25 allow_Change.amt25 l k = V at *
  have wi : okW I := by unfold okW; omega
  have wu : okW U := by unfold okW; omega
  have wn : okW N := by unfold okW; omega
  have wv : okW V := by unfold okW; omega
  refine ⟨⟨?_, rfl, p1, p2, p4, ?_⟩, rfl, by simp only [ok59]; omega, by simp only [ok59]; omega, by simp only [ok59]; omega, by simp only [ok59]; omega⟩
  · unfold allow_Ties.f
    rw [close_ok o I U N V _ w0 wi wu wn wv]
    simp
  · unfold okW at wi wu wn wv
    simp only [Row6.inr, inr64]
    omega
theorem lombardlaw16_AllowTies.zeros {o0 o1 o2 : Int} {l : List S50} {ra rb rc : Row6} {re : Int} (h : allow_Roll.g o0 o1 o2 l = (ra, rb, rc, re)) (he : ¬ re = 0) : ra = Row6.z ∧ rb = Row6.z ∧ rc = Row6.z := by
  unfold allow_Roll.g at h
  split at h
  · simp only [Prod.mk.injEq] at h; exact ⟨h.1.symm, h.2.1.symm, h.2.2.1.symm⟩
  · split at h
    · simp only [Prod.mk.injEq] at h; exact ⟨h.1.symm, h.2.1.symm, h.2.2.1.symm⟩
    · split at h
      · simp only [Prod.mk.injEq] at h; exact ⟨h.1.symm, h.2.1.symm, h.2.2.1.symm⟩
      · simp only [Prod.mk.injEq] at h; exact absurd h.2.2.2.symm he
theorem lombardlaw16_AllowTies.facts {o0 o1 o2 : Int} {l : List S50} {ra rb rc : Row6} (h : allow_Roll.g o0 o1 o2 l = (ra, rb, rc, 0)) (hl : l.length ≤ 500) : lombardlaw16_AllowTies.good ra o0 ∧ lombardlaw16_AllowTies.good rb o1 ∧ lombardlaw16_AllowTies.good rc o2 ∧ ((allow_Net.g ra rb rc).2 = 0 → (allow_Net.g ra rb rc).1.i = (allow_Net.g ra rb rc).1.u ∧ allow_Ties.f (allow_Net.g ra rb rc).1.o (allow_Net.g ra rb rc).1.i (allow_Net.g ra rb rc).1.u (allow_Net.g ra rb rc).1.n (allow_Net.g ra rb rc).1.w (allow_Net.g ra rb rc).1.c = some true) := by
  obtain ⟨hok, hO, rfl, rfl, rfl⟩ := g_ok h
  unfold allow_Roll.okO at hO
  obtain ⟨ga, ca, a1, a2, a3, a4⟩ := lombardlaw16_AllowTies.row_good l o0 1 hok hl ⟨hO.1, hO.2.1⟩
  obtain ⟨gb, cb, b1, b2, b3, b4⟩ := lombardlaw16_AllowTies.row_good l o1 2 hok hl ⟨hO.2.2.1, hO.2.2.2.1⟩
  obtain ⟨gc, cc, c1, c2, c3, c4⟩ := lombardlaw16_AllowTies.row_good l o2 3 hok hl ⟨hO.2.2.2.2.1, hO.2.2.2.2.2⟩
  refine ⟨ga, gb, gc, fun he => ?_⟩
  have hb := lombardlaw16_AllowTies.both l hok
  have eo : (allow_Roll.row l o0 1).o = o0 := rfl
  have eo1 : (allow_Roll.row l o1 2).o = o1 := rfl
  have eo2 : (allow_Roll.row l o2 3).o = o2 := rfl
  have ei : (allow_Roll.row l o0 1).i + (allow_Roll.row l o1 2).i + (allow_Roll.row l o2 3).i = (allow_Roll.row l o0 1).u + (allow_Roll.row l o1 2).u + (allow_Roll.row l o2 3).u := hb
  generalize allow_Roll.row l o0 1 = A at *
  generalize allow_Roll.row l o1 2 = B at *
  generalize allow_Roll.row l o2 3 = C at *
  unfold allow_Net.g at he ⊢
  split
  · refine ⟨ei, ?_⟩
    unfold ok59 at *
    unfold allow_Ties.f allow_Row_close.f
    simp only
    rw [add_ok (A.o + B.o + C.o) (A.i + B.i + C.i) (by omega)]
    simp only [Option.bind_some, if_true]
    rw [add_ok (A.o + B.o + C.o + (A.i + B.i + C.i)) (A.n + B.n + C.n) (by omega)]
    simp only [Option.bind_some, if_true]
    rw [sub_ok (A.o + B.o + C.o + (A.i + B.i + C.i) + (A.n + B.n + C.n)) (A.u + B.u + C.u) (by omega)]
    simp only [Option.bind_some, if_true]
    rw [sub_ok (A.o + B.o + C.o + (A.i + B.i + C.i) + (A.n + B.n + C.n) - (A.u + B.u + C.u)) (A.w + B.w + C.w) (by omega)]
    simp only [Option.bind_some, if_true]
    congr 1
    rw [beq_iff_eq]
    omega
  · rename_i hn
    rw [if_neg hn] at he
    simp at he
def lombardlaw16_AllowTies.f (o0 o1 o2 : Int) (l : List S40) : Option Bool := some true
theorem lombardlaw16_AllowTies.tcl (a : Row6) (h : allow_Ties.f a.o a.i a.u a.n a.w a.c = some true) (w : World) : Calls Try.prog 16 #[.agg #[.int .i64 a.o, .int .i64 a.i, .int .i64 a.u, .int .i64 a.n, .int .i64 a.w, .int .i64 a.c]] w fun e w' => e = .returned (.bool true) ∧ Below w.heap.size w w' := allow_Ties.calls _ _ _ _ _ _ true w h
theorem lombardlaw16_AllowTies.netc (a b c : Row6) (ha : Aside0 a.inr) (hb0 : Aside0 b.inr) (hc : Aside0 c.inr) (w : World) {n : Row6} {e : Int} (h : allow_Net.g a b c = (n, e)) : Calls Try.prog 14 #[.agg (row18 a b c)] w fun e_ w' => e_ = .returned (.tuple #[.agg (row6 n), .int .i64 e]) ∧ Below w.heap.size w w' :=
  allow_Net.go_ a b c ha hb0 hc w (r := (n, e)) ⟨h⟩
theorem lombardlaw16_AllowTies.eqz (d : Nat) (W : World) : (Op.equalIn (d + 3) 27 (.agg (row18 Row6.z Row6.z Row6.z)) (.agg #[.int .i64 0, .int .i64 0, .int .i64 0, .int .i64 0, .int .i64 0, .int .i64 0, .int .i64 0, .int .i64 0, .int .i64 0, .int .i64 0, .int .i64 0, .int .i64 0, .int .i64 0, .int .i64 0, .int .i64 0, .int .i64 0, .int .i64 0, .int .i64 0])).run Try.prog W = .ok true W := run_eqRows d W Row6.z Row6.z Row6.z Row6.z Row6.z Row6.z
set_option maxHeartbeats 16000000 in
set_option maxRecDepth 100000 in
theorem lombardlaw16_AllowTies.walk (A : Option Addr) (c : Nat) (l : List S40) (o0 o1 o2 : Int) (w : World) (hr : Kd.C k40 w A l.length l) (hc : l.length ≤ c) (hl : l.length ≤ 500)
    {ra rb rc : Row6} {re : Int} (rh : Aside0 (allow_Roll.g o0 o1 o2 (l.map cv) = (ra, rb, rc, re))) :
    Calls Try.prog 8 #[.agg #[.int .i64 o0, .int .i64 o1, .int .i64 o2], .slice A l.length c] w fun e w' => e = .returned (.bool true) ∧ Below w.heap.size w w' := by
  have HR := Aside0.mk hr
  have HC := Aside0.mk hc
  clear hr hc
  go_enter Try.func8, Try.ntmps8
  go_wp2_with fail
  with_reducible refine (lombardlaw16_alive.calls true _ rfl).mono ?_
  rintro e w1 ⟨rfl, hb⟩
  have HB := Aside0.mk (below_step (w := w) (below_alloc (Below.refl _ _) _) hb)
  have BK3 := Aside0.mk (blk_below (blk_new w (.cells #[.int .i64 o0, .int .i64 o1, .int .i64 o2] 22)) hb)
  clear hb
  go_wp2_with fail
  have n_HB := Aside0.mk (below_drew1 HB.out)
  have n_BK3 := Aside0.mk (blk_drew BK3.out)
  clear HB BK3
  have HB := n_HB
  clear n_HB
  have BK3 := n_BK3
  clear n_BK3
  refine start_ (n := 10) (S := fun w' => w'.cell? ⟨w.heap.size, 0, none⟩ = some (.int .i64 o0) ∧ w'.cell? ⟨w.heap.size, 1, none⟩ = some (.int .i64 o1) ∧ w'.cell? ⟨w.heap.size, 2, none⟩ = some (.int .i64 o2)) (ds := [8]) #[false, false, false, false, false, false, false, false, false, false] (by kernel_rfl) rfl rfl ⟨(blk_cell BK3.out 0).trans rfl, (blk_cell BK3.out 1).trans rfl, (blk_cell BK3.out 2).trans rfl⟩ (fun hHeld => ?_)
  generalize w1.drew = w2 at HB BK3 hHeld ⊢
  refine pure_ (i := 1) (N := some 18) (v := ?_) (a' := ?_) #[false, true, false, false, false, false, false, false, false, false] rfl rfl (by kernel_rfl) (fun _ _ _ h => h) (Or.inl ⟨by rfl, ?_⟩) ?_ ?_
  rotate_left
  · intro w'
    go_simp
    with_reducible rfl
  rotate_left
  · simp only [Act.put, List.setIfInBounds_toArray, List.set_cons_zero, List.set_cons_succ, i64_w, i32_w]
    rfl
  refine take_ (i := 0) (N := some 17) (v := ?_) (a' := ?_) #[true, true, false, false, false, false, false, false, false, false] rfl rfl (by kernel_rfl) (fun _ _ _ h => h) (Or.inl ⟨by rfl, ?_⟩) hHeld ?_ ?_
  rotate_left
  · rintro w' ⟨s0, s1, s2⟩
    go_simp
    with_reducible rfl
  rotate_left
  · simp only [Act.put, List.setIfInBounds_toArray, List.set_cons_zero, List.set_cons_succ, i64_w, i32_w]
    rfl
  refine join_ (σ := Option Addr × Nat × Nat) 2 #[true, true, true, true, true, true, true, true, false, false] (fun s_ => [(19, .slice s_.1 ((l).map cv).length s_.2.1), (20, .tuple #[.agg (row18 ra rb rc), .int .i64 re]), (16, .tuple #[.agg (row18 ra rb rc), .int .i64 re]), (21, .agg (row18 ra rb rc)), (22, .int .i64 re), (5, .pointer (some ⟨s_.2.2, 0, none⟩))]) (fun s_ w' => (w'.cell? ⟨w.heap.size, 0, none⟩ = some (.int .i64 o0)) ∧ (w'.cell? ⟨w.heap.size, 1, none⟩ = some (.int .i64 o1)) ∧ (w'.cell? ⟨w.heap.size, 2, none⟩ = some (.int .i64 o2)) ∧ (w'.heap[w.heap.size]? = some (.cells #[.int .i64 o0, .int .i64 o1, .int .i64 o2] 22 (0, 0))) ∧ (w'.heap[s_.2.2]? = some (.cells (row18 Row6.z Row6.z Row6.z) 27 (0, 0))) ∧ (w.heap.size + 1 ≤ s_.2.2) ∧ (Below w.heap.size w w')) ?_ ?_
  rotate_left
  · intro hCont
    refine two_ (i := 2) (j := 7) (Ni := some 19) (Nj := some 5) #[true, true, true, false, false, false, false, false, false, false] #[true, true, false, false, false, false, false, true, false, false] rfl rfl rfl rfl (by kernel_rfl) (by decide) (by decide) (fun K hK => ?_) (fun K hK => ?_)
    · skip
      refine goes_ Try.func11 (by kernel_rfl) rfl #[.slice (A) (l).length (c)] (by rfl) rfl rfl (by (try simp only [List.map_toArray, List.map_cons, List.map_nil]); first | done | rfl) ?_
      with_reducible refine (to_pl (A) (c) (l) _ (Kd.C_below HR.out HB.out) HC.out (by omega)).mono ?_
      rintro e y2_ ⟨v_, rfl, ho, hb⟩
      refine ⟨_, rfl, ?_⟩
      have m_R19 := Aside0.mk (Kd.R_lower ho (below_size HB.out))
      have n_HB := Aside0.mk (below_step HB.out hb)
      have n_BK3 := Aside0.mk (blk_below BK3.out hb)
      clear HB
      have HB := n_HB
      clear n_HB
      clear BK3
      have BK3 := n_BK3
      clear n_BK3
      clear hb
      have R19 := m_R19
      clear m_R19
      clear ho
      obtain ⟨A19, c19, eo⟩ := Kd.R_slice R19.out
      subst eo
      refine hK.out _ _ ⟨(blk_cell BK3.out 0).trans rfl, (blk_cell BK3.out 1).trans rfl, (blk_cell BK3.out 2).trans rfl⟩ (fun hHeld => ?_)
      clear hK K
      refine norm_ (a' := ?_) ?_ ?_
      rotate_left
      · show Act.put _ (some 19) _ = _
        simp only [Act.put, List.setIfInBounds_toArray, List.set_cons_zero, List.set_cons_succ, i64_w, i32_w]
        rfl
      refine two_ (i := 3) (j := 7) (Ni := some 20) (Nj := some 5) #[true, true, true, true, false, false, false, false, false, false] #[true, true, true, false, false, false, false, true, false, false] rfl rfl rfl rfl (by kernel_rfl) (by decide) (by decide) (fun K hK => ?_) (fun K hK => ?_)
      · skip
        refine goes_ Try.func10 (by kernel_rfl) rfl #[.agg #[.int .i64 o0, .int .i64 o1, .int .i64 o2], .slice A19 (l.map cv).length c19] (by rfl) rfl rfl (by (try simp only [List.map_toArray, List.map_cons, List.map_nil]); first | done | rfl) ?_
        with_reducible refine (roll_eq rh.out _ _ _ (Kd.R_reads' R19.out).2.2 (Kd.R_reads' R19.out).2.1).mono ?_
        rintro e y3_ ⟨rfl, hb⟩
        refine ⟨_, rfl, ?_⟩
        have n_HB := Aside0.mk (below_step HB.out hb)
        have n_BK3 := Aside0.mk (blk_below BK3.out hb)
        clear HB
        have HB := n_HB
        clear n_HB
        clear BK3
        have BK3 := n_BK3
        clear n_BK3
        clear hb
        clear R19
        refine hK.out _ _ ⟨(blk_cell BK3.out 0).trans rfl, (blk_cell BK3.out 1).trans rfl, (blk_cell BK3.out 2).trans rfl⟩ (fun hHeld => ?_)
        clear hK K
        refine norm_ (a' := ?_) ?_ ?_
        rotate_left
        · show Act.put _ (some 20) _ = _
          simp only [Act.put, List.setIfInBounds_toArray, List.set_cons_zero, List.set_cons_succ, i64_w, i32_w]
          rfl
        refine pure_ (i := 4) (N := some 16) (v := ?_) (a' := ?_) #[true, true, true, true, true, false, false, false, false, false] rfl rfl (by kernel_rfl) (fun _ _ _ h => h) (Or.inl ⟨by rfl, ?_⟩) ?_ ?_
        rotate_left
        · intro w'
          go_simp
          with_reducible rfl
        rotate_left
        · simp only [Act.put, List.setIfInBounds_toArray, List.set_cons_zero, List.set_cons_succ, i64_w, i32_w]
          rfl
        refine pure_ (i := 5) (N := some 21) (v := ?_) (a' := ?_) #[true, true, true, true, true, true, false, false, false, false] rfl rfl (by kernel_rfl) (fun _ _ _ h => h) (Or.inl ⟨by rfl, ?_⟩) ?_ ?_
        rotate_left
        · intro w'
          go_simp
          with_reducible rfl
        rotate_left
        · simp only [Act.put, List.setIfInBounds_toArray, List.set_cons_zero, List.set_cons_succ, i64_w, i32_w]
          rfl
        refine pure_ (i := 6) (N := some 22) (v := ?_) (a' := ?_) #[true, true, true, true, true, true, true, false, false, false] rfl rfl (by kernel_rfl) (fun _ _ _ h => h) (Or.inl ⟨by rfl, ?_⟩) ?_ ?_
        rotate_left
        · intro w'
          go_simp
          with_reducible rfl
        rotate_left
        · simp only [Act.put, List.setIfInBounds_toArray, List.set_cons_zero, List.set_cons_succ, i64_w, i32_w]
          rfl
        refine one_ (i := 7) (N := some 5) #[true, true, true, true, true, true, true, true, false, false] rfl rfl (by kernel_rfl) (by decide) (fun K hK => ?_)
        refine box_step ?hg (N := 5) ?hd (cs := row18 Row6.z Row6.z Row6.z) (t := 27) ?hr ?_; (case hd => rfl); (case hg => rfl); (case hr => first | (go_simp; done) | (go_simp; rfl))
        intro g5 hg y4_ hbox hb
        have GE5 : w.heap.size + 1 ≤ g5 := by have := blk_lt BK3.out; omega
        have m_ := Aside0.mk hbox
        have n_HB := Aside0.mk (below_step HB.out hb)
        have n_BK3 := Aside0.mk (blk_below BK3.out hb)
        clear HB
        have HB := n_HB
        clear n_HB
        clear BK3
        have BK3 := n_BK3
        clear n_BK3
        clear hb hbox hg
        have BKg5 := m_
        clear m_
        refine hK.out _ _ ⟨(blk_cell BK3.out 0).trans rfl, (blk_cell BK3.out 1).trans rfl, (blk_cell BK3.out 2).trans rfl⟩ (fun hHeld => ?_)
        clear hK K
        refine norm_ (a' := ?_) ?_ ?_
        rotate_left
        · show Act.put _ (some 5) _ = _
          simp only [Act.put, List.setIfInBounds_toArray, List.set_cons_zero, List.set_cons_succ, i64_w, i32_w]
          rfl
        exact norm_ (by simp only [putAll, Act.put, List.setIfInBounds_toArray, List.set_cons_zero, List.set_cons_succ]) (hCont (A19, c19, g5) _ ⟨(blk_cell BK3.out 0).trans rfl, (blk_cell BK3.out 1).trans rfl, (blk_cell BK3.out 2).trans rfl, BK3.out, BKg5.out, GE5, HB.out⟩)
      · skip
        refine box_step ?hg (N := 5) ?hd (cs := row18 Row6.z Row6.z Row6.z) (t := 27) ?hr ?_; (case hd => rfl); (case hg => rfl); (case hr => first | (go_simp; done) | (go_simp; rfl))
        intro g5 hg y5_ hbox hb
        have GE5 : w.heap.size + 1 ≤ g5 := by have := blk_lt BK3.out; omega
        have m_ := Aside0.mk hbox
        have n_HB := Aside0.mk (below_step HB.out hb)
        have n_BK3 := Aside0.mk (blk_below BK3.out hb)
        have n_R19 := Aside0.mk (Kd.R_below R19.out hb)
        clear HB
        have HB := n_HB
        clear n_HB
        clear BK3
        have BK3 := n_BK3
        clear n_BK3
        clear R19
        have R19 := n_R19
        clear n_R19
        clear hb hbox hg
        have BKg5 := m_
        clear m_
        refine hK.out _ _ ⟨(blk_cell BK3.out 0).trans rfl, (blk_cell BK3.out 1).trans rfl, (blk_cell BK3.out 2).trans rfl⟩ (fun hHeld => ?_)
        clear hK K
        refine norm_ (a' := ?_) ?_ ?_
        rotate_left
        · show Act.put _ (some 5) _ = _
          simp only [Act.put, List.setIfInBounds_toArray, List.set_cons_zero, List.set_cons_succ, i64_w, i32_w]
          rfl
        refine one_ (i := 3) (N := some 20) #[true, true, true, true, false, false, false, true, false, false] rfl rfl (by kernel_rfl) (by decide) (fun K hK => ?_)
        refine goes_ Try.func10 (by kernel_rfl) rfl #[.agg #[.int .i64 o0, .int .i64 o1, .int .i64 o2], .slice A19 (l.map cv).length c19] (by rfl) rfl rfl (by (try simp only [List.map_toArray, List.map_cons, List.map_nil]); first | done | rfl) ?_
        with_reducible refine (roll_eq rh.out _ _ _ (Kd.R_reads' R19.out).2.2 (Kd.R_reads' R19.out).2.1).mono ?_
        rintro e y6_ ⟨rfl, hb⟩
        refine ⟨_, rfl, ?_⟩
        have n_HB := Aside0.mk (below_step HB.out hb)
        have n_BK3 := Aside0.mk (blk_below BK3.out hb)
        have n_BKg5 := Aside0.mk (blk_below BKg5.out hb)
        clear HB
        have HB := n_HB
        clear n_HB
        clear BK3
        have BK3 := n_BK3
        clear n_BK3
        clear BKg5
        have BKg5 := n_BKg5
        clear n_BKg5
        clear hb
        clear R19
        refine hK.out _ _ ⟨(blk_cell BK3.out 0).trans rfl, (blk_cell BK3.out 1).trans rfl, (blk_cell BK3.out 2).trans rfl⟩ (fun hHeld => ?_)
        clear hK K
        refine norm_ (a' := ?_) ?_ ?_
        rotate_left
        · show Act.put _ (some 20) _ = _
          simp only [Act.put, List.setIfInBounds_toArray, List.set_cons_zero, List.set_cons_succ, i64_w, i32_w]
          rfl
        refine pure_ (i := 4) (N := some 16) (v := ?_) (a' := ?_) #[true, true, true, true, true, false, false, true, false, false] rfl rfl (by kernel_rfl) (fun _ _ _ h => h) (Or.inl ⟨by rfl, ?_⟩) ?_ ?_
        rotate_left
        · intro w'
          go_simp
          with_reducible rfl
        rotate_left
        · simp only [Act.put, List.setIfInBounds_toArray, List.set_cons_zero, List.set_cons_succ, i64_w, i32_w]
          rfl
        refine pure_ (i := 5) (N := some 21) (v := ?_) (a' := ?_) #[true, true, true, true, true, true, false, true, false, false] rfl rfl (by kernel_rfl) (fun _ _ _ h => h) (Or.inl ⟨by rfl, ?_⟩) ?_ ?_
        rotate_left
        · intro w'
          go_simp
          with_reducible rfl
        rotate_left
        · simp only [Act.put, List.setIfInBounds_toArray, List.set_cons_zero, List.set_cons_succ, i64_w, i32_w]
          rfl
        refine pure_ (i := 6) (N := some 22) (v := ?_) (a' := ?_) #[true, true, true, true, true, true, true, true, false, false] rfl rfl (by kernel_rfl) (fun _ _ _ h => h) (Or.inl ⟨by rfl, ?_⟩) ?_ ?_
        rotate_left
        · intro w'
          go_simp
          with_reducible rfl
        rotate_left
        · simp only [Act.put, List.setIfInBounds_toArray, List.set_cons_zero, List.set_cons_succ, i64_w, i32_w]
          rfl
        exact norm_ (by simp only [putAll, Act.put, List.setIfInBounds_toArray, List.set_cons_zero, List.set_cons_succ]) (hCont (A19, c19, g5) _ ⟨(blk_cell BK3.out 0).trans rfl, (blk_cell BK3.out 1).trans rfl, (blk_cell BK3.out 2).trans rfl, BK3.out, BKg5.out, GE5, HB.out⟩)
    · skip
      refine box_step ?hg (N := 5) ?hd (cs := row18 Row6.z Row6.z Row6.z) (t := 27) ?hr ?_; (case hd => rfl); (case hg => rfl); (case hr => first | (go_simp; done) | (go_simp; rfl))
      intro g5 hg y7_ hbox hb
      have GE5 : w.heap.size + 1 ≤ g5 := by have := blk_lt BK3.out; omega
      have m_ := Aside0.mk hbox
      have n_HB := Aside0.mk (below_step HB.out hb)
      have n_BK3 := Aside0.mk (blk_below BK3.out hb)
      clear HB
      have HB := n_HB
      clear n_HB
      clear BK3
      have BK3 := n_BK3
      clear n_BK3
      clear hb hbox hg
      have BKg5 := m_
      clear m_
      refine hK.out _ _ ⟨(blk_cell BK3.out 0).trans rfl, (blk_cell BK3.out 1).trans rfl, (blk_cell BK3.out 2).trans rfl⟩ (fun hHeld => ?_)
      clear hK K
      refine norm_ (a' := ?_) ?_ ?_
      rotate_left
      · show Act.put _ (some 5) _ = _
        simp only [Act.put, List.setIfInBounds_toArray, List.set_cons_zero, List.set_cons_succ, i64_w, i32_w]
        rfl
      refine one_ (i := 2) (N := some 19) #[true, true, true, false, false, false, false, true, false, false] rfl rfl (by kernel_rfl) (by decide) (fun K hK => ?_)
      refine goes_ Try.func11 (by kernel_rfl) rfl #[.slice (A) (l).length (c)] (by rfl) rfl rfl (by (try simp only [List.map_toArray, List.map_cons, List.map_nil]); first | done | rfl) ?_
      with_reducible refine (to_pl (A) (c) (l) _ (Kd.C_below HR.out HB.out) HC.out (by omega)).mono ?_
      rintro e y8_ ⟨v_, rfl, ho, hb⟩
      refine ⟨_, rfl, ?_⟩
      have m_R19 := Aside0.mk (Kd.R_lower ho (below_size HB.out))
      have n_HB := Aside0.mk (below_step HB.out hb)
      have n_BK3 := Aside0.mk (blk_below BK3.out hb)
      have n_BKg5 := Aside0.mk (blk_below BKg5.out hb)
      clear HB
      have HB := n_HB
      clear n_HB
      clear BK3
      have BK3 := n_BK3
      clear n_BK3
      clear BKg5
      have BKg5 := n_BKg5
      clear n_BKg5
      clear hb
      have R19 := m_R19
      clear m_R19
      clear ho
      obtain ⟨A19, c19, eo⟩ := Kd.R_slice R19.out
      subst eo
      refine hK.out _ _ ⟨(blk_cell BK3.out 0).trans rfl, (blk_cell BK3.out 1).trans rfl, (blk_cell BK3.out 2).trans rfl⟩ (fun hHeld => ?_)
      clear hK K
      refine norm_ (a' := ?_) ?_ ?_
      rotate_left
      · show Act.put _ (some 19) _ = _
        simp only [Act.put, List.setIfInBounds_toArray, List.set_cons_zero, List.set_cons_succ, i64_w, i32_w]
        rfl
      refine one_ (i := 3) (N := some 20) #[true, true, true, true, false, false, false, true, false, false] rfl rfl (by kernel_rfl) (by decide) (fun K hK => ?_)
      refine goes_ Try.func10 (by kernel_rfl) rfl #[.agg #[.int .i64 o0, .int .i64 o1, .int .i64 o2], .slice A19 (l.map cv).length c19] (by rfl) rfl rfl (by (try simp only [List.map_toArray, List.map_cons, List.map_nil]); first | done | rfl) ?_
      with_reducible refine (roll_eq rh.out _ _ _ (Kd.R_reads' R19.out).2.2 (Kd.R_reads' R19.out).2.1).mono ?_
      rintro e y9_ ⟨rfl, hb⟩
      refine ⟨_, rfl, ?_⟩
      have n_HB := Aside0.mk (below_step HB.out hb)
      have n_BK3 := Aside0.mk (blk_below BK3.out hb)
      have n_BKg5 := Aside0.mk (blk_below BKg5.out hb)
      clear HB
      have HB := n_HB
      clear n_HB
      clear BK3
      have BK3 := n_BK3
      clear n_BK3
      clear BKg5
      have BKg5 := n_BKg5
      clear n_BKg5
      clear hb
      clear R19
      refine hK.out _ _ ⟨(blk_cell BK3.out 0).trans rfl, (blk_cell BK3.out 1).trans rfl, (blk_cell BK3.out 2).trans rfl⟩ (fun hHeld => ?_)
      clear hK K
      refine norm_ (a' := ?_) ?_ ?_
      rotate_left
      · show Act.put _ (some 20) _ = _
        simp only [Act.put, List.setIfInBounds_toArray, List.set_cons_zero, List.set_cons_succ, i64_w, i32_w]
        rfl
      refine pure_ (i := 4) (N := some 16) (v := ?_) (a' := ?_) #[true, true, true, true, true, false, false, true, false, false] rfl rfl (by kernel_rfl) (fun _ _ _ h => h) (Or.inl ⟨by rfl, ?_⟩) ?_ ?_
      rotate_left
      · intro w'
        go_simp
        with_reducible rfl
      rotate_left
      · simp only [Act.put, List.setIfInBounds_toArray, List.set_cons_zero, List.set_cons_succ, i64_w, i32_w]
        rfl
      refine pure_ (i := 5) (N := some 21) (v := ?_) (a' := ?_) #[true, true, true, true, true, true, false, true, false, false] rfl rfl (by kernel_rfl) (fun _ _ _ h => h) (Or.inl ⟨by rfl, ?_⟩) ?_ ?_
      rotate_left
      · intro w'
        go_simp
        with_reducible rfl
      rotate_left
      · simp only [Act.put, List.setIfInBounds_toArray, List.set_cons_zero, List.set_cons_succ, i64_w, i32_w]
        rfl
      refine pure_ (i := 6) (N := some 22) (v := ?_) (a' := ?_) #[true, true, true, true, true, true, true, true, false, false] rfl rfl (by kernel_rfl) (fun _ _ _ h => h) (Or.inl ⟨by rfl, ?_⟩) ?_ ?_
      rotate_left
      · intro w'
        go_simp
        with_reducible rfl
      rotate_left
      · simp only [Act.put, List.setIfInBounds_toArray, List.set_cons_zero, List.set_cons_succ, i64_w, i32_w]
        rfl
      exact norm_ (by simp only [putAll, Act.put, List.setIfInBounds_toArray, List.set_cons_zero, List.set_cons_succ]) (hCont (A19, c19, g5) _ ⟨(blk_cell BK3.out 0).trans rfl, (blk_cell BK3.out 1).trans rfl, (blk_cell BK3.out 2).trans rfl, BK3.out, BKg5.out, GE5, HB.out⟩)
  clear hHeld HB BK3
  rintro ⟨A19, c19, g5⟩ y1_ ⟨hS0_, hS1_, hS2_, h_BK3, h_BKg5, h_GE5, h_HB⟩
  have BK3 : Aside0 (y1_.heap[w.heap.size]? = some (.cells #[.int .i64 o0, .int .i64 o1, .int .i64 o2] 22 (0, 0))) := Aside0.mk (h_BK3)
  clear h_BK3
  have BKg5 : Aside0 (y1_.heap[g5]? = some (.cells (row18 Row6.z Row6.z Row6.z) 27 (0, 0))) := Aside0.mk (h_BKg5)
  clear h_BKg5
  have GE5 : w.heap.size + 1 ≤ g5 := h_GE5
  clear h_GE5
  have HB : Aside0 (Below w.heap.size w y1_) := Aside0.mk (h_HB)
  clear h_HB
  have hHeld : y1_.cell? ⟨w.heap.size, 0, none⟩ = some (.int .i64 o0) ∧ y1_.cell? ⟨w.heap.size, 1, none⟩ = some (.int .i64 o1) ∧ y1_.cell? ⟨w.heap.size, 2, none⟩ = some (.int .i64 o2) := ⟨hS0_, hS1_, hS2_⟩
  clear hS0_ hS1_ hS2_
  refine norm_ (a' := ?_) ?_ ?_
  rotate_left
  · simp only [putAll, Act.put, List.setIfInBounds_toArray, List.set_cons_zero, List.set_cons_succ]
    rfl
  refine last_ (i := 8) (N := none) #[true, true, true, true, true, true, true, true, true, false] rfl rfl (by kernel_rfl) (by decide) (fun K hK => ?_)
  refine skip_ (w1 := y1_.setRow g5 (row18 ra rb rc)) (by rfl) rfl (store_run 27 (.tmp 5) (.tmp 21) rfl g5 _ rfl rfl 27 _ BKg5.out (by kernel_rfl) rfl (row18_all _ _ _)) ?_
  have n_HB := Aside0.mk (row_below (g := g5) HB.out (by omega) (row18 ra rb rc))
  have n_BK3 := Aside0.mk ((setRow_other y1_ g5 w.heap.size (row18 ra rb rc) (by omega)).trans BK3.out)
  have n_BK5 := Aside0.mk (setRow_heap _ _ _ (row18 ra rb rc) _ _ BKg5.out)
  clear BK3 BKg5 HB
  generalize y1_.setRow g5 (row18 ra rb rc) = y5 at n_HB n_BK3 n_BK5 ⊢
  have HB := n_HB
  clear n_HB
  have BK3 := n_BK3
  clear n_BK3
  have BK5 := n_BK5
  clear n_BK5
  refine hK.out _ _ ?_
  clear hK K
  refine pure_ (i := 9) (N := some 6) (v := ?_) (a' := ?_) #[true, true, true, true, true, true, true, true, true, true] rfl rfl (by kernel_rfl) (fun _ _ _ h => h) (Or.inl ⟨by rfl, ?_⟩) ?_ ?_
  rotate_left
  · intro w'
    go_simp
    with_reducible rfl
  rotate_left
  · simp only [Act.put, List.setIfInBounds_toArray, List.set_cons_zero, List.set_cons_succ, i64_w, i32_w]
    rfl
  refine done_ (by kernel_rfl) ?_
  clear hHeld
  by_cases hre : re = 0
  case neg =>
    have hb1 : (re == 0) = false := by simpa using hre
    have hb2 : (re != 0) = true := by simpa using hre
    obtain ⟨rfl, rfl, rfl⟩ := lombardlaw16_AllowTies.zeros rh.out hre
    clear hre
    have heq := fun d W => lombardlaw16_AllowTies.eqz d W
    go_wp2_with ((with_reducible refine gate_dst (N := 25) rfl ?_); refine wpList_load_row rfl 27 (.tmp 5) rfl g5 rfl 27 _ (0, 0) _ BK5.out Try.underlying27 rfl (by kernel_rfl) ?_)
    go_ret
    exact ⟨rfl, HB.out⟩
  subst hre
  obtain ⟨ga, gb, gc, gn⟩ := lombardlaw16_AllowTies.facts rh.out (by simpa using hl)
  have GA := Aside0.mk ga
  have GB := Aside0.mk gb
  have GC := Aside0.mk gc
  have GN := Aside0.mk gn
  clear ga gb gc gn
  have hix0 := fun W => lombardlaw16_rows.ix0 ra rb rc W
  have hix1 := fun W => lombardlaw16_rows.ix1 ra rb rc W
  have hix2 := fun W => lombardlaw16_rows.ix2 ra rb rc W
  go_wp2_with ((with_reducible refine gate_dst (N := 28) rfl ?_); refine wpList_load_row rfl 27 (.tmp 5) rfl g5 rfl 27 _ (0, 0) _ BK5.out Try.underlying27 rfl (by kernel_rfl) ?_)
  refine wp_loop_rounds 4 ?_
  rw [rounds_succ]
  obtain ⟨hnb, hnk⟩ := newrow6 y5 #[.int .i64 0, .int .i64 0, .int .i64 0, .int .i64 0, .int .i64 0, .int .i64 0] #[.int .i64 ra.o, .int .i64 ra.i, .int .i64 ra.u, .int .i64 ra.n, .int .i64 ra.w, .int .i64 ra.c] 26
  go_wp2_with ((with_reducible refine gate_store (t := 26) (p := 8) (v := .tmp 32) rfl ?_); refine Shut.out ?_)
  unfold Shut
  refine store_rowTo rfl 26 (.tmp 8) (.tmp 32) rfl rfl y5.heap.size #[.int .i64 ra.o, .int .i64 ra.i, .int .i64 ra.u, .int .i64 ra.n, .int .i64 ra.w, .int .i64 ra.c] rfl rfl 26 _ (blk_new y5 _) (by kernel_rfl) rfl (all6 _ _ _ _ _ _) ?_
  have n_HB := Aside0.mk (below_step HB.out hnb)
  have n_BK3 := Aside0.mk (blk_below BK3.out hnb)
  have n_BK5 := Aside0.mk (blk_below BK5.out hnb)
  have n_BK8 := Aside0.mk hnk
  clear HB BK3 BK5 hnb hnk
  generalize (y5.alloc (.cells #[.int .i64 0, .int .i64 0, .int .i64 0, .int .i64 0, .int .i64 0, .int .i64 0] 26)).setRow y5.heap.size #[.int .i64 ra.o, .int .i64 ra.i, .int .i64 ra.u, .int .i64 ra.n, .int .i64 ra.w, .int .i64 ra.c] = z0 at n_HB n_BK3 n_BK5 n_BK8 ⊢
  generalize y5.heap.size = g8 at n_BK8 ⊢
  have HB := n_HB
  clear n_HB
  have BK3 := n_BK3
  clear n_BK3
  have BK5 := n_BK5
  clear n_BK5
  have BK8 := n_BK8
  clear n_BK8
  go_wp2_with fail
  obtain ⟨t0, t1, t2, t3, t4, t5⟩ := GA.out
  have T0 := Aside0.mk t0
  have q1 : (ra.o != o0) = false := by rw [t1]; simp
  have q2 : decide (ra.i < 0) = false := decide_eq_false (by omega)
  have q3 : decide (ra.u < 0) = false := decide_eq_false (by omega)
  have q4 : decide (ra.w < 0) = false := decide_eq_false (by omega)
  clear t0 t1 t2 t3 t4 t5
  have n_HB := Aside0.mk (below_drew1 HB.out)
  have n_BK3 := Aside0.mk (blk_drew BK3.out)
  have n_BK5 := Aside0.mk (blk_drew BK5.out)
  have n_BK8 := Aside0.mk (blk_drew BK8.out)
  clear HB BK3 BK5 BK8
  have HB := n_HB
  clear n_HB
  have BK3 := n_BK3
  clear n_BK3
  have BK5 := n_BK5
  clear n_BK5
  have BK8 := n_BK8
  clear n_BK8
  refine start_ (n := 26) (S := fun w' => w'.cell? ⟨g8, 0, none⟩ = some (.int .i64 ra.o) ∧ w'.cell? ⟨g8, 1, none⟩ = some (.int .i64 ra.i) ∧ w'.cell? ⟨g8, 2, none⟩ = some (.int .i64 ra.u) ∧ w'.cell? ⟨g8, 3, none⟩ = some (.int .i64 ra.n) ∧ w'.cell? ⟨g8, 4, none⟩ = some (.int .i64 ra.w) ∧ w'.cell? ⟨g8, 5, none⟩ = some (.int .i64 ra.c) ∧ w'.cell? ⟨w.heap.size, 0, none⟩ = some (.int .i64 o0)) (ds := []) #[false, false, false, false, false, false, false, false, false, false, false, false, false, false, false, false, false, false, false, false, false, false, false, false, false, false] (by kernel_rfl) rfl rfl ⟨(blk_cell BK8.out 0).trans rfl, (blk_cell BK8.out 1).trans rfl, (blk_cell BK8.out 2).trans rfl, (blk_cell BK8.out 3).trans rfl, (blk_cell BK8.out 4).trans rfl, (blk_cell BK8.out 5).trans rfl, (blk_cell BK3.out 0).trans rfl⟩ (fun hHeld => ?_)
  generalize z0.drew = x0 at HB BK3 BK5 BK8 hHeld ⊢
  refine take_ (i := 0) (N := some 33) (v := ?_) (a' := ?_) #[true, false, false, false, false, false, false, false, false, false, false, false, false, false, false, false, false, false, false, false, false, false, false, false, false, false] rfl rfl (by kernel_rfl) (fun _ _ _ h => h) (Or.inl ⟨by rfl, ?_⟩) hHeld ?_ ?_
  rotate_left
  · rintro w' ⟨s0, s1, s2, s3, s4, s5, s6⟩
    go_simp
    with_reducible rfl
  rotate_left
  · simp only [Act.put, List.setIfInBounds_toArray, List.set_cons_zero, List.set_cons_succ, i64_w, i32_w]
    rfl
  refine one_ (i := 1) (N := some 34) #[true, true, false, false, false, false, false, false, false, false, false, false, false, false, false, false, false, false, false, false, false, false, false, false, false, false] rfl rfl (by kernel_rfl) (by decide) (fun K hK => ?_)
  refine goes_ Try.func16 (by kernel_rfl) rfl #[.agg #[.int .i64 ra.o, .int .i64 ra.i, .int .i64 ra.u, .int .i64 ra.n, .int .i64 ra.w, .int .i64 ra.c]] (by rfl) rfl rfl (by (try simp only [List.map_toArray, List.map_cons, List.map_nil]); first | done | rfl) ?_
  with_reducible refine (lombardlaw16_AllowTies.tcl ra T0.out _).mono ?_
  rintro e y10_ ⟨rfl, hb⟩
  refine ⟨_, rfl, ?_⟩
  have n_HB := Aside0.mk (below_step HB.out hb)
  have n_BK3 := Aside0.mk (blk_below BK3.out hb)
  have n_BK5 := Aside0.mk (blk_below BK5.out hb)
  have n_BK8 := Aside0.mk (blk_below BK8.out hb)
  clear HB
  have HB := n_HB
  clear n_HB
  clear BK3
  have BK3 := n_BK3
  clear n_BK3
  clear BK5
  have BK5 := n_BK5
  clear n_BK5
  clear BK8
  have BK8 := n_BK8
  clear n_BK8
  clear hb
  refine hK.out _ _ ⟨(blk_cell BK8.out 0).trans rfl, (blk_cell BK8.out 1).trans rfl, (blk_cell BK8.out 2).trans rfl, (blk_cell BK8.out 3).trans rfl, (blk_cell BK8.out 4).trans rfl, (blk_cell BK8.out 5).trans rfl, (blk_cell BK3.out 0).trans rfl⟩ (fun hHeld => ?_)
  clear hK K
  refine norm_ (a' := ?_) ?_ ?_
  rotate_left
  · show Act.put _ (some 34) _ = _
    simp only [Act.put, List.setIfInBounds_toArray, List.set_cons_zero, List.set_cons_succ, i64_w, i32_w]
    rfl
  refine pure_ (i := 2) (N := some 35) (v := ?_) (a' := ?_) #[true, true, true, false, false, false, false, false, false, false, false, false, false, false, false, false, false, false, false, false, false, false, false, false, false, false] rfl rfl (by kernel_rfl) (fun _ _ _ h => h) (Or.inl ⟨by rfl, ?_⟩) ?_ ?_
  rotate_left
  · intro w'
    go_simp
    with_reducible rfl
  rotate_left
  · simp only [Act.put, List.setIfInBounds_toArray, List.set_cons_zero, List.set_cons_succ, i64_w, i32_w]
    rfl
  refine pure_ (i := 3) (N := some 36) (v := ?_) (a' := ?_) #[true, true, true, true, false, false, false, false, false, false, false, false, false, false, false, false, false, false, false, false, false, false, false, false, false, false] rfl rfl (by kernel_rfl) (fun _ _ _ h => h) (Or.inl ⟨by rfl, ?_⟩) ?_ ?_
  rotate_left
  · intro w'
    go_simp
    with_reducible rfl
  rotate_left
  · simp only [Act.put, List.setIfInBounds_toArray, List.set_cons_zero, List.set_cons_succ, i64_w, i32_w]
    rfl
  refine pure_ (i := 4) (N := some 37) (v := ?_) (a' := ?_) #[true, true, true, true, true, false, false, false, false, false, false, false, false, false, false, false, false, false, false, false, false, false, false, false, false, false] rfl rfl (by kernel_rfl) (fun _ _ _ h => h) (Or.inl ⟨by rfl, ?_⟩) ?_ ?_
  rotate_left
  · intro w'
    go_simp
    with_reducible rfl
  rotate_left
  · simp only [Act.put, List.setIfInBounds_toArray, List.set_cons_zero, List.set_cons_succ, i64_w, i32_w]
    rfl
  refine pure_ (i := 6) (N := some 39) (v := ?_) (a' := ?_) #[true, true, true, true, true, false, true, false, false, false, false, false, false, false, false, false, false, false, false, false, false, false, false, false, false, false] rfl rfl (by kernel_rfl) (fun _ _ _ h => h) (Or.inl ⟨by rfl, ?_⟩) ?_ ?_
  rotate_left
  · intro w'
    go_simp
    with_reducible rfl
  rotate_left
  · simp only [Act.put, List.setIfInBounds_toArray, List.set_cons_zero, List.set_cons_succ, i64_w, i32_w]
    rfl
  refine pure_ (i := 7) (N := some 40) (v := ?_) (a' := ?_) #[true, true, true, true, true, false, true, true, false, false, false, false, false, false, false, false, false, false, false, false, false, false, false, false, false, false] rfl rfl (by kernel_rfl) (fun _ _ _ h => h) (Or.inl ⟨by rfl, ?_⟩) ?_ ?_
  rotate_left
  · intro w'
    go_simp
    with_reducible rfl
  rotate_left
  · simp only [Act.put, List.setIfInBounds_toArray, List.set_cons_zero, List.set_cons_succ, i64_w, i32_w]
    rfl
  refine take_ (i := 5) (N := some 38) (v := ?_) (a' := ?_) #[true, true, true, true, true, true, true, true, false, false, false, false, false, false, false, false, false, false, false, false, false, false, false, false, false, false] rfl rfl (by kernel_rfl) (fun _ _ _ h => h) (Or.inl ⟨by rfl, ?_⟩) hHeld ?_ ?_
  rotate_left
  · rintro w' ⟨s0, s1, s2, s3, s4, s5, s6⟩
    go_simp
    with_reducible rfl
  rotate_left
  · simp only [Act.put, List.setIfInBounds_toArray, List.set_cons_zero, List.set_cons_succ, i64_w, i32_w]
    rfl
  refine take_ (i := 8) (N := some 41) (v := ?_) (a' := ?_) #[true, true, true, true, true, true, true, true, true, false, false, false, false, false, false, false, false, false, false, false, false, false, false, false, false, false] rfl rfl (by kernel_rfl) (fun _ _ _ h => h) (Or.inl ⟨by rfl, ?_⟩) hHeld ?_ ?_
  rotate_left
  · rintro w' ⟨s0, s1, s2, s3, s4, s5, s6⟩
    go_simp
    with_reducible rfl
  rotate_left
  · simp only [Act.put, List.setIfInBounds_toArray, List.set_cons_zero, List.set_cons_succ, i64_w, i32_w]
    rfl
  refine pure_ (i := 9) (N := some 42) (v := ?_) (a' := ?_) #[true, true, true, true, true, true, true, true, true, true, false, false, false, false, false, false, false, false, false, false, false, false, false, false, false, false] rfl rfl (by kernel_rfl) (fun _ _ _ h => h) (Or.inl ⟨by rfl, ?_⟩) ?_ ?_
  rotate_left
  · intro w'
    go_simp
    with_reducible rfl
  rotate_left
  · simp only [Act.put, List.setIfInBounds_toArray, List.set_cons_zero, List.set_cons_succ, i64_w, i32_w]
    rfl
  refine pure_ (i := 10) (N := some 43) (v := ?_) (a' := ?_) #[true, true, true, true, true, true, true, true, true, true, true, false, false, false, false, false, false, false, false, false, false, false, false, false, false, false] rfl rfl (by kernel_rfl) (fun _ _ _ h => h) (Or.inl ⟨by rfl, ?_⟩) ?_ ?_
  rotate_left
  · intro w'
    go_simp
    with_reducible rfl
  rotate_left
  · simp only [Act.put, List.setIfInBounds_toArray, List.set_cons_zero, List.set_cons_succ, i64_w, i32_w]
    rfl
  refine pure_ (i := 11) (N := some 44) (v := ?_) (a' := ?_) #[true, true, true, true, true, true, true, true, true, true, true, true, false, false, false, false, false, false, false, false, false, false, false, false, false, false] rfl rfl (by kernel_rfl) (fun _ _ _ h => h) (Or.inl ⟨by rfl, ?_⟩) ?_ ?_
  rotate_left
  · intro w'
    go_simp
    with_reducible rfl
  rotate_left
  · simp only [Act.put, List.setIfInBounds_toArray, List.set_cons_zero, List.set_cons_succ, i64_w, i32_w]
    rfl
  refine pure_ (i := 12) (N := some 45) (v := ?_) (a' := ?_) #[true, true, true, true, true, true, true, true, true, true, true, true, true, false, false, false, false, false, false, false, false, false, false, false, false, false] rfl rfl (by kernel_rfl) (fun _ _ _ h => h) (Or.inl ⟨by rfl, ?_⟩) ?_ ?_
  rotate_left
  · intro w'
    go_simp
    with_reducible rfl
  rotate_left
  · simp only [Act.put, List.setIfInBounds_toArray, List.set_cons_zero, List.set_cons_succ, i64_w, i32_w]
    rfl
  refine take_ (i := 13) (N := some 46) (v := ?_) (a' := ?_) #[true, true, true, true, true, true, true, true, true, true, true, true, true, true, false, false, false, false, false, false, false, false, false, false, false, false] rfl rfl (by kernel_rfl) (fun _ _ _ h => h) (Or.inl ⟨by rfl, ?_⟩) hHeld ?_ ?_
  rotate_left
  · rintro w' ⟨s0, s1, s2, s3, s4, s5, s6⟩
    go_simp
    with_reducible rfl
  rotate_left
  · simp only [Act.put, List.setIfInBounds_toArray, List.set_cons_zero, List.set_cons_succ, i64_w, i32_w]
    rfl
  refine pure_ (i := 14) (N := some 47) (v := ?_) (a' := ?_) #[true, true, true, true, true, true, true, true, true, true, true, true, true, true, true, false, false, false, false, false, false, false, false, false, false, false] rfl rfl (by kernel_rfl) (fun _ _ _ h => h) (Or.inl ⟨by rfl, ?_⟩) ?_ ?_
  rotate_left
  · intro w'
    go_simp
    with_reducible rfl
  rotate_left
  · simp only [Act.put, List.setIfInBounds_toArray, List.set_cons_zero, List.set_cons_succ, i64_w, i32_w]
    rfl
  refine pure_ (i := 15) (N := some 48) (v := ?_) (a' := ?_) #[true, true, true, true, true, true, true, true, true, true, true, true, true, true, true, true, false, false, false, false, false, false, false, false, false, false] rfl rfl (by kernel_rfl) (fun _ _ _ h => h) (Or.inl ⟨by rfl, ?_⟩) ?_ ?_
  rotate_left
  · intro w'
    go_simp
    with_reducible rfl
  rotate_left
  · simp only [Act.put, List.setIfInBounds_toArray, List.set_cons_zero, List.set_cons_succ, i64_w, i32_w]
    rfl
  refine pure_ (i := 16) (N := some 49) (v := ?_) (a' := ?_) #[true, true, true, true, true, true, true, true, true, true, true, true, true, true, true, true, true, false, false, false, false, false, false, false, false, false] rfl rfl (by kernel_rfl) (fun _ _ _ h => h) (Or.inl ⟨by rfl, ?_⟩) ?_ ?_
  rotate_left
  · intro w'
    go_simp
    with_reducible rfl
  rotate_left
  · simp only [Act.put, List.setIfInBounds_toArray, List.set_cons_zero, List.set_cons_succ, i64_w, i32_w]
    rfl
  refine pure_ (i := 17) (N := some 50) (v := ?_) (a' := ?_) #[true, true, true, true, true, true, true, true, true, true, true, true, true, true, true, true, true, true, false, false, false, false, false, false, false, false] rfl rfl (by kernel_rfl) (fun _ _ _ h => h) (Or.inl ⟨by rfl, ?_⟩) ?_ ?_
  rotate_left
  · intro w'
    go_simp
    with_reducible rfl
  rotate_left
  · simp only [Act.put, List.setIfInBounds_toArray, List.set_cons_zero, List.set_cons_succ, i64_w, i32_w]
    rfl
  refine take_ (i := 18) (N := some 51) (v := ?_) (a' := ?_) #[true, true, true, true, true, true, true, true, true, true, true, true, true, true, true, true, true, true, true, false, false, false, false, false, false, false] rfl rfl (by kernel_rfl) (fun _ _ _ h => h) (Or.inl ⟨by rfl, ?_⟩) hHeld ?_ ?_
  rotate_left
  · rintro w' ⟨s0, s1, s2, s3, s4, s5, s6⟩
    go_simp
    with_reducible rfl
  rotate_left
  · simp only [Act.put, List.setIfInBounds_toArray, List.set_cons_zero, List.set_cons_succ, i64_w, i32_w]
    rfl
  refine pure_ (i := 19) (N := some 52) (v := ?_) (a' := ?_) #[true, true, true, true, true, true, true, true, true, true, true, true, true, true, true, true, true, true, true, true, false, false, false, false, false, false] rfl rfl (by kernel_rfl) (fun _ _ _ h => h) (Or.inl ⟨by rfl, ?_⟩) ?_ ?_
  rotate_left
  · intro w'
    go_simp
    with_reducible rfl
  rotate_left
  · simp only [Act.put, List.setIfInBounds_toArray, List.set_cons_zero, List.set_cons_succ, i64_w, i32_w]
    rfl
  refine pure_ (i := 20) (N := some 53) (v := ?_) (a' := ?_) #[true, true, true, true, true, true, true, true, true, true, true, true, true, true, true, true, true, true, true, true, true, false, false, false, false, false] rfl rfl (by kernel_rfl) (fun _ _ _ h => h) (Or.inl ⟨by rfl, ?_⟩) ?_ ?_
  rotate_left
  · intro w'
    go_simp
    with_reducible rfl
  rotate_left
  · simp only [Act.put, List.setIfInBounds_toArray, List.set_cons_zero, List.set_cons_succ, i64_w, i32_w]
    rfl
  refine pure_ (i := 21) (N := some 54) (v := ?_) (a' := ?_) #[true, true, true, true, true, true, true, true, true, true, true, true, true, true, true, true, true, true, true, true, true, true, false, false, false, false] rfl rfl (by kernel_rfl) (fun _ _ _ h => h) (Or.inl ⟨by rfl, ?_⟩) ?_ ?_
  rotate_left
  · intro w'
    go_simp
    with_reducible rfl
  rotate_left
  · simp only [Act.put, List.setIfInBounds_toArray, List.set_cons_zero, List.set_cons_succ, i64_w, i32_w]
    rfl
  refine pure_ (i := 22) (N := some 55) (v := ?_) (a' := ?_) #[true, true, true, true, true, true, true, true, true, true, true, true, true, true, true, true, true, true, true, true, true, true, true, false, false, false] rfl rfl (by kernel_rfl) (fun _ _ _ h => h) (Or.inl ⟨by rfl, ?_⟩) ?_ ?_
  rotate_left
  · intro w'
    go_simp
    with_reducible rfl
  rotate_left
  · simp only [Act.put, List.setIfInBounds_toArray, List.set_cons_zero, List.set_cons_succ, i64_w, i32_w]
    rfl
  refine take_ (i := 23) (N := some 56) (v := ?_) (a' := ?_) #[true, true, true, true, true, true, true, true, true, true, true, true, true, true, true, true, true, true, true, true, true, true, true, true, false, false] rfl rfl (by kernel_rfl) (fun _ _ _ h => h) (Or.inl ⟨by rfl, ?_⟩) hHeld ?_ ?_
  rotate_left
  · rintro w' ⟨s0, s1, s2, s3, s4, s5, s6⟩
    go_simp
    with_reducible rfl
  rotate_left
  · simp only [Act.put, List.setIfInBounds_toArray, List.set_cons_zero, List.set_cons_succ, i64_w, i32_w]
    rfl
  refine pure_ (i := 24) (N := some 57) (v := ?_) (a' := ?_) #[true, true, true, true, true, true, true, true, true, true, true, true, true, true, true, true, true, true, true, true, true, true, true, true, true, false] rfl rfl (by kernel_rfl) (fun _ _ _ h => h) (Or.inl ⟨by rfl, ?_⟩) ?_ ?_
  rotate_left
  · intro w'
    go_simp
    with_reducible rfl
  rotate_left
  · simp only [Act.put, List.setIfInBounds_toArray, List.set_cons_zero, List.set_cons_succ, i64_w, i32_w]
    rfl
  refine pure_ (i := 25) (N := some 58) (v := ?_) (a' := ?_) #[true, true, true, true, true, true, true, true, true, true, true, true, true, true, true, true, true, true, true, true, true, true, true, true, true, true] rfl rfl (by kernel_rfl) (fun _ _ _ h => h) (Or.inl ⟨by rfl, ?_⟩) ?_ ?_
  rotate_left
  · intro w'
    go_simp
    with_reducible rfl
  rotate_left
  · simp only [Act.put, List.setIfInBounds_toArray, List.set_cons_zero, List.set_cons_succ, i64_w, i32_w]
    rfl
  refine done_ (by kernel_rfl) ?_
  clear hHeld q1 q2 q3 q4 T0 BK8
  go_wp2_with fail
  rw [rounds_succ]
  obtain ⟨hnb, hnk⟩ := newrow6 y10_ #[.int .i64 0, .int .i64 0, .int .i64 0, .int .i64 0, .int .i64 0, .int .i64 0] #[.int .i64 rb.o, .int .i64 rb.i, .int .i64 rb.u, .int .i64 rb.n, .int .i64 rb.w, .int .i64 rb.c] 26
  go_wp2_with ((with_reducible refine gate_store (t := 26) (p := 8) (v := .tmp 32) rfl ?_); refine Shut.out ?_)
  unfold Shut
  refine store_rowTo rfl 26 (.tmp 8) (.tmp 32) rfl rfl y10_.heap.size #[.int .i64 rb.o, .int .i64 rb.i, .int .i64 rb.u, .int .i64 rb.n, .int .i64 rb.w, .int .i64 rb.c] rfl rfl 26 _ (blk_new y10_ _) (by kernel_rfl) rfl (all6 _ _ _ _ _ _) ?_
  have n_HB := Aside0.mk (below_step HB.out hnb)
  have n_BK3 := Aside0.mk (blk_below BK3.out hnb)
  have n_BK5 := Aside0.mk (blk_below BK5.out hnb)
  have n_BK8 := Aside0.mk hnk
  clear HB BK3 BK5 hnb hnk
  generalize (y10_.alloc (.cells #[.int .i64 0, .int .i64 0, .int .i64 0, .int .i64 0, .int .i64 0, .int .i64 0] 26)).setRow y10_.heap.size #[.int .i64 rb.o, .int .i64 rb.i, .int .i64 rb.u, .int .i64 rb.n, .int .i64 rb.w, .int .i64 rb.c] = z1 at n_HB n_BK3 n_BK5 n_BK8 ⊢
  generalize y10_.heap.size = g8 at n_BK8 ⊢
  have HB := n_HB
  clear n_HB
  have BK3 := n_BK3
  clear n_BK3
  have BK5 := n_BK5
  clear n_BK5
  have BK8 := n_BK8
  clear n_BK8
  go_wp2_with fail
  obtain ⟨t0, t1, t2, t3, t4, t5⟩ := GB.out
  have T0 := Aside0.mk t0
  have q1 : (rb.o != o1) = false := by rw [t1]; simp
  have q2 : decide (rb.i < 0) = false := decide_eq_false (by omega)
  have q3 : decide (rb.u < 0) = false := decide_eq_false (by omega)
  have q4 : decide (rb.w < 0) = false := decide_eq_false (by omega)
  clear t0 t1 t2 t3 t4 t5
  have n_HB := Aside0.mk (below_drew1 HB.out)
  have n_BK3 := Aside0.mk (blk_drew BK3.out)
  have n_BK5 := Aside0.mk (blk_drew BK5.out)
  have n_BK8 := Aside0.mk (blk_drew BK8.out)
  clear HB BK3 BK5 BK8
  have HB := n_HB
  clear n_HB
  have BK3 := n_BK3
  clear n_BK3
  have BK5 := n_BK5
  clear n_BK5
  have BK8 := n_BK8
  clear n_BK8
  refine start_ (n := 26) (S := fun w' => w'.cell? ⟨g8, 0, none⟩ = some (.int .i64 rb.o) ∧ w'.cell? ⟨g8, 1, none⟩ = some (.int .i64 rb.i) ∧ w'.cell? ⟨g8, 2, none⟩ = some (.int .i64 rb.u) ∧ w'.cell? ⟨g8, 3, none⟩ = some (.int .i64 rb.n) ∧ w'.cell? ⟨g8, 4, none⟩ = some (.int .i64 rb.w) ∧ w'.cell? ⟨g8, 5, none⟩ = some (.int .i64 rb.c) ∧ w'.cell? ⟨w.heap.size, 1, none⟩ = some (.int .i64 o1)) (ds := []) #[false, false, false, false, false, false, false, false, false, false, false, false, false, false, false, false, false, false, false, false, false, false, false, false, false, false] (by kernel_rfl) rfl rfl ⟨(blk_cell BK8.out 0).trans rfl, (blk_cell BK8.out 1).trans rfl, (blk_cell BK8.out 2).trans rfl, (blk_cell BK8.out 3).trans rfl, (blk_cell BK8.out 4).trans rfl, (blk_cell BK8.out 5).trans rfl, (blk_cell BK3.out 1).trans rfl⟩ (fun hHeld => ?_)
  generalize z1.drew = x1 at HB BK3 BK5 BK8 hHeld ⊢
  refine take_ (i := 0) (N := some 33) (v := ?_) (a' := ?_) #[true, false, false, false, false, false, false, false, false, false, false, false, false, false, false, false, false, false, false, false, false, false, false, false, false, false] rfl rfl (by kernel_rfl) (fun _ _ _ h => h) (Or.inl ⟨by rfl, ?_⟩) hHeld ?_ ?_
  rotate_left
  · rintro w' ⟨s0, s1, s2, s3, s4, s5, s6⟩
    go_simp
    with_reducible rfl
  rotate_left
  · simp only [Act.put, List.setIfInBounds_toArray, List.set_cons_zero, List.set_cons_succ, i64_w, i32_w]
    rfl
  refine one_ (i := 1) (N := some 34) #[true, true, false, false, false, false, false, false, false, false, false, false, false, false, false, false, false, false, false, false, false, false, false, false, false, false] rfl rfl (by kernel_rfl) (by decide) (fun K hK => ?_)
  refine goes_ Try.func16 (by kernel_rfl) rfl #[.agg #[.int .i64 rb.o, .int .i64 rb.i, .int .i64 rb.u, .int .i64 rb.n, .int .i64 rb.w, .int .i64 rb.c]] (by rfl) rfl rfl (by (try simp only [List.map_toArray, List.map_cons, List.map_nil]); first | done | rfl) ?_
  with_reducible refine (lombardlaw16_AllowTies.tcl rb T0.out _).mono ?_
  rintro e y11_ ⟨rfl, hb⟩
  refine ⟨_, rfl, ?_⟩
  have n_HB := Aside0.mk (below_step HB.out hb)
  have n_BK3 := Aside0.mk (blk_below BK3.out hb)
  have n_BK5 := Aside0.mk (blk_below BK5.out hb)
  have n_BK8 := Aside0.mk (blk_below BK8.out hb)
  clear HB
  have HB := n_HB
  clear n_HB
  clear BK3
  have BK3 := n_BK3
  clear n_BK3
  clear BK5
  have BK5 := n_BK5
  clear n_BK5
  clear BK8
  have BK8 := n_BK8
  clear n_BK8
  clear hb
  refine hK.out _ _ ⟨(blk_cell BK8.out 0).trans rfl, (blk_cell BK8.out 1).trans rfl, (blk_cell BK8.out 2).trans rfl, (blk_cell BK8.out 3).trans rfl, (blk_cell BK8.out 4).trans rfl, (blk_cell BK8.out 5).trans rfl, (blk_cell BK3.out 1).trans rfl⟩ (fun hHeld => ?_)
  clear hK K
  refine norm_ (a' := ?_) ?_ ?_
  rotate_left
  · show Act.put _ (some 34) _ = _
    simp only [Act.put, List.setIfInBounds_toArray, List.set_cons_zero, List.set_cons_succ, i64_w, i32_w]
    rfl
  refine pure_ (i := 2) (N := some 35) (v := ?_) (a' := ?_) #[true, true, true, false, false, false, false, false, false, false, false, false, false, false, false, false, false, false, false, false, false, false, false, false, false, false] rfl rfl (by kernel_rfl) (fun _ _ _ h => h) (Or.inl ⟨by rfl, ?_⟩) ?_ ?_
  rotate_left
  · intro w'
    go_simp
    with_reducible rfl
  rotate_left
  · simp only [Act.put, List.setIfInBounds_toArray, List.set_cons_zero, List.set_cons_succ, i64_w, i32_w]
    rfl
  refine pure_ (i := 3) (N := some 36) (v := ?_) (a' := ?_) #[true, true, true, true, false, false, false, false, false, false, false, false, false, false, false, false, false, false, false, false, false, false, false, false, false, false] rfl rfl (by kernel_rfl) (fun _ _ _ h => h) (Or.inl ⟨by rfl, ?_⟩) ?_ ?_
  rotate_left
  · intro w'
    go_simp
    with_reducible rfl
  rotate_left
  · simp only [Act.put, List.setIfInBounds_toArray, List.set_cons_zero, List.set_cons_succ, i64_w, i32_w]
    rfl
  refine pure_ (i := 4) (N := some 37) (v := ?_) (a' := ?_) #[true, true, true, true, true, false, false, false, false, false, false, false, false, false, false, false, false, false, false, false, false, false, false, false, false, false] rfl rfl (by kernel_rfl) (fun _ _ _ h => h) (Or.inl ⟨by rfl, ?_⟩) ?_ ?_
  rotate_left
  · intro w'
    go_simp
    with_reducible rfl
  rotate_left
  · simp only [Act.put, List.setIfInBounds_toArray, List.set_cons_zero, List.set_cons_succ, i64_w, i32_w]
    rfl
  refine pure_ (i := 6) (N := some 39) (v := ?_) (a' := ?_) #[true, true, true, true, true, false, true, false, false, false, false, false, false, false, false, false, false, false, false, false, false, false, false, false, false, false] rfl rfl (by kernel_rfl) (fun _ _ _ h => h) (Or.inl ⟨by rfl, ?_⟩) ?_ ?_
  rotate_left
  · intro w'
    go_simp
    with_reducible rfl
  rotate_left
  · simp only [Act.put, List.setIfInBounds_toArray, List.set_cons_zero, List.set_cons_succ, i64_w, i32_w]
    rfl
  refine pure_ (i := 7) (N := some 40) (v := ?_) (a' := ?_) #[true, true, true, true, true, false, true, true, false, false, false, false, false, false, false, false, false, false, false, false, false, false, false, false, false, false] rfl rfl (by kernel_rfl) (fun _ _ _ h => h) (Or.inl ⟨by rfl, ?_⟩) ?_ ?_
  rotate_left
  · intro w'
    go_simp
    with_reducible rfl
  rotate_left
  · simp only [Act.put, List.setIfInBounds_toArray, List.set_cons_zero, List.set_cons_succ, i64_w, i32_w]
    rfl
  refine take_ (i := 5) (N := some 38) (v := ?_) (a' := ?_) #[true, true, true, true, true, true, true, true, false, false, false, false, false, false, false, false, false, false, false, false, false, false, false, false, false, false] rfl rfl (by kernel_rfl) (fun _ _ _ h => h) (Or.inl ⟨by rfl, ?_⟩) hHeld ?_ ?_
  rotate_left
  · rintro w' ⟨s0, s1, s2, s3, s4, s5, s6⟩
    go_simp
    with_reducible rfl
  rotate_left
  · simp only [Act.put, List.setIfInBounds_toArray, List.set_cons_zero, List.set_cons_succ, i64_w, i32_w]
    rfl
  refine take_ (i := 8) (N := some 41) (v := ?_) (a' := ?_) #[true, true, true, true, true, true, true, true, true, false, false, false, false, false, false, false, false, false, false, false, false, false, false, false, false, false] rfl rfl (by kernel_rfl) (fun _ _ _ h => h) (Or.inl ⟨by rfl, ?_⟩) hHeld ?_ ?_
  rotate_left
  · rintro w' ⟨s0, s1, s2, s3, s4, s5, s6⟩
    go_simp
    with_reducible rfl
  rotate_left
  · simp only [Act.put, List.setIfInBounds_toArray, List.set_cons_zero, List.set_cons_succ, i64_w, i32_w]
    rfl
  refine pure_ (i := 9) (N := some 42) (v := ?_) (a' := ?_) #[true, true, true, true, true, true, true, true, true, true, false, false, false, false, false, false, false, false, false, false, false, false, false, false, false, false] rfl rfl (by kernel_rfl) (fun _ _ _ h => h) (Or.inl ⟨by rfl, ?_⟩) ?_ ?_
  rotate_left
  · intro w'
    go_simp
    with_reducible rfl
  rotate_left
  · simp only [Act.put, List.setIfInBounds_toArray, List.set_cons_zero, List.set_cons_succ, i64_w, i32_w]
    rfl
  refine pure_ (i := 10) (N := some 43) (v := ?_) (a' := ?_) #[true, true, true, true, true, true, true, true, true, true, true, false, false, false, false, false, false, false, false, false, false, false, false, false, false, false] rfl rfl (by kernel_rfl) (fun _ _ _ h => h) (Or.inl ⟨by rfl, ?_⟩) ?_ ?_
  rotate_left
  · intro w'
    go_simp
    with_reducible rfl
  rotate_left
  · simp only [Act.put, List.setIfInBounds_toArray, List.set_cons_zero, List.set_cons_succ, i64_w, i32_w]
    rfl
  refine pure_ (i := 11) (N := some 44) (v := ?_) (a' := ?_) #[true, true, true, true, true, true, true, true, true, true, true, true, false, false, false, false, false, false, false, false, false, false, false, false, false, false] rfl rfl (by kernel_rfl) (fun _ _ _ h => h) (Or.inl ⟨by rfl, ?_⟩) ?_ ?_
  rotate_left
  · intro w'
    go_simp
    with_reducible rfl
  rotate_left
  · simp only [Act.put, List.setIfInBounds_toArray, List.set_cons_zero, List.set_cons_succ, i64_w, i32_w]
    rfl
  refine pure_ (i := 12) (N := some 45) (v := ?_) (a' := ?_) #[true, true, true, true, true, true, true, true, true, true, true, true, true, false, false, false, false, false, false, false, false, false, false, false, false, false] rfl rfl (by kernel_rfl) (fun _ _ _ h => h) (Or.inl ⟨by rfl, ?_⟩) ?_ ?_
  rotate_left
  · intro w'
    go_simp
    with_reducible rfl
  rotate_left
  · simp only [Act.put, List.setIfInBounds_toArray, List.set_cons_zero, List.set_cons_succ, i64_w, i32_w]
    rfl
  refine take_ (i := 13) (N := some 46) (v := ?_) (a' := ?_) #[true, true, true, true, true, true, true, true, true, true, true, true, true, true, false, false, false, false, false, false, false, false, false, false, false, false] rfl rfl (by kernel_rfl) (fun _ _ _ h => h) (Or.inl ⟨by rfl, ?_⟩) hHeld ?_ ?_
  rotate_left
  · rintro w' ⟨s0, s1, s2, s3, s4, s5, s6⟩
    go_simp
    with_reducible rfl
  rotate_left
  · simp only [Act.put, List.setIfInBounds_toArray, List.set_cons_zero, List.set_cons_succ, i64_w, i32_w]
    rfl
  refine pure_ (i := 14) (N := some 47) (v := ?_) (a' := ?_) #[true, true, true, true, true, true, true, true, true, true, true, true, true, true, true, false, false, false, false, false, false, false, false, false, false, false] rfl rfl (by kernel_rfl) (fun _ _ _ h => h) (Or.inl ⟨by rfl, ?_⟩) ?_ ?_
  rotate_left
  · intro w'
    go_simp
    with_reducible rfl
  rotate_left
  · simp only [Act.put, List.setIfInBounds_toArray, List.set_cons_zero, List.set_cons_succ, i64_w, i32_w]
    rfl
  refine pure_ (i := 15) (N := some 48) (v := ?_) (a' := ?_) #[true, true, true, true, true, true, true, true, true, true, true, true, true, true, true, true, false, false, false, false, false, false, false, false, false, false] rfl rfl (by kernel_rfl) (fun _ _ _ h => h) (Or.inl ⟨by rfl, ?_⟩) ?_ ?_
  rotate_left
  · intro w'
    go_simp
    with_reducible rfl
  rotate_left
  · simp only [Act.put, List.setIfInBounds_toArray, List.set_cons_zero, List.set_cons_succ, i64_w, i32_w]
    rfl
  refine pure_ (i := 16) (N := some 49) (v := ?_) (a' := ?_) #[true, true, true, true, true, true, true, true, true, true, true, true, true, true, true, true, true, false, false, false, false, false, false, false, false, false] rfl rfl (by kernel_rfl) (fun _ _ _ h => h) (Or.inl ⟨by rfl, ?_⟩) ?_ ?_
  rotate_left
  · intro w'
    go_simp
    with_reducible rfl
  rotate_left
  · simp only [Act.put, List.setIfInBounds_toArray, List.set_cons_zero, List.set_cons_succ, i64_w, i32_w]
    rfl
  refine pure_ (i := 17) (N := some 50) (v := ?_) (a' := ?_) #[true, true, true, true, true, true, true, true, true, true, true, true, true, true, true, true, true, true, false, false, false, false, false, false, false, false] rfl rfl (by kernel_rfl) (fun _ _ _ h => h) (Or.inl ⟨by rfl, ?_⟩) ?_ ?_
  rotate_left
  · intro w'
    go_simp
    with_reducible rfl
  rotate_left
  · simp only [Act.put, List.setIfInBounds_toArray, List.set_cons_zero, List.set_cons_succ, i64_w, i32_w]
    rfl
  refine take_ (i := 18) (N := some 51) (v := ?_) (a' := ?_) #[true, true, true, true, true, true, true, true, true, true, true, true, true, true, true, true, true, true, true, false, false, false, false, false, false, false] rfl rfl (by kernel_rfl) (fun _ _ _ h => h) (Or.inl ⟨by rfl, ?_⟩) hHeld ?_ ?_
  rotate_left
  · rintro w' ⟨s0, s1, s2, s3, s4, s5, s6⟩
    go_simp
    with_reducible rfl
  rotate_left
  · simp only [Act.put, List.setIfInBounds_toArray, List.set_cons_zero, List.set_cons_succ, i64_w, i32_w]
    rfl
  refine pure_ (i := 19) (N := some 52) (v := ?_) (a' := ?_) #[true, true, true, true, true, true, true, true, true, true, true, true, true, true, true, true, true, true, true, true, false, false, false, false, false, false] rfl rfl (by kernel_rfl) (fun _ _ _ h => h) (Or.inl ⟨by rfl, ?_⟩) ?_ ?_
  rotate_left
  · intro w'
    go_simp
    with_reducible rfl
  rotate_left
  · simp only [Act.put, List.setIfInBounds_toArray, List.set_cons_zero, List.set_cons_succ, i64_w, i32_w]
    rfl
  refine pure_ (i := 20) (N := some 53) (v := ?_) (a' := ?_) #[true, true, true, true, true, true, true, true, true, true, true, true, true, true, true, true, true, true, true, true, true, false, false, false, false, false] rfl rfl (by kernel_rfl) (fun _ _ _ h => h) (Or.inl ⟨by rfl, ?_⟩) ?_ ?_
  rotate_left
  · intro w'
    go_simp
    with_reducible rfl
  rotate_left
  · simp only [Act.put, List.setIfInBounds_toArray, List.set_cons_zero, List.set_cons_succ, i64_w, i32_w]
    rfl
  refine pure_ (i := 21) (N := some 54) (v := ?_) (a' := ?_) #[true, true, true, true, true, true, true, true, true, true, true, true, true, true, true, true, true, true, true, true, true, true, false, false, false, false] rfl rfl (by kernel_rfl) (fun _ _ _ h => h) (Or.inl ⟨by rfl, ?_⟩) ?_ ?_
  rotate_left
  · intro w'
    go_simp
    with_reducible rfl
  rotate_left
  · simp only [Act.put, List.setIfInBounds_toArray, List.set_cons_zero, List.set_cons_succ, i64_w, i32_w]
    rfl
  refine pure_ (i := 22) (N := some 55) (v := ?_) (a' := ?_) #[true, true, true, true, true, true, true, true, true, true, true, true, true, true, true, true, true, true, true, true, true, true, true, false, false, false] rfl rfl (by kernel_rfl) (fun _ _ _ h => h) (Or.inl ⟨by rfl, ?_⟩) ?_ ?_
  rotate_left
  · intro w'
    go_simp
    with_reducible rfl
  rotate_left
  · simp only [Act.put, List.setIfInBounds_toArray, List.set_cons_zero, List.set_cons_succ, i64_w, i32_w]
    rfl
  refine take_ (i := 23) (N := some 56) (v := ?_) (a' := ?_) #[true, true, true, true, true, true, true, true, true, true, true, true, true, true, true, true, true, true, true, true, true, true, true, true, false, false] rfl rfl (by kernel_rfl) (fun _ _ _ h => h) (Or.inl ⟨by rfl, ?_⟩) hHeld ?_ ?_
  rotate_left
  · rintro w' ⟨s0, s1, s2, s3, s4, s5, s6⟩
    go_simp
    with_reducible rfl
  rotate_left
  · simp only [Act.put, List.setIfInBounds_toArray, List.set_cons_zero, List.set_cons_succ, i64_w, i32_w]
    rfl
  refine pure_ (i := 24) (N := some 57) (v := ?_) (a' := ?_) #[true, true, true, true, true, true, true, true, true, true, true, true, true, true, true, true, true, true, true, true, true, true, true, true, true, false] rfl rfl (by kernel_rfl) (fun _ _ _ h => h) (Or.inl ⟨by rfl, ?_⟩) ?_ ?_
  rotate_left
  · intro w'
    go_simp
    with_reducible rfl
  rotate_left
  · simp only [Act.put, List.setIfInBounds_toArray, List.set_cons_zero, List.set_cons_succ, i64_w, i32_w]
    rfl
  refine pure_ (i := 25) (N := some 58) (v := ?_) (a' := ?_) #[true, true, true, true, true, true, true, true, true, true, true, true, true, true, true, true, true, true, true, true, true, true, true, true, true, true] rfl rfl (by kernel_rfl) (fun _ _ _ h => h) (Or.inl ⟨by rfl, ?_⟩) ?_ ?_
  rotate_left
  · intro w'
    go_simp
    with_reducible rfl
  rotate_left
  · simp only [Act.put, List.setIfInBounds_toArray, List.set_cons_zero, List.set_cons_succ, i64_w, i32_w]
    rfl
  refine done_ (by kernel_rfl) ?_
  clear hHeld q1 q2 q3 q4 T0 BK8
  go_wp2_with fail
  rw [rounds_succ]
  obtain ⟨hnb, hnk⟩ := newrow6 y11_ #[.int .i64 0, .int .i64 0, .int .i64 0, .int .i64 0, .int .i64 0, .int .i64 0] #[.int .i64 rc.o, .int .i64 rc.i, .int .i64 rc.u, .int .i64 rc.n, .int .i64 rc.w, .int .i64 rc.c] 26
  go_wp2_with ((with_reducible refine gate_store (t := 26) (p := 8) (v := .tmp 32) rfl ?_); refine Shut.out ?_)
  unfold Shut
  refine store_rowTo rfl 26 (.tmp 8) (.tmp 32) rfl rfl y11_.heap.size #[.int .i64 rc.o, .int .i64 rc.i, .int .i64 rc.u, .int .i64 rc.n, .int .i64 rc.w, .int .i64 rc.c] rfl rfl 26 _ (blk_new y11_ _) (by kernel_rfl) rfl (all6 _ _ _ _ _ _) ?_
  have n_HB := Aside0.mk (below_step HB.out hnb)
  have n_BK3 := Aside0.mk (blk_below BK3.out hnb)
  have n_BK5 := Aside0.mk (blk_below BK5.out hnb)
  have n_BK8 := Aside0.mk hnk
  clear HB BK3 BK5 hnb hnk
  generalize (y11_.alloc (.cells #[.int .i64 0, .int .i64 0, .int .i64 0, .int .i64 0, .int .i64 0, .int .i64 0] 26)).setRow y11_.heap.size #[.int .i64 rc.o, .int .i64 rc.i, .int .i64 rc.u, .int .i64 rc.n, .int .i64 rc.w, .int .i64 rc.c] = z2 at n_HB n_BK3 n_BK5 n_BK8 ⊢
  generalize y11_.heap.size = g8 at n_BK8 ⊢
  have HB := n_HB
  clear n_HB
  have BK3 := n_BK3
  clear n_BK3
  have BK5 := n_BK5
  clear n_BK5
  have BK8 := n_BK8
  clear n_BK8
  go_wp2_with fail
  obtain ⟨t0, t1, t2, t3, t4, t5⟩ := GC.out
  have T0 := Aside0.mk t0
  have q1 : (rc.o != o2) = false := by rw [t1]; simp
  have q2 : decide (rc.i < 0) = false := decide_eq_false (by omega)
  have q3 : decide (rc.u < 0) = false := decide_eq_false (by omega)
  have q4 : decide (rc.w < 0) = false := decide_eq_false (by omega)
  clear t0 t1 t2 t3 t4 t5
  have n_HB := Aside0.mk (below_drew1 HB.out)
  have n_BK3 := Aside0.mk (blk_drew BK3.out)
  have n_BK5 := Aside0.mk (blk_drew BK5.out)
  have n_BK8 := Aside0.mk (blk_drew BK8.out)
  clear HB BK3 BK5 BK8
  have HB := n_HB
  clear n_HB
  have BK3 := n_BK3
  clear n_BK3
  have BK5 := n_BK5
  clear n_BK5
  have BK8 := n_BK8
  clear n_BK8
  refine start_ (n := 26) (S := fun w' => w'.cell? ⟨g8, 0, none⟩ = some (.int .i64 rc.o) ∧ w'.cell? ⟨g8, 1, none⟩ = some (.int .i64 rc.i) ∧ w'.cell? ⟨g8, 2, none⟩ = some (.int .i64 rc.u) ∧ w'.cell? ⟨g8, 3, none⟩ = some (.int .i64 rc.n) ∧ w'.cell? ⟨g8, 4, none⟩ = some (.int .i64 rc.w) ∧ w'.cell? ⟨g8, 5, none⟩ = some (.int .i64 rc.c) ∧ w'.cell? ⟨w.heap.size, 2, none⟩ = some (.int .i64 o2)) (ds := []) #[false, false, false, false, false, false, false, false, false, false, false, false, false, false, false, false, false, false, false, false, false, false, false, false, false, false] (by kernel_rfl) rfl rfl ⟨(blk_cell BK8.out 0).trans rfl, (blk_cell BK8.out 1).trans rfl, (blk_cell BK8.out 2).trans rfl, (blk_cell BK8.out 3).trans rfl, (blk_cell BK8.out 4).trans rfl, (blk_cell BK8.out 5).trans rfl, (blk_cell BK3.out 2).trans rfl⟩ (fun hHeld => ?_)
  generalize z2.drew = x2 at HB BK3 BK5 BK8 hHeld ⊢
  refine take_ (i := 0) (N := some 33) (v := ?_) (a' := ?_) #[true, false, false, false, false, false, false, false, false, false, false, false, false, false, false, false, false, false, false, false, false, false, false, false, false, false] rfl rfl (by kernel_rfl) (fun _ _ _ h => h) (Or.inl ⟨by rfl, ?_⟩) hHeld ?_ ?_
  rotate_left
  · rintro w' ⟨s0, s1, s2, s3, s4, s5, s6⟩
    go_simp
    with_reducible rfl
  rotate_left
  · simp only [Act.put, List.setIfInBounds_toArray, List.set_cons_zero, List.set_cons_succ, i64_w, i32_w]
    rfl
  refine one_ (i := 1) (N := some 34) #[true, true, false, false, false, false, false, false, false, false, false, false, false, false, false, false, false, false, false, false, false, false, false, false, false, false] rfl rfl (by kernel_rfl) (by decide) (fun K hK => ?_)
  refine goes_ Try.func16 (by kernel_rfl) rfl #[.agg #[.int .i64 rc.o, .int .i64 rc.i, .int .i64 rc.u, .int .i64 rc.n, .int .i64 rc.w, .int .i64 rc.c]] (by rfl) rfl rfl (by (try simp only [List.map_toArray, List.map_cons, List.map_nil]); first | done | rfl) ?_
  with_reducible refine (lombardlaw16_AllowTies.tcl rc T0.out _).mono ?_
  rintro e y12_ ⟨rfl, hb⟩
  refine ⟨_, rfl, ?_⟩
  have n_HB := Aside0.mk (below_step HB.out hb)
  have n_BK3 := Aside0.mk (blk_below BK3.out hb)
  have n_BK5 := Aside0.mk (blk_below BK5.out hb)
  have n_BK8 := Aside0.mk (blk_below BK8.out hb)
  clear HB
  have HB := n_HB
  clear n_HB
  clear BK3
  have BK3 := n_BK3
  clear n_BK3
  clear BK5
  have BK5 := n_BK5
  clear n_BK5
  clear BK8
  have BK8 := n_BK8
  clear n_BK8
  clear hb
  refine hK.out _ _ ⟨(blk_cell BK8.out 0).trans rfl, (blk_cell BK8.out 1).trans rfl, (blk_cell BK8.out 2).trans rfl, (blk_cell BK8.out 3).trans rfl, (blk_cell BK8.out 4).trans rfl, (blk_cell BK8.out 5).trans rfl, (blk_cell BK3.out 2).trans rfl⟩ (fun hHeld => ?_)
  clear hK K
  refine norm_ (a' := ?_) ?_ ?_
  rotate_left
  · show Act.put _ (some 34) _ = _
    simp only [Act.put, List.setIfInBounds_toArray, List.set_cons_zero, List.set_cons_succ, i64_w, i32_w]
    rfl
  refine pure_ (i := 2) (N := some 35) (v := ?_) (a' := ?_) #[true, true, true, false, false, false, false, false, false, false, false, false, false, false, false, false, false, false, false, false, false, false, false, false, false, false] rfl rfl (by kernel_rfl) (fun _ _ _ h => h) (Or.inl ⟨by rfl, ?_⟩) ?_ ?_
  rotate_left
  · intro w'
    go_simp
    with_reducible rfl
  rotate_left
  · simp only [Act.put, List.setIfInBounds_toArray, List.set_cons_zero, List.set_cons_succ, i64_w, i32_w]
    rfl
  refine pure_ (i := 3) (N := some 36) (v := ?_) (a' := ?_) #[true, true, true, true, false, false, false, false, false, false, false, false, false, false, false, false, false, false, false, false, false, false, false, false, false, false] rfl rfl (by kernel_rfl) (fun _ _ _ h => h) (Or.inl ⟨by rfl, ?_⟩) ?_ ?_
  rotate_left
  · intro w'
    go_simp
    with_reducible rfl
  rotate_left
  · simp only [Act.put, List.setIfInBounds_toArray, List.set_cons_zero, List.set_cons_succ, i64_w, i32_w]
    rfl
  refine pure_ (i := 4) (N := some 37) (v := ?_) (a' := ?_) #[true, true, true, true, true, false, false, false, false, false, false, false, false, false, false, false, false, false, false, false, false, false, false, false, false, false] rfl rfl (by kernel_rfl) (fun _ _ _ h => h) (Or.inl ⟨by rfl, ?_⟩) ?_ ?_
  rotate_left
  · intro w'
    go_simp
    with_reducible rfl
  rotate_left
  · simp only [Act.put, List.setIfInBounds_toArray, List.set_cons_zero, List.set_cons_succ, i64_w, i32_w]
    rfl
  refine pure_ (i := 6) (N := some 39) (v := ?_) (a' := ?_) #[true, true, true, true, true, false, true, false, false, false, false, false, false, false, false, false, false, false, false, false, false, false, false, false, false, false] rfl rfl (by kernel_rfl) (fun _ _ _ h => h) (Or.inl ⟨by rfl, ?_⟩) ?_ ?_
  rotate_left
  · intro w'
    go_simp
    with_reducible rfl
  rotate_left
  · simp only [Act.put, List.setIfInBounds_toArray, List.set_cons_zero, List.set_cons_succ, i64_w, i32_w]
    rfl
  refine pure_ (i := 7) (N := some 40) (v := ?_) (a' := ?_) #[true, true, true, true, true, false, true, true, false, false, false, false, false, false, false, false, false, false, false, false, false, false, false, false, false, false] rfl rfl (by kernel_rfl) (fun _ _ _ h => h) (Or.inl ⟨by rfl, ?_⟩) ?_ ?_
  rotate_left
  · intro w'
    go_simp
    with_reducible rfl
  rotate_left
  · simp only [Act.put, List.setIfInBounds_toArray, List.set_cons_zero, List.set_cons_succ, i64_w, i32_w]
    rfl
  refine take_ (i := 5) (N := some 38) (v := ?_) (a' := ?_) #[true, true, true, true, true, true, true, true, false, false, false, false, false, false, false, false, false, false, false, false, false, false, false, false, false, false] rfl rfl (by kernel_rfl) (fun _ _ _ h => h) (Or.inl ⟨by rfl, ?_⟩) hHeld ?_ ?_
  rotate_left
  · rintro w' ⟨s0, s1, s2, s3, s4, s5, s6⟩
    go_simp
    with_reducible rfl
  rotate_left
  · simp only [Act.put, List.setIfInBounds_toArray, List.set_cons_zero, List.set_cons_succ, i64_w, i32_w]
    rfl
  refine take_ (i := 8) (N := some 41) (v := ?_) (a' := ?_) #[true, true, true, true, true, true, true, true, true, false, false, false, false, false, false, false, false, false, false, false, false, false, false, false, false, false] rfl rfl (by kernel_rfl) (fun _ _ _ h => h) (Or.inl ⟨by rfl, ?_⟩) hHeld ?_ ?_
  rotate_left
  · rintro w' ⟨s0, s1, s2, s3, s4, s5, s6⟩
    go_simp
    with_reducible rfl
  rotate_left
  · simp only [Act.put, List.setIfInBounds_toArray, List.set_cons_zero, List.set_cons_succ, i64_w, i32_w]
    rfl
  refine pure_ (i := 9) (N := some 42) (v := ?_) (a' := ?_) #[true, true, true, true, true, true, true, true, true, true, false, false, false, false, false, false, false, false, false, false, false, false, false, false, false, false] rfl rfl (by kernel_rfl) (fun _ _ _ h => h) (Or.inl ⟨by rfl, ?_⟩) ?_ ?_
  rotate_left
  · intro w'
    go_simp
    with_reducible rfl
  rotate_left
  · simp only [Act.put, List.setIfInBounds_toArray, List.set_cons_zero, List.set_cons_succ, i64_w, i32_w]
    rfl
  refine pure_ (i := 10) (N := some 43) (v := ?_) (a' := ?_) #[true, true, true, true, true, true, true, true, true, true, true, false, false, false, false, false, false, false, false, false, false, false, false, false, false, false] rfl rfl (by kernel_rfl) (fun _ _ _ h => h) (Or.inl ⟨by rfl, ?_⟩) ?_ ?_
  rotate_left
  · intro w'
    go_simp
    with_reducible rfl
  rotate_left
  · simp only [Act.put, List.setIfInBounds_toArray, List.set_cons_zero, List.set_cons_succ, i64_w, i32_w]
    rfl
  refine pure_ (i := 11) (N := some 44) (v := ?_) (a' := ?_) #[true, true, true, true, true, true, true, true, true, true, true, true, false, false, false, false, false, false, false, false, false, false, false, false, false, false] rfl rfl (by kernel_rfl) (fun _ _ _ h => h) (Or.inl ⟨by rfl, ?_⟩) ?_ ?_
  rotate_left
  · intro w'
    go_simp
    with_reducible rfl
  rotate_left
  · simp only [Act.put, List.setIfInBounds_toArray, List.set_cons_zero, List.set_cons_succ, i64_w, i32_w]
    rfl
  refine pure_ (i := 12) (N := some 45) (v := ?_) (a' := ?_) #[true, true, true, true, true, true, true, true, true, true, true, true, true, false, false, false, false, false, false, false, false, false, false, false, false, false] rfl rfl (by kernel_rfl) (fun _ _ _ h => h) (Or.inl ⟨by rfl, ?_⟩) ?_ ?_
  rotate_left
  · intro w'
    go_simp
    with_reducible rfl
  rotate_left
  · simp only [Act.put, List.setIfInBounds_toArray, List.set_cons_zero, List.set_cons_succ, i64_w, i32_w]
    rfl
  refine take_ (i := 13) (N := some 46) (v := ?_) (a' := ?_) #[true, true, true, true, true, true, true, true, true, true, true, true, true, true, false, false, false, false, false, false, false, false, false, false, false, false] rfl rfl (by kernel_rfl) (fun _ _ _ h => h) (Or.inl ⟨by rfl, ?_⟩) hHeld ?_ ?_
  rotate_left
  · rintro w' ⟨s0, s1, s2, s3, s4, s5, s6⟩
    go_simp
    with_reducible rfl
  rotate_left
  · simp only [Act.put, List.setIfInBounds_toArray, List.set_cons_zero, List.set_cons_succ, i64_w, i32_w]
    rfl
  refine pure_ (i := 14) (N := some 47) (v := ?_) (a' := ?_) #[true, true, true, true, true, true, true, true, true, true, true, true, true, true, true, false, false, false, false, false, false, false, false, false, false, false] rfl rfl (by kernel_rfl) (fun _ _ _ h => h) (Or.inl ⟨by rfl, ?_⟩) ?_ ?_
  rotate_left
  · intro w'
    go_simp
    with_reducible rfl
  rotate_left
  · simp only [Act.put, List.setIfInBounds_toArray, List.set_cons_zero, List.set_cons_succ, i64_w, i32_w]
    rfl
  refine pure_ (i := 15) (N := some 48) (v := ?_) (a' := ?_) #[true, true, true, true, true, true, true, true, true, true, true, true, true, true, true, true, false, false, false, false, false, false, false, false, false, false] rfl rfl (by kernel_rfl) (fun _ _ _ h => h) (Or.inl ⟨by rfl, ?_⟩) ?_ ?_
  rotate_left
  · intro w'
    go_simp
    with_reducible rfl
  rotate_left
  · simp only [Act.put, List.setIfInBounds_toArray, List.set_cons_zero, List.set_cons_succ, i64_w, i32_w]
    rfl
  refine pure_ (i := 16) (N := some 49) (v := ?_) (a' := ?_) #[true, true, true, true, true, true, true, true, true, true, true, true, true, true, true, true, true, false, false, false, false, false, false, false, false, false] rfl rfl (by kernel_rfl) (fun _ _ _ h => h) (Or.inl ⟨by rfl, ?_⟩) ?_ ?_
  rotate_left
  · intro w'
    go_simp
    with_reducible rfl
  rotate_left
  · simp only [Act.put, List.setIfInBounds_toArray, List.set_cons_zero, List.set_cons_succ, i64_w, i32_w]
    rfl
  refine pure_ (i := 17) (N := some 50) (v := ?_) (a' := ?_) #[true, true, true, true, true, true, true, true, true, true, true, true, true, true, true, true, true, true, false, false, false, false, false, false, false, false] rfl rfl (by kernel_rfl) (fun _ _ _ h => h) (Or.inl ⟨by rfl, ?_⟩) ?_ ?_
  rotate_left
  · intro w'
    go_simp
    with_reducible rfl
  rotate_left
  · simp only [Act.put, List.setIfInBounds_toArray, List.set_cons_zero, List.set_cons_succ, i64_w, i32_w]
    rfl
  refine take_ (i := 18) (N := some 51) (v := ?_) (a' := ?_) #[true, true, true, true, true, true, true, true, true, true, true, true, true, true, true, true, true, true, true, false, false, false, false, false, false, false] rfl rfl (by kernel_rfl) (fun _ _ _ h => h) (Or.inl ⟨by rfl, ?_⟩) hHeld ?_ ?_
  rotate_left
  · rintro w' ⟨s0, s1, s2, s3, s4, s5, s6⟩
    go_simp
    with_reducible rfl
  rotate_left
  · simp only [Act.put, List.setIfInBounds_toArray, List.set_cons_zero, List.set_cons_succ, i64_w, i32_w]
    rfl
  refine pure_ (i := 19) (N := some 52) (v := ?_) (a' := ?_) #[true, true, true, true, true, true, true, true, true, true, true, true, true, true, true, true, true, true, true, true, false, false, false, false, false, false] rfl rfl (by kernel_rfl) (fun _ _ _ h => h) (Or.inl ⟨by rfl, ?_⟩) ?_ ?_
  rotate_left
  · intro w'
    go_simp
    with_reducible rfl
  rotate_left
  · simp only [Act.put, List.setIfInBounds_toArray, List.set_cons_zero, List.set_cons_succ, i64_w, i32_w]
    rfl
  refine pure_ (i := 20) (N := some 53) (v := ?_) (a' := ?_) #[true, true, true, true, true, true, true, true, true, true, true, true, true, true, true, true, true, true, true, true, true, false, false, false, false, false] rfl rfl (by kernel_rfl) (fun _ _ _ h => h) (Or.inl ⟨by rfl, ?_⟩) ?_ ?_
  rotate_left
  · intro w'
    go_simp
    with_reducible rfl
  rotate_left
  · simp only [Act.put, List.setIfInBounds_toArray, List.set_cons_zero, List.set_cons_succ, i64_w, i32_w]
    rfl
  refine pure_ (i := 21) (N := some 54) (v := ?_) (a' := ?_) #[true, true, true, true, true, true, true, true, true, true, true, true, true, true, true, true, true, true, true, true, true, true, false, false, false, false] rfl rfl (by kernel_rfl) (fun _ _ _ h => h) (Or.inl ⟨by rfl, ?_⟩) ?_ ?_
  rotate_left
  · intro w'
    go_simp
    with_reducible rfl
  rotate_left
  · simp only [Act.put, List.setIfInBounds_toArray, List.set_cons_zero, List.set_cons_succ, i64_w, i32_w]
    rfl
  refine pure_ (i := 22) (N := some 55) (v := ?_) (a' := ?_) #[true, true, true, true, true, true, true, true, true, true, true, true, true, true, true, true, true, true, true, true, true, true, true, false, false, false] rfl rfl (by kernel_rfl) (fun _ _ _ h => h) (Or.inl ⟨by rfl, ?_⟩) ?_ ?_
  rotate_left
  · intro w'
    go_simp
    with_reducible rfl
  rotate_left
  · simp only [Act.put, List.setIfInBounds_toArray, List.set_cons_zero, List.set_cons_succ, i64_w, i32_w]
    rfl
  refine take_ (i := 23) (N := some 56) (v := ?_) (a' := ?_) #[true, true, true, true, true, true, true, true, true, true, true, true, true, true, true, true, true, true, true, true, true, true, true, true, false, false] rfl rfl (by kernel_rfl) (fun _ _ _ h => h) (Or.inl ⟨by rfl, ?_⟩) hHeld ?_ ?_
  rotate_left
  · rintro w' ⟨s0, s1, s2, s3, s4, s5, s6⟩
    go_simp
    with_reducible rfl
  rotate_left
  · simp only [Act.put, List.setIfInBounds_toArray, List.set_cons_zero, List.set_cons_succ, i64_w, i32_w]
    rfl
  refine pure_ (i := 24) (N := some 57) (v := ?_) (a' := ?_) #[true, true, true, true, true, true, true, true, true, true, true, true, true, true, true, true, true, true, true, true, true, true, true, true, true, false] rfl rfl (by kernel_rfl) (fun _ _ _ h => h) (Or.inl ⟨by rfl, ?_⟩) ?_ ?_
  rotate_left
  · intro w'
    go_simp
    with_reducible rfl
  rotate_left
  · simp only [Act.put, List.setIfInBounds_toArray, List.set_cons_zero, List.set_cons_succ, i64_w, i32_w]
    rfl
  refine pure_ (i := 25) (N := some 58) (v := ?_) (a' := ?_) #[true, true, true, true, true, true, true, true, true, true, true, true, true, true, true, true, true, true, true, true, true, true, true, true, true, true] rfl rfl (by kernel_rfl) (fun _ _ _ h => h) (Or.inl ⟨by rfl, ?_⟩) ?_ ?_
  rotate_left
  · intro w'
    go_simp
    with_reducible rfl
  rotate_left
  · simp only [Act.put, List.setIfInBounds_toArray, List.set_cons_zero, List.set_cons_succ, i64_w, i32_w]
    rfl
  refine done_ (by kernel_rfl) ?_
  clear hHeld q1 q2 q3 q4 T0 BK8
  go_wp2_with fail
  rw [rounds_succ]
  obtain ⟨⟨n, e⟩, hg⟩ : ∃ r, allow_Net.g ra rb rc = r := ⟨_, rfl⟩
  rw [hg] at GN
  have hg := Aside0.mk hg
  clear hix0 hix1 hix2
  go_wp2_with ((with_reducible refine gate_dst (N := 61) rfl ?_); refine wpList_load_row rfl 27 (.tmp 5) rfl g5 rfl 27 _ (0, 0) _ BK5.out Try.underlying27 rfl (by kernel_rfl) ?_)
  with_reducible refine (lombardlaw16_AllowTies.netc ra rb rc ⟨lombardlaw16_AllowTies.good_inr GA.out⟩ ⟨lombardlaw16_AllowTies.good_inr GB.out⟩ ⟨lombardlaw16_AllowTies.good_inr GC.out⟩ _ hg.out).mono ?_
  rintro e_ v1 ⟨rfl, hb⟩
  have n_HB := Aside0.mk (below_alloc (below_step HB.out hb) (.cells #[.int .i64 0, .int .i64 0, .int .i64 0, .int .i64 0, .int .i64 0, .int .i64 0] 26))
  have n_BK9 := Aside0.mk (show (v1.alloc (.cells #[.int .i64 0, .int .i64 0, .int .i64 0, .int .i64 0, .int .i64 0, .int .i64 0] 26)).heap[v1.heap.size]? = some (.cells (row6 Row6.z) 26 (0, 0)) from blk_new v1 _)
  have hg9 := below_size (below_step HB.out hb)
  clear HB BK3 BK5 hb
  go_wp2_with ((with_reducible refine gate_store (t := 26) (p := 9) (v := .tmp 63) rfl ?_); refine Shut.out ?_)
  unfold Shut
  generalize v1.alloc (.cells #[.int .i64 0, .int .i64 0, .int .i64 0, .int .i64 0, .int .i64 0, .int .i64 0] 26) = v2 at n_HB n_BK9 ⊢
  generalize v1.heap.size = g9 at n_BK9 hg9 ⊢
  have HB := n_HB
  clear n_HB
  have BK9 := n_BK9
  clear n_BK9
  refine store_rowTo rfl 26 (.tmp 9) (.tmp 63) rfl rfl g9 (row6 n) rfl rfl 26 _ BK9.out (by kernel_rfl) rfl (all6 _ _ _ _ _ _) ?_
  have n_HB := Aside0.mk (row_below (g := g9) HB.out (by omega) (row6 n))
  have n_BK9 := Aside0.mk (setRow_heap _ _ _ (row6 n) _ _ BK9.out)
  clear HB BK9
  generalize v2.setRow g9 (row6 n) = v3 at n_HB n_BK9 ⊢
  have HB := n_HB
  have BK9 := n_BK9
  clear n_HB n_BK9
  by_cases he : e = 0
  case neg =>
    have hb1 : (e == 0) = false := by simpa using he
    have hb2 : (e != 0) = true := by simpa using he
    clear he
    go_wp2_with fail
    go_ret
    exact ⟨rfl, HB.out⟩
  subst he
  obtain ⟨h1, h2⟩ := GN.out rfl
  replace h1 : n.i = n.u := h1
  replace h2 : allow_Ties.f n.o n.i n.u n.n n.w n.c = some true := h2
  have q1 : (n.i == n.u) = true := by rw [h1]; simp
  have T0 := Aside0.mk h2
  clear h1 h2
  have hk0 : v3.cell? ⟨g9, 0, none⟩ = some (.int .i64 n.o) := blk_cell BK9.out 0
  have hk1 : v3.cell? ⟨g9, 1, none⟩ = some (.int .i64 n.i) := blk_cell BK9.out 1
  have hk2 : v3.cell? ⟨g9, 2, none⟩ = some (.int .i64 n.u) := blk_cell BK9.out 2
  have hk3 : v3.cell? ⟨g9, 3, none⟩ = some (.int .i64 n.n) := blk_cell BK9.out 3
  have hk4 : v3.cell? ⟨g9, 4, none⟩ = some (.int .i64 n.w) := blk_cell BK9.out 4
  have hk5 : v3.cell? ⟨g9, 5, none⟩ = some (.int .i64 n.c) := blk_cell BK9.out 5
  go_wp2_with fail
  with_reducible refine (lombardlaw16_AllowTies.tcl n T0.out _).mono ?_
  rintro e_ v4 ⟨rfl, hb⟩
  have n_HB := Aside0.mk (below_step HB.out hb)
  clear HB BK9 hk0 hk1 hk2 hk3 hk4 hk5 hb
  go_wp2_with fail
  go_ret
  exact ⟨rfl, n_HB.out⟩
set_option maxHeartbeats 8000000 in
set_option maxRecDepth 100000 in
theorem lombardlaw16_AllowTies.big (A : Option Addr) (c : Nat) (l : List S40) (o0 o1 o2 : Int) (w : World) (hl : 500 < l.length) :
    Calls Try.prog 8 #[.agg #[.int .i64 o0, .int .i64 o1, .int .i64 o2], .slice A l.length c] w fun e w' => e = .returned (.bool true) ∧ Below w.heap.size w w' := by
  have hb0 : decide (500 < (l.length : Int)) = true := decide_eq_true (by omega)
  clear hl
  go_enter Try.func8, Try.ntmps8
  go_wp2_with fail
  with_reducible refine (lombardlaw16_alive.calls true _ rfl).mono ?_
  rintro e w1 ⟨rfl, hb⟩
  have HB := Aside0.mk (below_step (w := w) (below_alloc (Below.refl _ _) _) hb)
  clear hb
  go_wp2_with fail
  go_ret
  exact ⟨rfl, HB.out⟩
theorem lombardlaw16_AllowTies.calls (a0_0 : Int) (a0_1 : Int) (a0_2 : Int) (A1 : Option Addr) (c1 : Nat) (l1 : List (S40)) (r : Bool) (w : World) (hr1 : Kd.C k40 w A1 l1.length l1) (hc1 : l1.length ≤ c1) (h : lombardlaw16_AllowTies.f a0_0 a0_1 a0_2 l1 = some r) :
    Calls Try.prog 8 #[.agg #[.int .i64 a0_0, .int .i64 a0_1, .int .i64 a0_2], .slice A1 l1.length c1] w fun e w' => e = .returned (.bool r) ∧ Below w.heap.size w w' := by
  obtain rfl := Option.some.inj h
  by_cases hl : 500 < l1.length
  · exact lombardlaw16_AllowTies.big A1 c1 l1 a0_0 a0_1 a0_2 w hl
  · exact lombardlaw16_AllowTies.walk A1 c1 l1 a0_0 a0_1 a0_2 w hr1 hc1 (by omega) ⟨rfl⟩


end Go.Proofs.Ytgeeffnokedllaa.Print
