-- written by this session's program wip/hybrid.py over the kit's printer, and by hand. Not trusted: Lean checks it.
import Derived.Test.YtgeeffnokedllaaPrint0
import Derived.Test.YtgeeffnokedllaaPrint1
import Derived.Test.YtgeeffnokedllaaPrint3
import Derived.Test.YtgeeffnokedllaaPrint6
import Derived.Test.YtgeeffnokedllaaPrint8
import Derived.Test.YtgeeffnokedllaaPrint9
namespace Go.Proofs.Ytgeeffnokedllaa.Print
open Go.RowKit Go.Proofs.YtgeeffnokedllaaW.PrintWords Go.Proofs.YtgeeffnokedllaaW.PrintLast Go.Proofs.YtgeeffnokedllaaW.PrintMore
attribute [local go_sem] max2_int min2_int max_two min_two max_three min_three max_four min_four   -- for this text's walks alone
set_option linter.unusedVariables false
set_option linter.unusedSimpArgs false

/-! ### lombardlaw16_AllowParts: function 5 -/
theorem lombardlaw16_AllowParts.one (la lb : List S50) (o k : Int) (h : ∀ x ∈ lb ++ la, allow_Change.ok x) (hl : (lb ++ la).length ≤ 300) (ho : okW o) (hc : okW (allow_Roll.row lb o k).c) :
    (allow_Roll.row la (allow_Roll.row lb o k).c k).c = (allow_Roll.row (lb ++ la) o k).c ∧ IntKind.i64.wrap ((allow_Roll.row lb o k).i + (allow_Roll.row la (allow_Roll.row lb o k).c k).i) = (allow_Roll.row (lb ++ la) o k).i ∧ IntKind.i64.wrap ((allow_Roll.row lb o k).n + (allow_Roll.row la (allow_Roll.row lb o k).c k).n) = (allow_Roll.row (lb ++ la) o k).n := by
  have hlb : lb.length ≤ 1000 := by rw [List.length_append] at hl; omega
  have hla : la.length ≤ 1000 := by rw [List.length_append] at hl; omega
  have h1 := sums_bd allow_Change.key21 allow_Change.amt21 (lb ++ la) k (fun x hx => (amt_bd (h x hx)).1)
  have h3 := sums_bd allow_Change.key24 allow_Change.amt24 (lb ++ la) k (fun x hx => (amt_bd (h x hx)).2.2.1)
  have hl' : ((lb ++ la).length : Int) ≤ 300 := by omega
  rw [row_ok (lb ++ la) o k h (by omega) ho, row_ok la _ k (fun x hx => h x (List.mem_append_right _ hx)) hla hc, row_ok lb o k (fun x hx => h x (List.mem_append_left _ hx)) hlb ho]
  simp only [sums_app2] at h1 h3 ⊢
  refine ⟨by omega, ?_, ?_⟩
  · rw [IntKind.wrap_i64]; omega
  · rw [IntKind.wrap_i64]; omega
theorem lombardlaw16_AllowParts.facts {l la lb : List S40} {k : Nat} (hLA : la = l.drop k) (hLB : lb = l.take k) (hkl : k ≤ l.length) (hl : l.length ≤ 300) {o0 o1 o2 : Int} {ra rb rc sa sb sc ta tb tc : Row6} (rh : allow_Roll.g o0 o1 o2 (l.map cv) = (ra, rb, rc, 0)) (sh : allow_Roll.g o0 o1 o2 (lb.map cv) = (sa, sb, sc, 0)) (th : allow_Roll.g sa.c sb.c sc.c (la.map cv) = (ta, tb, tc, 0)) :
    (ta.c = ra.c ∧ IntKind.i64.wrap (sa.i + ta.i) = ra.i ∧ IntKind.i64.wrap (sa.n + ta.n) = ra.n) ∧ (tb.c = rb.c ∧ IntKind.i64.wrap (sb.i + tb.i) = rb.i ∧ IntKind.i64.wrap (sb.n + tb.n) = rb.n) ∧ (tc.c = rc.c ∧ IntKind.i64.wrap (sc.i + tc.i) = rc.i ∧ IntKind.i64.wrap (sc.n + tc.n) = rc.n) := by
  have e : l.map cv = lb.map cv ++ la.map cv := by rw [hLA, hLB, ← List.map_append, List.take_append_drop]
  obtain ⟨r1, r2, r3, r4, r5⟩ := g_ok rh
  obtain ⟨_, _, s3, s4, s5⟩ := g_ok sh
  obtain ⟨_, t2, t3, t4, t5⟩ := g_ok th
  rw [e] at r1 r3 r4 r5
  have hl2 : (lb.map cv ++ la.map cv).length ≤ 300 := by rw [← e]; simpa using hl
  unfold allow_Roll.okO at r2 t2
  have k0 : okW o0 := by unfold okW; omega
  have k1 : okW o1 := by unfold okW; omega
  have k2 : okW o2 := by unfold okW; omega
  have j0 : okW (allow_Roll.row (lb.map cv) o0 1).c := by rw [← s3]; unfold okW; omega
  have j1 : okW (allow_Roll.row (lb.map cv) o1 2).c := by rw [← s4]; unfold okW; omega
  have j2 : okW (allow_Roll.row (lb.map cv) o2 3).c := by rw [← s5]; unfold okW; omega
  have q0 := lombardlaw16_AllowParts.one (la.map cv) (lb.map cv) o0 1 r1 hl2 k0 j0
  have q1 := lombardlaw16_AllowParts.one (la.map cv) (lb.map cv) o1 2 r1 hl2 k1 j1
  have q2 := lombardlaw16_AllowParts.one (la.map cv) (lb.map cv) o2 3 r1 hl2 k2 j2
  rw [← s3, ← r3, ← t3] at q0
  rw [← s4, ← r4, ← t4] at q1
  rw [← s5, ← r5, ← t5] at q2
  exact ⟨q0, q1, q2⟩
def lombardlaw16_AllowParts.f (o0 o1 o2 : Int) (l : List S40) (a2 : Int) : Option Bool := if 0 ≤ a2 ∧ a2 ≤ 255 then some true else none
set_option maxHeartbeats 8000000 in
set_option maxRecDepth 100000 in
theorem lombardlaw16_AllowParts.walk (A : Option Addr) (c : Nat) (l : List S40) (o0 o1 o2 : Int) (a k : Nat) (w : World) (hr : Kd.C k40 w A l.length l) (hc : l.length ≤ c) (hl : l.length ≤ 300) (ha : a ≤ 255) (hk : a % (l.length + 1) = k) (hkl : k ≤ l.length) (la lb : List S40) (hLA : Aside0 (la = l.drop k)) (hLB : Aside0 (lb = l.take k))
    {ra rb rc sa sb sc : Row6} {re se : Int} (rh : Aside0 (allow_Roll.g o0 o1 o2 (l.map cv) = (ra, rb, rc, re))) (sh : Aside0 (allow_Roll.g o0 o1 o2 (lb.map cv) = (sa, sb, sc, se))) :
    Calls Try.prog 5 #[.agg #[.int .i64 o0, .int .i64 o1, .int .i64 o2], .slice A l.length c, .int .u8 (a : Int)] w fun e w' => e = .returned (.bool true) ∧ Below w.heap.size w w' := by
  have HR := Aside0.mk hr
  have HC := Aside0.mk hc
  have HK := Aside0.mk hk
  clear hr hc hk
  go_enter Try.func5, Try.ntmps5
  go_wp2_with fail
  with_reducible refine (lombardlaw16_alive.calls true _ rfl).mono ?_
  rintro e w1 ⟨rfl, hb⟩
  have HB := Aside0.mk (below_step (w := w) (below_alloc (Below.refl _ _) _) hb)
  have BK3 := Aside0.mk (blk_below (blk_new w (.cells #[.int .i64 o0, .int .i64 o1, .int .i64 o2] 22)) hb)
  clear hb
  go_wp2_with fail
  have hkk : (a : Int) % ((l.length : Int) + 1) = (k : Int) := by rw [← HK.out]; simp
  generalize (a : Int) % ((l.length : Int) + 1) = kk at hkk ⊢
  subst hkk
  have n_HB := Aside0.mk (below_drew1 HB.out)
  have n_BK3 := Aside0.mk (blk_drew BK3.out)
  clear HB BK3
  have HB := n_HB
  clear n_HB
  have BK3 := n_BK3
  clear n_BK3
  refine start_ (n := 10) (S := fun w' => w'.cell? ⟨w.heap.size, 0, none⟩ = some (.int .i64 o0) ∧ w'.cell? ⟨w.heap.size, 1, none⟩ = some (.int .i64 o1) ∧ w'.cell? ⟨w.heap.size, 2, none⟩ = some (.int .i64 o2)) (ds := [8]) #[false, false, false, false, false, false, false, false, false, false] (by kernel_rfl) rfl rfl ⟨(blk_cell BK3.out 0).trans rfl, (blk_cell BK3.out 1).trans rfl, (blk_cell BK3.out 2).trans rfl⟩ (fun hHeld => ?_)
  generalize w1.drew = w2 at HB BK3 hHeld ⊢
  refine pure_ (i := 1) (N := some 28) (v := ?_) (a' := ?_) #[false, true, false, false, false, false, false, false, false, false] rfl rfl (by kernel_rfl) (fun _ _ _ h => h) (Or.inl ⟨by rfl, ?_⟩) ?_ ?_
  rotate_left
  · intro w'
    go_simp
    with_reducible rfl
  rotate_left
  · simp only [Act.put, List.setIfInBounds_toArray, List.set_cons_zero, List.set_cons_succ, i64_w, i32_w]
    rfl
  refine take_ (i := 0) (N := some 27) (v := ?_) (a' := ?_) #[true, true, false, false, false, false, false, false, false, false] rfl rfl (by kernel_rfl) (fun _ _ _ h => h) (Or.inl ⟨by rfl, ?_⟩) hHeld ?_ ?_
  rotate_left
  · rintro w' ⟨s0, s1, s2⟩
    go_simp
    with_reducible rfl
  rotate_left
  · simp only [Act.put, List.setIfInBounds_toArray, List.set_cons_zero, List.set_cons_succ, i64_w, i32_w]
    rfl
  refine join_ (σ := Option Addr × Nat × Nat) 2 #[true, true, true, true, true, true, true, true, false, false] (fun s_ => [(29, .slice s_.1 ((l).map cv).length s_.2.1), (30, .tuple #[.agg (row18 ra rb rc), .int .i64 re]), (26, .tuple #[.agg (row18 ra rb rc), .int .i64 re]), (31, .agg (row18 ra rb rc)), (32, .int .i64 re), (8, .pointer (some ⟨s_.2.2, 0, none⟩))]) (fun s_ w' => (w'.cell? ⟨w.heap.size, 0, none⟩ = some (.int .i64 o0)) ∧ (w'.cell? ⟨w.heap.size, 1, none⟩ = some (.int .i64 o1)) ∧ (w'.cell? ⟨w.heap.size, 2, none⟩ = some (.int .i64 o2)) ∧ (w'.heap[w.heap.size]? = some (.cells #[.int .i64 o0, .int .i64 o1, .int .i64 o2] 22 (0, 0))) ∧ (w'.heap[s_.2.2]? = some (.cells (row18 Row6.z Row6.z Row6.z) 27 (0, 0))) ∧ (w.heap.size + 1 ≤ s_.2.2) ∧ (Below w.heap.size w w')) ?_ ?_
  rotate_left
  · intro hCont
    refine two_ (i := 2) (j := 7) (Ni := some 29) (Nj := some 8) #[true, true, true, false, false, false, false, false, false, false] #[true, true, false, false, false, false, false, true, false, false] rfl rfl rfl rfl (by kernel_rfl) (by decide) (by decide) (fun K hK => ?_) (fun K hK => ?_)
    · skip
      refine goes_ Try.func11 (by kernel_rfl) rfl #[.slice (A) (l).length (c)] (by rfl) rfl rfl (by (try simp only [List.map_toArray, List.map_cons, List.map_nil]); first | done | rfl) ?_
      with_reducible refine (to_pl (A) (c) (l) _ (Kd.C_below HR.out HB.out) HC.out (by omega)).mono ?_
      rintro e y2_ ⟨v_, rfl, ho, hb⟩
      refine ⟨_, rfl, ?_⟩
      have m_R29 := Aside0.mk (Kd.R_lower ho (below_size HB.out))
      have n_HB := Aside0.mk (below_step HB.out hb)
      have n_BK3 := Aside0.mk (blk_below BK3.out hb)
      clear HB
      have HB := n_HB
      clear n_HB
      clear BK3
      have BK3 := n_BK3
      clear n_BK3
      clear hb
      have R29 := m_R29
      clear m_R29
      clear ho
      obtain ⟨A29, c29, eo⟩ := Kd.R_slice R29.out
      subst eo
      refine hK.out _ _ ⟨(blk_cell BK3.out 0).trans rfl, (blk_cell BK3.out 1).trans rfl, (blk_cell BK3.out 2).trans rfl⟩ (fun hHeld => ?_)
      clear hK K
      refine norm_ (a' := ?_) ?_ ?_
      rotate_left
      · show Act.put _ (some 29) _ = _
        simp only [Act.put, List.setIfInBounds_toArray, List.set_cons_zero, List.set_cons_succ, i64_w, i32_w]
        rfl
      refine two_ (i := 3) (j := 7) (Ni := some 30) (Nj := some 8) #[true, true, true, true, false, false, false, false, false, false] #[true, true, true, false, false, false, false, true, false, false] rfl rfl rfl rfl (by kernel_rfl) (by decide) (by decide) (fun K hK => ?_) (fun K hK => ?_)
      · skip
        refine goes_ Try.func10 (by kernel_rfl) rfl #[.agg #[.int .i64 o0, .int .i64 o1, .int .i64 o2], .slice A29 (l.map cv).length c29] (by rfl) rfl rfl (by (try simp only [List.map_toArray, List.map_cons, List.map_nil]); first | done | rfl) ?_
        with_reducible refine (roll_eq rh.out _ _ _ (Kd.R_reads' R29.out).2.2 (Kd.R_reads' R29.out).2.1).mono ?_
        rintro e y3_ ⟨rfl, hb⟩
        refine ⟨_, rfl, ?_⟩
        have n_HB := Aside0.mk (below_step HB.out hb)
        have n_BK3 := Aside0.mk (blk_below BK3.out hb)
        clear HB
        have HB := n_HB
        clear n_HB
        clear BK3
        have BK3 := n_BK3
        clear n_BK3
        clear hb
        clear R29
        refine hK.out _ _ ⟨(blk_cell BK3.out 0).trans rfl, (blk_cell BK3.out 1).trans rfl, (blk_cell BK3.out 2).trans rfl⟩ (fun hHeld => ?_)
        clear hK K
        refine norm_ (a' := ?_) ?_ ?_
        rotate_left
        · show Act.put _ (some 30) _ = _
          simp only [Act.put, List.setIfInBounds_toArray, List.set_cons_zero, List.set_cons_succ, i64_w, i32_w]
          rfl
        refine pure_ (i := 4) (N := some 26) (v := ?_) (a' := ?_) #[true, true, true, true, true, false, false, false, false, false] rfl rfl (by kernel_rfl) (fun _ _ _ h => h) (Or.inl ⟨by rfl, ?_⟩) ?_ ?_
        rotate_left
        · intro w'
          go_simp
          with_reducible rfl
        rotate_left
        · simp only [Act.put, List.setIfInBounds_toArray, List.set_cons_zero, List.set_cons_succ, i64_w, i32_w]
          rfl
        refine pure_ (i := 5) (N := some 31) (v := ?_) (a' := ?_) #[true, true, true, true, true, true, false, false, false, false] rfl rfl (by kernel_rfl) (fun _ _ _ h => h) (Or.inl ⟨by rfl, ?_⟩) ?_ ?_
        rotate_left
        · intro w'
          go_simp
          with_reducible rfl
        rotate_left
        · simp only [Act.put, List.setIfInBounds_toArray, List.set_cons_zero, List.set_cons_succ, i64_w, i32_w]
          rfl
        refine pure_ (i := 6) (N := some 32) (v := ?_) (a' := ?_) #[true, true, true, true, true, true, true, false, false, false] rfl rfl (by kernel_rfl) (fun _ _ _ h => h) (Or.inl ⟨by rfl, ?_⟩) ?_ ?_
        rotate_left
        · intro w'
          go_simp
          with_reducible rfl
        rotate_left
        · simp only [Act.put, List.setIfInBounds_toArray, List.set_cons_zero, List.set_cons_succ, i64_w, i32_w]
          rfl
        refine one_ (i := 7) (N := some 8) #[true, true, true, true, true, true, true, true, false, false] rfl rfl (by kernel_rfl) (by decide) (fun K hK => ?_)
        refine box_step ?hg (N := 8) ?hd (cs := row18 Row6.z Row6.z Row6.z) (t := 27) ?hr ?_; (case hd => rfl); (case hg => rfl); (case hr => first | (go_simp; done) | (go_simp; rfl))
        intro g8 hg y4_ hbox hb
        have GE8 : w.heap.size + 1 ≤ g8 := by have := blk_lt BK3.out; omega
        have m_ := Aside0.mk hbox
        have n_HB := Aside0.mk (below_step HB.out hb)
        have n_BK3 := Aside0.mk (blk_below BK3.out hb)
        clear HB
        have HB := n_HB
        clear n_HB
        clear BK3
        have BK3 := n_BK3
        clear n_BK3
        clear hb hbox hg
        have BKg8 := m_
        clear m_
        refine hK.out _ _ ⟨(blk_cell BK3.out 0).trans rfl, (blk_cell BK3.out 1).trans rfl, (blk_cell BK3.out 2).trans rfl⟩ (fun hHeld => ?_)
        clear hK K
        refine norm_ (a' := ?_) ?_ ?_
        rotate_left
        · show Act.put _ (some 8) _ = _
          simp only [Act.put, List.setIfInBounds_toArray, List.set_cons_zero, List.set_cons_succ, i64_w, i32_w]
          rfl
        exact norm_ (by simp only [putAll, Act.put, List.setIfInBounds_toArray, List.set_cons_zero, List.set_cons_succ]) (hCont (A29, c29, g8) _ ⟨(blk_cell BK3.out 0).trans rfl, (blk_cell BK3.out 1).trans rfl, (blk_cell BK3.out 2).trans rfl, BK3.out, BKg8.out, GE8, HB.out⟩)
      · skip
        refine box_step ?hg (N := 8) ?hd (cs := row18 Row6.z Row6.z Row6.z) (t := 27) ?hr ?_; (case hd => rfl); (case hg => rfl); (case hr => first | (go_simp; done) | (go_simp; rfl))
        intro g8 hg y5_ hbox hb
        have GE8 : w.heap.size + 1 ≤ g8 := by have := blk_lt BK3.out; omega
        have m_ := Aside0.mk hbox
        have n_HB := Aside0.mk (below_step HB.out hb)
        have n_BK3 := Aside0.mk (blk_below BK3.out hb)
        have n_R29 := Aside0.mk (Kd.R_below R29.out hb)
        clear HB
        have HB := n_HB
        clear n_HB
        clear BK3
        have BK3 := n_BK3
        clear n_BK3
        clear R29
        have R29 := n_R29
        clear n_R29
        clear hb hbox hg
        have BKg8 := m_
        clear m_
        refine hK.out _ _ ⟨(blk_cell BK3.out 0).trans rfl, (blk_cell BK3.out 1).trans rfl, (blk_cell BK3.out 2).trans rfl⟩ (fun hHeld => ?_)
        clear hK K
        refine norm_ (a' := ?_) ?_ ?_
        rotate_left
        · show Act.put _ (some 8) _ = _
          simp only [Act.put, List.setIfInBounds_toArray, List.set_cons_zero, List.set_cons_succ, i64_w, i32_w]
          rfl
        refine one_ (i := 3) (N := some 30) #[true, true, true, true, false, false, false, true, false, false] rfl rfl (by kernel_rfl) (by decide) (fun K hK => ?_)
        refine goes_ Try.func10 (by kernel_rfl) rfl #[.agg #[.int .i64 o0, .int .i64 o1, .int .i64 o2], .slice A29 (l.map cv).length c29] (by rfl) rfl rfl (by (try simp only [List.map_toArray, List.map_cons, List.map_nil]); first | done | rfl) ?_
        with_reducible refine (roll_eq rh.out _ _ _ (Kd.R_reads' R29.out).2.2 (Kd.R_reads' R29.out).2.1).mono ?_
        rintro e y6_ ⟨rfl, hb⟩
        refine ⟨_, rfl, ?_⟩
        have n_HB := Aside0.mk (below_step HB.out hb)
        have n_BK3 := Aside0.mk (blk_below BK3.out hb)
        have n_BKg8 := Aside0.mk (blk_below BKg8.out hb)
        clear HB
        have HB := n_HB
        clear n_HB
        clear BK3
        have BK3 := n_BK3
        clear n_BK3
        clear BKg8
        have BKg8 := n_BKg8
        clear n_BKg8
        clear hb
        clear R29
        refine hK.out _ _ ⟨(blk_cell BK3.out 0).trans rfl, (blk_cell BK3.out 1).trans rfl, (blk_cell BK3.out 2).trans rfl⟩ (fun hHeld => ?_)
        clear hK K
        refine norm_ (a' := ?_) ?_ ?_
        rotate_left
        · show Act.put _ (some 30) _ = _
          simp only [Act.put, List.setIfInBounds_toArray, List.set_cons_zero, List.set_cons_succ, i64_w, i32_w]
          rfl
        refine pure_ (i := 4) (N := some 26) (v := ?_) (a' := ?_) #[true, true, true, true, true, false, false, true, false, false] rfl rfl (by kernel_rfl) (fun _ _ _ h => h) (Or.inl ⟨by rfl, ?_⟩) ?_ ?_
        rotate_left
        · intro w'
          go_simp
          with_reducible rfl
        rotate_left
        · simp only [Act.put, List.setIfInBounds_toArray, List.set_cons_zero, List.set_cons_succ, i64_w, i32_w]
          rfl
        refine pure_ (i := 5) (N := some 31) (v := ?_) (a' := ?_) #[true, true, true, true, true, true, false, true, false, false] rfl rfl (by kernel_rfl) (fun _ _ _ h => h) (Or.inl ⟨by rfl, ?_⟩) ?_ ?_
        rotate_left
        · intro w'
          go_simp
          with_reducible rfl
        rotate_left
        · simp only [Act.put, List.setIfInBounds_toArray, List.set_cons_zero, List.set_cons_succ, i64_w, i32_w]
          rfl
        refine pure_ (i := 6) (N := some 32) (v := ?_) (a' := ?_) #[true, true, true, true, true, true, true, true, false, false] rfl rfl (by kernel_rfl) (fun _ _ _ h => h) (Or.inl ⟨by rfl, ?_⟩) ?_ ?_
        rotate_left
        · intro w'
          go_simp
          with_reducible rfl
        rotate_left
        · simp only [Act.put, List.setIfInBounds_toArray, List.set_cons_zero, List.set_cons_succ, i64_w, i32_w]
          rfl
        exact norm_ (by simp only [putAll, Act.put, List.setIfInBounds_toArray, List.set_cons_zero, List.set_cons_succ]) (hCont (A29, c29, g8) _ ⟨(blk_cell BK3.out 0).trans rfl, (blk_cell BK3.out 1).trans rfl, (blk_cell BK3.out 2).trans rfl, BK3.out, BKg8.out, GE8, HB.out⟩)
    · skip
      refine box_step ?hg (N := 8) ?hd (cs := row18 Row6.z Row6.z Row6.z) (t := 27) ?hr ?_; (case hd => rfl); (case hg => rfl); (case hr => first | (go_simp; done) | (go_simp; rfl))
      intro g8 hg y7_ hbox hb
      have GE8 : w.heap.size + 1 ≤ g8 := by have := blk_lt BK3.out; omega
      have m_ := Aside0.mk hbox
      have n_HB := Aside0.mk (below_step HB.out hb)
      have n_BK3 := Aside0.mk (blk_below BK3.out hb)
      clear HB
      have HB := n_HB
      clear n_HB
      clear BK3
      have BK3 := n_BK3
      clear n_BK3
      clear hb hbox hg
      have BKg8 := m_
      clear m_
      refine hK.out _ _ ⟨(blk_cell BK3.out 0).trans rfl, (blk_cell BK3.out 1).trans rfl, (blk_cell BK3.out 2).trans rfl⟩ (fun hHeld => ?_)
      clear hK K
      refine norm_ (a' := ?_) ?_ ?_
      rotate_left
      · show Act.put _ (some 8) _ = _
        simp only [Act.put, List.setIfInBounds_toArray, List.set_cons_zero, List.set_cons_succ, i64_w, i32_w]
        rfl
      refine one_ (i := 2) (N := some 29) #[true, true, true, false, false, false, false, true, false, false] rfl rfl (by kernel_rfl) (by decide) (fun K hK => ?_)
      refine goes_ Try.func11 (by kernel_rfl) rfl #[.slice (A) (l).length (c)] (by rfl) rfl rfl (by (try simp only [List.map_toArray, List.map_cons, List.map_nil]); first | done | rfl) ?_
      with_reducible refine (to_pl (A) (c) (l) _ (Kd.C_below HR.out HB.out) HC.out (by omega)).mono ?_
      rintro e y8_ ⟨v_, rfl, ho, hb⟩
      refine ⟨_, rfl, ?_⟩
      have m_R29 := Aside0.mk (Kd.R_lower ho (below_size HB.out))
      have n_HB := Aside0.mk (below_step HB.out hb)
      have n_BK3 := Aside0.mk (blk_below BK3.out hb)
      have n_BKg8 := Aside0.mk (blk_below BKg8.out hb)
      clear HB
      have HB := n_HB
      clear n_HB
      clear BK3
      have BK3 := n_BK3
      clear n_BK3
      clear BKg8
      have BKg8 := n_BKg8
      clear n_BKg8
      clear hb
      have R29 := m_R29
      clear m_R29
      clear ho
      obtain ⟨A29, c29, eo⟩ := Kd.R_slice R29.out
      subst eo
      refine hK.out _ _ ⟨(blk_cell BK3.out 0).trans rfl, (blk_cell BK3.out 1).trans rfl, (blk_cell BK3.out 2).trans rfl⟩ (fun hHeld => ?_)
      clear hK K
      refine norm_ (a' := ?_) ?_ ?_
      rotate_left
      · show Act.put _ (some 29) _ = _
        simp only [Act.put, List.setIfInBounds_toArray, List.set_cons_zero, List.set_cons_succ, i64_w, i32_w]
        rfl
      refine one_ (i := 3) (N := some 30) #[true, true, true, true, false, false, false, true, false, false] rfl rfl (by kernel_rfl) (by decide) (fun K hK => ?_)
      refine goes_ Try.func10 (by kernel_rfl) rfl #[.agg #[.int .i64 o0, .int .i64 o1, .int .i64 o2], .slice A29 (l.map cv).length c29] (by rfl) rfl rfl (by (try simp only [List.map_toArray, List.map_cons, List.map_nil]); first | done | rfl) ?_
      with_reducible refine (roll_eq rh.out _ _ _ (Kd.R_reads' R29.out).2.2 (Kd.R_reads' R29.out).2.1).mono ?_
      rintro e y9_ ⟨rfl, hb⟩
      refine ⟨_, rfl, ?_⟩
      have n_HB := Aside0.mk (below_step HB.out hb)
      have n_BK3 := Aside0.mk (blk_below BK3.out hb)
      have n_BKg8 := Aside0.mk (blk_below BKg8.out hb)
      clear HB
      have HB := n_HB
      clear n_HB
      clear BK3
      have BK3 := n_BK3
      clear n_BK3
      clear BKg8
      have BKg8 := n_BKg8
      clear n_BKg8
      clear hb
      clear R29
      refine hK.out _ _ ⟨(blk_cell BK3.out 0).trans rfl, (blk_cell BK3.out 1).trans rfl, (blk_cell BK3.out 2).trans rfl⟩ (fun hHeld => ?_)
      clear hK K
      refine norm_ (a' := ?_) ?_ ?_
      rotate_left
      · show Act.put _ (some 30) _ = _
        simp only [Act.put, List.setIfInBounds_toArray, List.set_cons_zero, List.set_cons_succ, i64_w, i32_w]
        rfl
      refine pure_ (i := 4) (N := some 26) (v := ?_) (a' := ?_) #[true, true, true, true, true, false, false, true, false, false] rfl rfl (by kernel_rfl) (fun _ _ _ h => h) (Or.inl ⟨by rfl, ?_⟩) ?_ ?_
      rotate_left
      · intro w'
        go_simp
        with_reducible rfl
      rotate_left
      · simp only [Act.put, List.setIfInBounds_toArray, List.set_cons_zero, List.set_cons_succ, i64_w, i32_w]
        rfl
      refine pure_ (i := 5) (N := some 31) (v := ?_) (a' := ?_) #[true, true, true, true, true, true, false, true, false, false] rfl rfl (by kernel_rfl) (fun _ _ _ h => h) (Or.inl ⟨by rfl, ?_⟩) ?_ ?_
      rotate_left
      · intro w'
        go_simp
        with_reducible rfl
      rotate_left
      · simp only [Act.put, List.setIfInBounds_toArray, List.set_cons_zero, List.set_cons_succ, i64_w, i32_w]
        rfl
      refine pure_ (i := 6) (N := some 32) (v := ?_) (a' := ?_) #[true, true, true, true, true, true, true, true, false, false] rfl rfl (by kernel_rfl) (fun _ _ _ h => h) (Or.inl ⟨by rfl, ?_⟩) ?_ ?_
      rotate_left
      · intro w'
        go_simp
        with_reducible rfl
      rotate_left
      · simp only [Act.put, List.setIfInBounds_toArray, List.set_cons_zero, List.set_cons_succ, i64_w, i32_w]
        rfl
      exact norm_ (by simp only [putAll, Act.put, List.setIfInBounds_toArray, List.set_cons_zero, List.set_cons_succ]) (hCont (A29, c29, g8) _ ⟨(blk_cell BK3.out 0).trans rfl, (blk_cell BK3.out 1).trans rfl, (blk_cell BK3.out 2).trans rfl, BK3.out, BKg8.out, GE8, HB.out⟩)
  clear hHeld HB BK3
  rintro ⟨A29, c29, g8⟩ y1_ ⟨hS0_, hS1_, hS2_, h_BK3, h_BKg8, h_GE8, h_HB⟩
  have BK3 : Aside0 (y1_.heap[w.heap.size]? = some (.cells #[.int .i64 o0, .int .i64 o1, .int .i64 o2] 22 (0, 0))) := Aside0.mk (h_BK3)
  clear h_BK3
  have BKg8 : Aside0 (y1_.heap[g8]? = some (.cells (row18 Row6.z Row6.z Row6.z) 27 (0, 0))) := Aside0.mk (h_BKg8)
  clear h_BKg8
  have GE8 : w.heap.size + 1 ≤ g8 := h_GE8
  clear h_GE8
  have HB : Aside0 (Below w.heap.size w y1_) := Aside0.mk (h_HB)
  clear h_HB
  have hHeld : y1_.cell? ⟨w.heap.size, 0, none⟩ = some (.int .i64 o0) ∧ y1_.cell? ⟨w.heap.size, 1, none⟩ = some (.int .i64 o1) ∧ y1_.cell? ⟨w.heap.size, 2, none⟩ = some (.int .i64 o2) := ⟨hS0_, hS1_, hS2_⟩
  clear hS0_ hS1_ hS2_
  refine norm_ (a' := ?_) ?_ ?_
  rotate_left
  · simp only [putAll, Act.put, List.setIfInBounds_toArray, List.set_cons_zero, List.set_cons_succ]
    rfl
  refine last_ (i := 8) (N := none) #[true, true, true, true, true, true, true, true, true, false] rfl rfl (by kernel_rfl) (by decide) (fun K hK => ?_)
  refine skip_ (w1 := y1_.setRow g8 (row18 ra rb rc)) (by rfl) rfl (store_run 27 (.tmp 8) (.tmp 31) rfl g8 _ rfl rfl 27 _ BKg8.out (by kernel_rfl) rfl (row18_all _ _ _)) ?_
  have n_HB := Aside0.mk (row_below (g := g8) HB.out (by omega) (row18 ra rb rc))
  have n_BK3 := Aside0.mk ((setRow_other y1_ g8 w.heap.size (row18 ra rb rc) (by omega)).trans BK3.out)
  have n_BK8 := Aside0.mk (setRow_heap _ _ _ (row18 ra rb rc) _ _ BKg8.out)
  clear BK3 BKg8 HB
  generalize y1_.setRow g8 (row18 ra rb rc) = y8 at n_HB n_BK3 n_BK8 ⊢
  have HB := n_HB
  clear n_HB
  have BK3 := n_BK3
  clear n_BK3
  have BK8 := n_BK8
  clear n_BK8
  refine hK.out _ _ ?_
  clear hK K
  refine pure_ (i := 9) (N := some 9) (v := ?_) (a' := ?_) #[true, true, true, true, true, true, true, true, true, true] rfl rfl (by kernel_rfl) (fun _ _ _ h => h) (Or.inl ⟨by rfl, ?_⟩) ?_ ?_
  rotate_left
  · intro w'
    go_simp
    with_reducible rfl
  rotate_left
  · simp only [Act.put, List.setIfInBounds_toArray, List.set_cons_zero, List.set_cons_succ, i64_w, i32_w]
    rfl
  refine done_ (by kernel_rfl) ?_
  clear hHeld
  go_wp2_with fail
  obtain ⟨i0, hi0, _, hsz0, _⟩ := info_parts info40
  have hq0 : (0 : Int) ≤ (k : Int) := by omega
  have hq1 : (k : Int) ≤ (l.length : Int) := by omega
  have hcA := cut_from (P := Try.prog) 23 40 .i64 Try.underlying23 hi0 5 hsz0 A l.length c (k : Int) hq0 hq1
  have hcB := cut_to (P := Try.prog) 23 40 .i64 Try.underlying23 hi0 A l.length c (k : Int) hq0 hq1 HC.out
  have hrA := Kd.C_drop (m := k) (c := c) HR.out hkl HC.out
  have hrB := Kd.C_take (m := k) HR.out hkl
  rw [Int.toNat_natCast] at hcA hcB
  obtain ⟨A34, hA34⟩ : ∃ a_, a_ = (if c = k then A else A.map (·.add (k * 5))) := ⟨_, rfl⟩
  obtain ⟨c34, hc34⟩ : ∃ c_, c_ = c - k := ⟨_, rfl⟩
  have hdl : la.length = l.length - k := by rw [hLA.out]; exact List.length_drop
  have htl : lb.length = k := by rw [hLB.out, List.length_take]; omega
  rw [← hLA.out] at hrA
  rw [← hLB.out] at hrB
  replace hrA : Kd.C k40 w A34 la.length la := by rw [hA34]; exact hrA
  rw [← hdl, ← hA34, ← hc34] at hcA
  replace hcB : ∀ W : World, (Instr.slice 23 (.slice A l.length c) none (some (.int .i64 (k : Int))) none).run Try.prog W = .ok (.slice A lb.length c) W := fun W => by rw [hcB W, htl]
  have hcl : la.length ≤ c34 := by have := HC.out; omega
  have HRA := Aside0.mk hrA
  have HRB := Aside0.mk hrB
  have HCL := Aside0.mk hcl
  have HCT := Aside0.mk (show lb.length ≤ c by have := HC.out; omega)
  have HDL := Aside0.mk hdl
  have HTL := Aside0.mk htl
  clear hrA hrB hcl hA34 hc34 hi0 hsz0 hq0 hq1 hdl htl
  have n_HB := Aside0.mk (below_drew1 HB.out)
  have n_BK3 := Aside0.mk (blk_drew BK3.out)
  have n_BK8 := Aside0.mk (blk_drew BK8.out)
  clear HB BK3 BK8
  have HB := n_HB
  clear n_HB
  have BK3 := n_BK3
  clear n_BK3
  have BK8 := n_BK8
  clear n_BK8
  refine start_ (n := 12) (S := fun w' => w'.cell? ⟨w.heap.size, 0, none⟩ = some (.int .i64 o0) ∧ w'.cell? ⟨w.heap.size, 1, none⟩ = some (.int .i64 o1) ∧ w'.cell? ⟨w.heap.size, 2, none⟩ = some (.int .i64 o2)) (ds := [10]) #[false, false, false, false, false, false, false, false, false, false, false, false] (by kernel_rfl) rfl rfl ⟨(blk_cell BK3.out 0).trans rfl, (blk_cell BK3.out 1).trans rfl, (blk_cell BK3.out 2).trans rfl⟩ (fun hHeld => ?_)
  generalize y8.drew = y9 at HB BK3 BK8 hHeld ⊢
  refine pure_ (i := 1) (N := some 35) (v := ?_) (a' := ?_) #[false, true, false, false, false, false, false, false, false, false, false, false] rfl rfl (by kernel_rfl) (fun _ _ _ h => h) (Or.inl ⟨by rfl, ?_⟩) ?_ ?_
  rotate_left
  · intro w'
    go_simp
    with_reducible rfl
  rotate_left
  · simp only [Act.put, List.setIfInBounds_toArray, List.set_cons_zero, List.set_cons_succ, i64_w, i32_w]
    rfl
  refine pure_ (i := 2) (N := some 36) (v := ?_) (a' := ?_) #[false, true, true, false, false, false, false, false, false, false, false, false] rfl rfl (by kernel_rfl) (fun _ _ _ h => h) (Or.inl ⟨by rfl, ?_⟩) ?_ ?_
  rotate_left
  · intro w'
    go_simp
    with_reducible rfl
  rotate_left
  · simp only [Act.put, List.setIfInBounds_toArray, List.set_cons_zero, List.set_cons_succ, i64_w, i32_w]
    rfl
  refine pure_ (i := 3) (N := some 37) (v := ?_) (a' := ?_) #[false, true, true, true, false, false, false, false, false, false, false, false] rfl rfl (by kernel_rfl) (fun _ _ _ h => h) (Or.inl ⟨by rfl, ?_⟩) ?_ ?_
  rotate_left
  · intro w'
    go_simp
    with_reducible rfl
  rotate_left
  · simp only [Act.put, List.setIfInBounds_toArray, List.set_cons_zero, List.set_cons_succ, i64_w, i32_w]
    rfl
  refine take_ (i := 0) (N := some 34) (v := ?_) (a' := ?_) #[true, true, true, true, false, false, false, false, false, false, false, false] rfl rfl (by kernel_rfl) (fun _ _ _ h => h) (Or.inl ⟨by rfl, ?_⟩) hHeld ?_ ?_
  rotate_left
  · rintro w' ⟨s0, s1, s2⟩
    go_simp
    with_reducible rfl
  rotate_left
  · simp only [Act.put, List.setIfInBounds_toArray, List.set_cons_zero, List.set_cons_succ, i64_w, i32_w]
    rfl
  refine join_ (σ := Option Addr × Nat × Nat) 2 #[true, true, true, true, true, true, true, true, true, true, false, false] (fun s_ => [(38, .slice s_.1 ((lb).map cv).length s_.2.1), (39, .tuple #[.agg (row18 sa sb sc), .int .i64 se]), (33, .tuple #[.agg (row18 sa sb sc), .int .i64 se]), (40, .agg (row18 sa sb sc)), (41, .int .i64 se), (10, .pointer (some ⟨s_.2.2, 0, none⟩))]) (fun s_ w' => (w'.cell? ⟨w.heap.size, 0, none⟩ = some (.int .i64 o0)) ∧ (w'.cell? ⟨w.heap.size, 1, none⟩ = some (.int .i64 o1)) ∧ (w'.cell? ⟨w.heap.size, 2, none⟩ = some (.int .i64 o2)) ∧ (w'.heap[w.heap.size]? = some (.cells #[.int .i64 o0, .int .i64 o1, .int .i64 o2] 22 (0, 0))) ∧ (w'.heap[g8]? = some (.cells (row18 ra rb rc) 27 (0, 0))) ∧ (w'.heap[s_.2.2]? = some (.cells (row18 Row6.z Row6.z Row6.z) 27 (0, 0))) ∧ (g8 + 1 ≤ s_.2.2) ∧ (Below w.heap.size w w')) ?_ ?_
  rotate_left
  · intro hCont
    refine two_ (i := 4) (j := 9) (Ni := some 38) (Nj := some 10) #[true, true, true, true, true, false, false, false, false, false, false, false] #[true, true, true, true, false, false, false, false, false, true, false, false] rfl rfl rfl rfl (by kernel_rfl) (by decide) (by decide) (fun K hK => ?_) (fun K hK => ?_)
    · skip
      refine goes_ Try.func11 (by kernel_rfl) rfl #[.slice (A) (lb).length (c)] (by rfl) rfl rfl (by (try simp only [List.map_toArray, List.map_cons, List.map_nil]); first | done | rfl) ?_
      with_reducible refine (to_pl (A) (c) (lb) _ (Kd.C_below HRB.out HB.out) HCT.out (by have := HTL.out; omega)).mono ?_
      rintro e y11_ ⟨v_, rfl, ho, hb⟩
      refine ⟨_, rfl, ?_⟩
      have m_R38 := Aside0.mk (Kd.R_lower ho (below_size HB.out))
      have n_HB := Aside0.mk (below_step HB.out hb)
      have n_BK3 := Aside0.mk (blk_below BK3.out hb)
      have n_BK8 := Aside0.mk (blk_below BK8.out hb)
      clear HB
      have HB := n_HB
      clear n_HB
      clear BK3
      have BK3 := n_BK3
      clear n_BK3
      clear BK8
      have BK8 := n_BK8
      clear n_BK8
      clear hb
      have R38 := m_R38
      clear m_R38
      clear ho
      obtain ⟨A38, c38, eo⟩ := Kd.R_slice R38.out
      subst eo
      refine hK.out _ _ ⟨(blk_cell BK3.out 0).trans rfl, (blk_cell BK3.out 1).trans rfl, (blk_cell BK3.out 2).trans rfl⟩ (fun hHeld => ?_)
      clear hK K
      refine norm_ (a' := ?_) ?_ ?_
      rotate_left
      · show Act.put _ (some 38) _ = _
        simp only [Act.put, List.setIfInBounds_toArray, List.set_cons_zero, List.set_cons_succ, i64_w, i32_w]
        rfl
      refine two_ (i := 5) (j := 9) (Ni := some 39) (Nj := some 10) #[true, true, true, true, true, true, false, false, false, false, false, false] #[true, true, true, true, true, false, false, false, false, true, false, false] rfl rfl rfl rfl (by kernel_rfl) (by decide) (by decide) (fun K hK => ?_) (fun K hK => ?_)
      · skip
        refine goes_ Try.func10 (by kernel_rfl) rfl #[.agg #[.int .i64 o0, .int .i64 o1, .int .i64 o2], .slice A38 (lb.map cv).length c38] (by rfl) rfl rfl (by (try simp only [List.map_toArray, List.map_cons, List.map_nil]); first | done | rfl) ?_
        with_reducible refine (roll_eq sh.out _ _ _ (Kd.R_reads' R38.out).2.2 (Kd.R_reads' R38.out).2.1).mono ?_
        rintro e y12_ ⟨rfl, hb⟩
        refine ⟨_, rfl, ?_⟩
        have n_HB := Aside0.mk (below_step HB.out hb)
        have n_BK3 := Aside0.mk (blk_below BK3.out hb)
        have n_BK8 := Aside0.mk (blk_below BK8.out hb)
        clear HB
        have HB := n_HB
        clear n_HB
        clear BK3
        have BK3 := n_BK3
        clear n_BK3
        clear BK8
        have BK8 := n_BK8
        clear n_BK8
        clear hb
        clear R38
        refine hK.out _ _ ⟨(blk_cell BK3.out 0).trans rfl, (blk_cell BK3.out 1).trans rfl, (blk_cell BK3.out 2).trans rfl⟩ (fun hHeld => ?_)
        clear hK K
        refine norm_ (a' := ?_) ?_ ?_
        rotate_left
        · show Act.put _ (some 39) _ = _
          simp only [Act.put, List.setIfInBounds_toArray, List.set_cons_zero, List.set_cons_succ, i64_w, i32_w]
          rfl
        refine pure_ (i := 6) (N := some 33) (v := ?_) (a' := ?_) #[true, true, true, true, true, true, true, false, false, false, false, false] rfl rfl (by kernel_rfl) (fun _ _ _ h => h) (Or.inl ⟨by rfl, ?_⟩) ?_ ?_
        rotate_left
        · intro w'
          go_simp
          with_reducible rfl
        rotate_left
        · simp only [Act.put, List.setIfInBounds_toArray, List.set_cons_zero, List.set_cons_succ, i64_w, i32_w]
          rfl
        refine pure_ (i := 7) (N := some 40) (v := ?_) (a' := ?_) #[true, true, true, true, true, true, true, true, false, false, false, false] rfl rfl (by kernel_rfl) (fun _ _ _ h => h) (Or.inl ⟨by rfl, ?_⟩) ?_ ?_
        rotate_left
        · intro w'
          go_simp
          with_reducible rfl
        rotate_left
        · simp only [Act.put, List.setIfInBounds_toArray, List.set_cons_zero, List.set_cons_succ, i64_w, i32_w]
          rfl
        refine pure_ (i := 8) (N := some 41) (v := ?_) (a' := ?_) #[true, true, true, true, true, true, true, true, true, false, false, false] rfl rfl (by kernel_rfl) (fun _ _ _ h => h) (Or.inl ⟨by rfl, ?_⟩) ?_ ?_
        rotate_left
        · intro w'
          go_simp
          with_reducible rfl
        rotate_left
        · simp only [Act.put, List.setIfInBounds_toArray, List.set_cons_zero, List.set_cons_succ, i64_w, i32_w]
          rfl
        refine one_ (i := 9) (N := some 10) #[true, true, true, true, true, true, true, true, true, true, false, false] rfl rfl (by kernel_rfl) (by decide) (fun K hK => ?_)
        refine box_step ?hg (N := 10) ?hd (cs := row18 Row6.z Row6.z Row6.z) (t := 27) ?hr ?_; (case hd => rfl); (case hg => rfl); (case hr => first | (go_simp; done) | (go_simp; rfl))
        intro g10 hg y13_ hbox hb
        have GE10 : g8 + 1 ≤ g10 := by have := blk_lt BK8.out; omega
        have m_ := Aside0.mk hbox
        have n_HB := Aside0.mk (below_step HB.out hb)
        have n_BK3 := Aside0.mk (blk_below BK3.out hb)
        have n_BK8 := Aside0.mk (blk_below BK8.out hb)
        clear HB
        have HB := n_HB
        clear n_HB
        clear BK3
        have BK3 := n_BK3
        clear n_BK3
        clear BK8
        have BK8 := n_BK8
        clear n_BK8
        clear hb hbox hg
        have BKg10 := m_
        clear m_
        refine hK.out _ _ ⟨(blk_cell BK3.out 0).trans rfl, (blk_cell BK3.out 1).trans rfl, (blk_cell BK3.out 2).trans rfl⟩ (fun hHeld => ?_)
        clear hK K
        refine norm_ (a' := ?_) ?_ ?_
        rotate_left
        · show Act.put _ (some 10) _ = _
          simp only [Act.put, List.setIfInBounds_toArray, List.set_cons_zero, List.set_cons_succ, i64_w, i32_w]
          rfl
        exact norm_ (by simp only [putAll, Act.put, List.setIfInBounds_toArray, List.set_cons_zero, List.set_cons_succ]) (hCont (A38, c38, g10) _ ⟨(blk_cell BK3.out 0).trans rfl, (blk_cell BK3.out 1).trans rfl, (blk_cell BK3.out 2).trans rfl, BK3.out, BK8.out, BKg10.out, GE10, HB.out⟩)
      · skip
        refine box_step ?hg (N := 10) ?hd (cs := row18 Row6.z Row6.z Row6.z) (t := 27) ?hr ?_; (case hd => rfl); (case hg => rfl); (case hr => first | (go_simp; done) | (go_simp; rfl))
        intro g10 hg y14_ hbox hb
        have GE10 : g8 + 1 ≤ g10 := by have := blk_lt BK8.out; omega
        have m_ := Aside0.mk hbox
        have n_HB := Aside0.mk (below_step HB.out hb)
        have n_BK3 := Aside0.mk (blk_below BK3.out hb)
        have n_BK8 := Aside0.mk (blk_below BK8.out hb)
        have n_R38 := Aside0.mk (Kd.R_below R38.out hb)
        clear HB
        have HB := n_HB
        clear n_HB
        clear BK3
        have BK3 := n_BK3
        clear n_BK3
        clear BK8
        have BK8 := n_BK8
        clear n_BK8
        clear R38
        have R38 := n_R38
        clear n_R38
        clear hb hbox hg
        have BKg10 := m_
        clear m_
        refine hK.out _ _ ⟨(blk_cell BK3.out 0).trans rfl, (blk_cell BK3.out 1).trans rfl, (blk_cell BK3.out 2).trans rfl⟩ (fun hHeld => ?_)
        clear hK K
        refine norm_ (a' := ?_) ?_ ?_
        rotate_left
        · show Act.put _ (some 10) _ = _
          simp only [Act.put, List.setIfInBounds_toArray, List.set_cons_zero, List.set_cons_succ, i64_w, i32_w]
          rfl
        refine one_ (i := 5) (N := some 39) #[true, true, true, true, true, true, false, false, false, true, false, false] rfl rfl (by kernel_rfl) (by decide) (fun K hK => ?_)
        refine goes_ Try.func10 (by kernel_rfl) rfl #[.agg #[.int .i64 o0, .int .i64 o1, .int .i64 o2], .slice A38 (lb.map cv).length c38] (by rfl) rfl rfl (by (try simp only [List.map_toArray, List.map_cons, List.map_nil]); first | done | rfl) ?_
        with_reducible refine (roll_eq sh.out _ _ _ (Kd.R_reads' R38.out).2.2 (Kd.R_reads' R38.out).2.1).mono ?_
        rintro e y15_ ⟨rfl, hb⟩
        refine ⟨_, rfl, ?_⟩
        have n_HB := Aside0.mk (below_step HB.out hb)
        have n_BK3 := Aside0.mk (blk_below BK3.out hb)
        have n_BK8 := Aside0.mk (blk_below BK8.out hb)
        have n_BKg10 := Aside0.mk (blk_below BKg10.out hb)
        clear HB
        have HB := n_HB
        clear n_HB
        clear BK3
        have BK3 := n_BK3
        clear n_BK3
        clear BK8
        have BK8 := n_BK8
        clear n_BK8
        clear BKg10
        have BKg10 := n_BKg10
        clear n_BKg10
        clear hb
        clear R38
        refine hK.out _ _ ⟨(blk_cell BK3.out 0).trans rfl, (blk_cell BK3.out 1).trans rfl, (blk_cell BK3.out 2).trans rfl⟩ (fun hHeld => ?_)
        clear hK K
        refine norm_ (a' := ?_) ?_ ?_
        rotate_left
        · show Act.put _ (some 39) _ = _
          simp only [Act.put, List.setIfInBounds_toArray, List.set_cons_zero, List.set_cons_succ, i64_w, i32_w]
          rfl
        refine pure_ (i := 6) (N := some 33) (v := ?_) (a' := ?_) #[true, true, true, true, true, true, true, false, false, true, false, false] rfl rfl (by kernel_rfl) (fun _ _ _ h => h) (Or.inl ⟨by rfl, ?_⟩) ?_ ?_
        rotate_left
        · intro w'
          go_simp
          with_reducible rfl
        rotate_left
        · simp only [Act.put, List.setIfInBounds_toArray, List.set_cons_zero, List.set_cons_succ, i64_w, i32_w]
          rfl
        refine pure_ (i := 7) (N := some 40) (v := ?_) (a' := ?_) #[true, true, true, true, true, true, true, true, false, true, false, false] rfl rfl (by kernel_rfl) (fun _ _ _ h => h) (Or.inl ⟨by rfl, ?_⟩) ?_ ?_
        rotate_left
        · intro w'
          go_simp
          with_reducible rfl
        rotate_left
        · simp only [Act.put, List.setIfInBounds_toArray, List.set_cons_zero, List.set_cons_succ, i64_w, i32_w]
          rfl
        refine pure_ (i := 8) (N := some 41) (v := ?_) (a' := ?_) #[true, true, true, true, true, true, true, true, true, true, false, false] rfl rfl (by kernel_rfl) (fun _ _ _ h => h) (Or.inl ⟨by rfl, ?_⟩) ?_ ?_
        rotate_left
        · intro w'
          go_simp
          with_reducible rfl
        rotate_left
        · simp only [Act.put, List.setIfInBounds_toArray, List.set_cons_zero, List.set_cons_succ, i64_w, i32_w]
          rfl
        exact norm_ (by simp only [putAll, Act.put, List.setIfInBounds_toArray, List.set_cons_zero, List.set_cons_succ]) (hCont (A38, c38, g10) _ ⟨(blk_cell BK3.out 0).trans rfl, (blk_cell BK3.out 1).trans rfl, (blk_cell BK3.out 2).trans rfl, BK3.out, BK8.out, BKg10.out, GE10, HB.out⟩)
    · skip
      refine box_step ?hg (N := 10) ?hd (cs := row18 Row6.z Row6.z Row6.z) (t := 27) ?hr ?_; (case hd => rfl); (case hg => rfl); (case hr => first | (go_simp; done) | (go_simp; rfl))
      intro g10 hg y16_ hbox hb
      have GE10 : g8 + 1 ≤ g10 := by have := blk_lt BK8.out; omega
      have m_ := Aside0.mk hbox
      have n_HB := Aside0.mk (below_step HB.out hb)
      have n_BK3 := Aside0.mk (blk_below BK3.out hb)
      have n_BK8 := Aside0.mk (blk_below BK8.out hb)
      clear HB
      have HB := n_HB
      clear n_HB
      clear BK3
      have BK3 := n_BK3
      clear n_BK3
      clear BK8
      have BK8 := n_BK8
      clear n_BK8
      clear hb hbox hg
      have BKg10 := m_
      clear m_
      refine hK.out _ _ ⟨(blk_cell BK3.out 0).trans rfl, (blk_cell BK3.out 1).trans rfl, (blk_cell BK3.out 2).trans rfl⟩ (fun hHeld => ?_)
      clear hK K
      refine norm_ (a' := ?_) ?_ ?_
      rotate_left
      · show Act.put _ (some 10) _ = _
        simp only [Act.put, List.setIfInBounds_toArray, List.set_cons_zero, List.set_cons_succ, i64_w, i32_w]
        rfl
      refine one_ (i := 4) (N := some 38) #[true, true, true, true, true, false, false, false, false, true, false, false] rfl rfl (by kernel_rfl) (by decide) (fun K hK => ?_)
      refine goes_ Try.func11 (by kernel_rfl) rfl #[.slice (A) (lb).length (c)] (by rfl) rfl rfl (by (try simp only [List.map_toArray, List.map_cons, List.map_nil]); first | done | rfl) ?_
      with_reducible refine (to_pl (A) (c) (lb) _ (Kd.C_below HRB.out HB.out) HCT.out (by have := HTL.out; omega)).mono ?_
      rintro e y17_ ⟨v_, rfl, ho, hb⟩
      refine ⟨_, rfl, ?_⟩
      have m_R38 := Aside0.mk (Kd.R_lower ho (below_size HB.out))
      have n_HB := Aside0.mk (below_step HB.out hb)
      have n_BK3 := Aside0.mk (blk_below BK3.out hb)
      have n_BK8 := Aside0.mk (blk_below BK8.out hb)
      have n_BKg10 := Aside0.mk (blk_below BKg10.out hb)
      clear HB
      have HB := n_HB
      clear n_HB
      clear BK3
      have BK3 := n_BK3
      clear n_BK3
      clear BK8
      have BK8 := n_BK8
      clear n_BK8
      clear BKg10
      have BKg10 := n_BKg10
      clear n_BKg10
      clear hb
      have R38 := m_R38
      clear m_R38
      clear ho
      obtain ⟨A38, c38, eo⟩ := Kd.R_slice R38.out
      subst eo
      refine hK.out _ _ ⟨(blk_cell BK3.out 0).trans rfl, (blk_cell BK3.out 1).trans rfl, (blk_cell BK3.out 2).trans rfl⟩ (fun hHeld => ?_)
      clear hK K
      refine norm_ (a' := ?_) ?_ ?_
      rotate_left
      · show Act.put _ (some 38) _ = _
        simp only [Act.put, List.setIfInBounds_toArray, List.set_cons_zero, List.set_cons_succ, i64_w, i32_w]
        rfl
      refine one_ (i := 5) (N := some 39) #[true, true, true, true, true, true, false, false, false, true, false, false] rfl rfl (by kernel_rfl) (by decide) (fun K hK => ?_)
      refine goes_ Try.func10 (by kernel_rfl) rfl #[.agg #[.int .i64 o0, .int .i64 o1, .int .i64 o2], .slice A38 (lb.map cv).length c38] (by rfl) rfl rfl (by (try simp only [List.map_toArray, List.map_cons, List.map_nil]); first | done | rfl) ?_
      with_reducible refine (roll_eq sh.out _ _ _ (Kd.R_reads' R38.out).2.2 (Kd.R_reads' R38.out).2.1).mono ?_
      rintro e y18_ ⟨rfl, hb⟩
      refine ⟨_, rfl, ?_⟩
      have n_HB := Aside0.mk (below_step HB.out hb)
      have n_BK3 := Aside0.mk (blk_below BK3.out hb)
      have n_BK8 := Aside0.mk (blk_below BK8.out hb)
      have n_BKg10 := Aside0.mk (blk_below BKg10.out hb)
      clear HB
      have HB := n_HB
      clear n_HB
      clear BK3
      have BK3 := n_BK3
      clear n_BK3
      clear BK8
      have BK8 := n_BK8
      clear n_BK8
      clear BKg10
      have BKg10 := n_BKg10
      clear n_BKg10
      clear hb
      clear R38
      refine hK.out _ _ ⟨(blk_cell BK3.out 0).trans rfl, (blk_cell BK3.out 1).trans rfl, (blk_cell BK3.out 2).trans rfl⟩ (fun hHeld => ?_)
      clear hK K
      refine norm_ (a' := ?_) ?_ ?_
      rotate_left
      · show Act.put _ (some 39) _ = _
        simp only [Act.put, List.setIfInBounds_toArray, List.set_cons_zero, List.set_cons_succ, i64_w, i32_w]
        rfl
      refine pure_ (i := 6) (N := some 33) (v := ?_) (a' := ?_) #[true, true, true, true, true, true, true, false, false, true, false, false] rfl rfl (by kernel_rfl) (fun _ _ _ h => h) (Or.inl ⟨by rfl, ?_⟩) ?_ ?_
      rotate_left
      · intro w'
        go_simp
        with_reducible rfl
      rotate_left
      · simp only [Act.put, List.setIfInBounds_toArray, List.set_cons_zero, List.set_cons_succ, i64_w, i32_w]
        rfl
      refine pure_ (i := 7) (N := some 40) (v := ?_) (a' := ?_) #[true, true, true, true, true, true, true, true, false, true, false, false] rfl rfl (by kernel_rfl) (fun _ _ _ h => h) (Or.inl ⟨by rfl, ?_⟩) ?_ ?_
      rotate_left
      · intro w'
        go_simp
        with_reducible rfl
      rotate_left
      · simp only [Act.put, List.setIfInBounds_toArray, List.set_cons_zero, List.set_cons_succ, i64_w, i32_w]
        rfl
      refine pure_ (i := 8) (N := some 41) (v := ?_) (a' := ?_) #[true, true, true, true, true, true, true, true, true, true, false, false] rfl rfl (by kernel_rfl) (fun _ _ _ h => h) (Or.inl ⟨by rfl, ?_⟩) ?_ ?_
      rotate_left
      · intro w'
        go_simp
        with_reducible rfl
      rotate_left
      · simp only [Act.put, List.setIfInBounds_toArray, List.set_cons_zero, List.set_cons_succ, i64_w, i32_w]
        rfl
      exact norm_ (by simp only [putAll, Act.put, List.setIfInBounds_toArray, List.set_cons_zero, List.set_cons_succ]) (hCont (A38, c38, g10) _ ⟨(blk_cell BK3.out 0).trans rfl, (blk_cell BK3.out 1).trans rfl, (blk_cell BK3.out 2).trans rfl, BK3.out, BK8.out, BKg10.out, GE10, HB.out⟩)
  clear hHeld HB BK3 BK8
  rintro ⟨A38, c38, g10⟩ y10_ ⟨hS0_, hS1_, hS2_, h_BK3, h_BK8, h_BKg10, h_GE10, h_HB⟩
  have BK3 : Aside0 (y10_.heap[w.heap.size]? = some (.cells #[.int .i64 o0, .int .i64 o1, .int .i64 o2] 22 (0, 0))) := Aside0.mk (h_BK3)
  clear h_BK3
  have BK8 : Aside0 (y10_.heap[g8]? = some (.cells (row18 ra rb rc) 27 (0, 0))) := Aside0.mk (h_BK8)
  clear h_BK8
  have BKg10 : Aside0 (y10_.heap[g10]? = some (.cells (row18 Row6.z Row6.z Row6.z) 27 (0, 0))) := Aside0.mk (h_BKg10)
  clear h_BKg10
  have GE10 : g8 + 1 ≤ g10 := h_GE10
  clear h_GE10
  have HB : Aside0 (Below w.heap.size w y10_) := Aside0.mk (h_HB)
  clear h_HB
  have hHeld : y10_.cell? ⟨w.heap.size, 0, none⟩ = some (.int .i64 o0) ∧ y10_.cell? ⟨w.heap.size, 1, none⟩ = some (.int .i64 o1) ∧ y10_.cell? ⟨w.heap.size, 2, none⟩ = some (.int .i64 o2) := ⟨hS0_, hS1_, hS2_⟩
  clear hS0_ hS1_ hS2_
  refine norm_ (a' := ?_) ?_ ?_
  rotate_left
  · simp only [putAll, Act.put, List.setIfInBounds_toArray, List.set_cons_zero, List.set_cons_succ]
    rfl
  refine last_ (i := 10) (N := none) #[true, true, true, true, true, true, true, true, true, true, true, false] rfl rfl (by kernel_rfl) (by decide) (fun K hK => ?_)
  refine skip_ (w1 := y10_.setRow g10 (row18 sa sb sc)) (by rfl) rfl (store_run 27 (.tmp 10) (.tmp 40) rfl g10 _ rfl rfl 27 _ BKg10.out (by kernel_rfl) rfl (row18_all _ _ _)) ?_
  have n_HB := Aside0.mk (row_below (g := g10) HB.out (by omega) (row18 sa sb sc))
  have n_BK3 := Aside0.mk ((setRow_other y10_ g10 w.heap.size (row18 sa sb sc) (by omega)).trans BK3.out)
  have n_BK8 := Aside0.mk ((setRow_other y10_ g10 g8 (row18 sa sb sc) (by omega)).trans BK8.out)
  have n_BK10 := Aside0.mk (setRow_heap _ _ _ (row18 sa sb sc) _ _ BKg10.out)
  clear BK3 BK8 BKg10 HB
  generalize y10_.setRow g10 (row18 sa sb sc) = y10 at n_HB n_BK3 n_BK8 n_BK10 ⊢
  have HB := n_HB
  clear n_HB
  have BK3 := n_BK3
  clear n_BK3
  have BK8 := n_BK8
  clear n_BK8
  have BK10 := n_BK10
  clear n_BK10
  refine hK.out _ _ ?_
  clear hK K
  refine pure_ (i := 11) (N := some 11) (v := ?_) (a' := ?_) #[true, true, true, true, true, true, true, true, true, true, true, true] rfl rfl (by kernel_rfl) (fun _ _ _ h => h) (Or.inl ⟨by rfl, ?_⟩) ?_ ?_
  rotate_left
  · intro w'
    go_simp
    with_reducible rfl
  rotate_left
  · simp only [Act.put, List.setIfInBounds_toArray, List.set_cons_zero, List.set_cons_succ, i64_w, i32_w]
    rfl
  refine done_ (by kernel_rfl) ?_
  clear hHeld
  by_cases hre : re = 0
  case neg =>
    have hb1 : (re == 0) = false := by simpa using hre
    have hb2 : (re != 0) = true := by simpa using hre
    clear hre
    go_wp2_with fail
    go_ret
    exact ⟨rfl, HB.out⟩
  subst hre
  by_cases hse : se = 0
  case neg =>
    have hb1 : (se == 0) = false := by simpa using hse
    have hb2 : (se != 0) = true := by simpa using hse
    clear hse
    go_wp2_with fail
    go_ret
    exact ⟨rfl, HB.out⟩
  subst hse
  obtain ⟨⟨ta, tb, tc, te⟩, th⟩ : ∃ r, allow_Roll.g sa.c sb.c sc.c (la.map cv) = r := ⟨_, rfl⟩
  have th := Aside0.mk th
  go_wp2_with fail
  clear BK3
  have n_HB := Aside0.mk (below_drew1 HB.out)
  have n_BK8 := Aside0.mk (blk_drew BK8.out)
  have n_BK10 := Aside0.mk (blk_drew BK10.out)
  clear HB BK8 BK10
  have HB := n_HB
  clear n_HB
  have BK8 := n_BK8
  clear n_BK8
  have BK10 := n_BK10
  clear n_BK10
  refine start_ (n := 21) (S := fun w' => w'.cell? ⟨g10, 5, none⟩ = some (.int .i64 sa.c) ∧ w'.cell? ⟨g10, 11, none⟩ = some (.int .i64 sb.c) ∧ w'.cell? ⟨g10, 17, none⟩ = some (.int .i64 sc.c)) (ds := [19]) #[false, false, false, false, false, false, false, false, false, false, false, false, false, false, false, false, false, false, false, false, false] (by kernel_rfl) rfl rfl ⟨(blk_cell BK10.out 5).trans rfl, (blk_cell BK10.out 11).trans rfl, (blk_cell BK10.out 17).trans rfl⟩ (fun hHeld => ?_)
  generalize y10.drew = y11 at HB BK8 BK10 hHeld ⊢
  refine pure_ (i := 0) (N := some 49) (v := ?_) (a' := ?_) #[true, false, false, false, false, false, false, false, false, false, false, false, false, false, false, false, false, false, false, false, false] rfl rfl (by kernel_rfl) (fun _ _ _ h => h) (Or.inl ⟨by rfl, ?_⟩) ?_ ?_
  rotate_left
  · intro w'
    go_simp
    with_reducible rfl
  rotate_left
  · simp only [Act.put, List.setIfInBounds_toArray, List.set_cons_zero, List.set_cons_succ, i64_w, i32_w]
    rfl
  refine pure_ (i := 1) (N := some 50) (v := ?_) (a' := ?_) #[true, true, false, false, false, false, false, false, false, false, false, false, false, false, false, false, false, false, false, false, false] rfl rfl (by kernel_rfl) (fun _ _ _ h => h) (Or.inl ⟨by rfl, ?_⟩) ?_ ?_
  rotate_left
  · intro w'
    go_simp
    with_reducible rfl
  rotate_left
  · simp only [Act.put, List.setIfInBounds_toArray, List.set_cons_zero, List.set_cons_succ, i64_w, i32_w]
    rfl
  refine pure_ (i := 3) (N := some 52) (v := ?_) (a' := ?_) #[true, true, false, true, false, false, false, false, false, false, false, false, false, false, false, false, false, false, false, false, false] rfl rfl (by kernel_rfl) (fun _ _ _ h => h) (Or.inl ⟨by rfl, ?_⟩) ?_ ?_
  rotate_left
  · intro w'
    go_simp
    with_reducible rfl
  rotate_left
  · simp only [Act.put, List.setIfInBounds_toArray, List.set_cons_zero, List.set_cons_succ, i64_w, i32_w]
    rfl
  refine pure_ (i := 4) (N := some 53) (v := ?_) (a' := ?_) #[true, true, false, true, true, false, false, false, false, false, false, false, false, false, false, false, false, false, false, false, false] rfl rfl (by kernel_rfl) (fun _ _ _ h => h) (Or.inl ⟨by rfl, ?_⟩) ?_ ?_
  rotate_left
  · intro w'
    go_simp
    with_reducible rfl
  rotate_left
  · simp only [Act.put, List.setIfInBounds_toArray, List.set_cons_zero, List.set_cons_succ, i64_w, i32_w]
    rfl
  refine pure_ (i := 6) (N := some 55) (v := ?_) (a' := ?_) #[true, true, false, true, true, false, true, false, false, false, false, false, false, false, false, false, false, false, false, false, false] rfl rfl (by kernel_rfl) (fun _ _ _ h => h) (Or.inl ⟨by rfl, ?_⟩) ?_ ?_
  rotate_left
  · intro w'
    go_simp
    with_reducible rfl
  rotate_left
  · simp only [Act.put, List.setIfInBounds_toArray, List.set_cons_zero, List.set_cons_succ, i64_w, i32_w]
    rfl
  refine pure_ (i := 7) (N := some 56) (v := ?_) (a' := ?_) #[true, true, false, true, true, false, true, true, false, false, false, false, false, false, false, false, false, false, false, false, false] rfl rfl (by kernel_rfl) (fun _ _ _ h => h) (Or.inl ⟨by rfl, ?_⟩) ?_ ?_
  rotate_left
  · intro w'
    go_simp
    with_reducible rfl
  rotate_left
  · simp only [Act.put, List.setIfInBounds_toArray, List.set_cons_zero, List.set_cons_succ, i64_w, i32_w]
    rfl
  refine pure_ (i := 10) (N := some 59) (v := ?_) (a' := ?_) #[true, true, false, true, true, false, true, true, false, false, true, false, false, false, false, false, false, false, false, false, false] rfl rfl (by kernel_rfl) (fun _ _ _ h => h) (Or.inl ⟨by rfl, ?_⟩) ?_ ?_
  rotate_left
  · intro w'
    go_simp
    with_reducible rfl
  rotate_left
  · simp only [Act.put, List.setIfInBounds_toArray, List.set_cons_zero, List.set_cons_succ, i64_w, i32_w]
    rfl
  refine pure_ (i := 11) (N := some 60) (v := ?_) (a' := ?_) #[true, true, false, true, true, false, true, true, false, false, true, true, false, false, false, false, false, false, false, false, false] rfl rfl (by kernel_rfl) (fun _ _ _ h => h) (Or.inl ⟨by rfl, ?_⟩) ?_ ?_
  rotate_left
  · intro w'
    go_simp
    with_reducible rfl
  rotate_left
  · simp only [Act.put, List.setIfInBounds_toArray, List.set_cons_zero, List.set_cons_succ, i64_w, i32_w]
    rfl
  refine pure_ (i := 12) (N := some 61) (v := ?_) (a' := ?_) #[true, true, false, true, true, false, true, true, false, false, true, true, true, false, false, false, false, false, false, false, false] rfl rfl (by kernel_rfl) (fun _ _ _ h => h) (Or.inl ⟨by rfl, ?_⟩) ?_ ?_
  rotate_left
  · intro w'
    go_simp
    with_reducible rfl
  rotate_left
  · simp only [Act.put, List.setIfInBounds_toArray, List.set_cons_zero, List.set_cons_succ, i64_w, i32_w]
    rfl
  refine take_ (i := 2) (N := some 51) (v := ?_) (a' := ?_) #[true, true, true, true, true, false, true, true, false, false, true, true, true, false, false, false, false, false, false, false, false] rfl rfl (by kernel_rfl) (fun _ _ _ h => h) (Or.inl ⟨by rfl, ?_⟩) hHeld ?_ ?_
  rotate_left
  · rintro w' ⟨s0, s1, s2⟩
    go_simp
    with_reducible rfl
  rotate_left
  · simp only [Act.put, List.setIfInBounds_toArray, List.set_cons_zero, List.set_cons_succ, i64_w, i32_w]
    rfl
  refine take_ (i := 5) (N := some 54) (v := ?_) (a' := ?_) #[true, true, true, true, true, true, true, true, false, false, true, true, true, false, false, false, false, false, false, false, false] rfl rfl (by kernel_rfl) (fun _ _ _ h => h) (Or.inl ⟨by rfl, ?_⟩) hHeld ?_ ?_
  rotate_left
  · rintro w' ⟨s0, s1, s2⟩
    go_simp
    with_reducible rfl
  rotate_left
  · simp only [Act.put, List.setIfInBounds_toArray, List.set_cons_zero, List.set_cons_succ, i64_w, i32_w]
    rfl
  refine take_ (i := 8) (N := some 57) (v := ?_) (a' := ?_) #[true, true, true, true, true, true, true, true, true, false, true, true, true, false, false, false, false, false, false, false, false] rfl rfl (by kernel_rfl) (fun _ _ _ h => h) (Or.inl ⟨by rfl, ?_⟩) hHeld ?_ ?_
  rotate_left
  · rintro w' ⟨s0, s1, s2⟩
    go_simp
    with_reducible rfl
  rotate_left
  · simp only [Act.put, List.setIfInBounds_toArray, List.set_cons_zero, List.set_cons_succ, i64_w, i32_w]
    rfl
  refine pure_ (i := 9) (N := some 58) (v := ?_) (a' := ?_) #[true, true, true, true, true, true, true, true, true, true, true, true, true, false, false, false, false, false, false, false, false] rfl rfl (by kernel_rfl) (fun _ _ _ h => h) (Or.inl ⟨by rfl, ?_⟩) ?_ ?_
  rotate_left
  · intro w'
    go_simp
    with_reducible rfl
  rotate_left
  · simp only [Act.put, List.setIfInBounds_toArray, List.set_cons_zero, List.set_cons_succ, i64_w, i32_w]
    rfl
  refine join_ (σ := Option Addr × Nat × Nat) 2 #[true, true, true, true, true, true, true, true, true, true, true, true, true, true, true, true, true, true, true, false, false] (fun s_ => [(62, .slice s_.1 ((la).map cv).length s_.2.1), (63, .tuple #[.agg (row18 ta tb tc), .int .i64 te]), (48, .tuple #[.agg (row18 ta tb tc), .int .i64 te]), (64, .agg (row18 ta tb tc)), (65, .int .i64 te), (12, .pointer (some ⟨s_.2.2, 0, none⟩))]) (fun s_ w' => (w'.cell? ⟨g10, 5, none⟩ = some (.int .i64 sa.c)) ∧ (w'.cell? ⟨g10, 11, none⟩ = some (.int .i64 sb.c)) ∧ (w'.cell? ⟨g10, 17, none⟩ = some (.int .i64 sc.c)) ∧ (w'.heap[g10]? = some (.cells (row18 sa sb sc) 27 (0, 0))) ∧ (w'.heap[g8]? = some (.cells (row18 ra rb rc) 27 (0, 0))) ∧ (w'.heap[s_.2.2]? = some (.cells (row18 Row6.z Row6.z Row6.z) 27 (0, 0))) ∧ (g10 + 1 ≤ s_.2.2) ∧ (Below w.heap.size w w')) ?_ ?_
  rotate_left
  · intro hCont
    refine two_ (i := 13) (j := 18) (Ni := some 62) (Nj := some 12) #[true, true, true, true, true, true, true, true, true, true, true, true, true, true, false, false, false, false, false, false, false] #[true, true, true, true, true, true, true, true, true, true, true, true, true, false, false, false, false, false, true, false, false] rfl rfl rfl rfl (by kernel_rfl) (by decide) (by decide) (fun K hK => ?_) (fun K hK => ?_)
    · skip
      refine goes_ Try.func11 (by kernel_rfl) rfl #[.slice (A34) (la).length (c34)] (by rfl) rfl rfl (by (try simp only [List.map_toArray, List.map_cons, List.map_nil]); first | done | rfl) ?_
      with_reducible refine (to_pl (A34) (c34) (la) _ (Kd.C_below HRA.out HB.out) HCL.out (by have := HDL.out; omega)).mono ?_
      rintro e y20_ ⟨v_, rfl, ho, hb⟩
      refine ⟨_, rfl, ?_⟩
      have m_R62 := Aside0.mk (Kd.R_lower ho (below_size HB.out))
      have n_HB := Aside0.mk (below_step HB.out hb)
      have n_BK8 := Aside0.mk (blk_below BK8.out hb)
      have n_BK10 := Aside0.mk (blk_below BK10.out hb)
      clear HB
      have HB := n_HB
      clear n_HB
      clear BK8
      have BK8 := n_BK8
      clear n_BK8
      clear BK10
      have BK10 := n_BK10
      clear n_BK10
      clear hb
      have R62 := m_R62
      clear m_R62
      clear ho
      obtain ⟨A62, c62, eo⟩ := Kd.R_slice R62.out
      subst eo
      refine hK.out _ _ ⟨(blk_cell BK10.out 5).trans rfl, (blk_cell BK10.out 11).trans rfl, (blk_cell BK10.out 17).trans rfl⟩ (fun hHeld => ?_)
      clear hK K
      refine norm_ (a' := ?_) ?_ ?_
      rotate_left
      · show Act.put _ (some 62) _ = _
        simp only [Act.put, List.setIfInBounds_toArray, List.set_cons_zero, List.set_cons_succ, i64_w, i32_w]
        rfl
      refine two_ (i := 14) (j := 18) (Ni := some 63) (Nj := some 12) #[true, true, true, true, true, true, true, true, true, true, true, true, true, true, true, false, false, false, false, false, false] #[true, true, true, true, true, true, true, true, true, true, true, true, true, true, false, false, false, false, true, false, false] rfl rfl rfl rfl (by kernel_rfl) (by decide) (by decide) (fun K hK => ?_) (fun K hK => ?_)
      · skip
        refine goes_ Try.func10 (by kernel_rfl) rfl #[.agg #[.int .i64 sa.c, .int .i64 sb.c, .int .i64 sc.c], .slice A62 (la.map cv).length c62] (by rfl) rfl rfl (by (try simp only [List.map_toArray, List.map_cons, List.map_nil]); first | done | rfl) ?_
        with_reducible refine (roll_eq th.out _ _ _ (Kd.R_reads' R62.out).2.2 (Kd.R_reads' R62.out).2.1).mono ?_
        rintro e y21_ ⟨rfl, hb⟩
        refine ⟨_, rfl, ?_⟩
        have n_HB := Aside0.mk (below_step HB.out hb)
        have n_BK8 := Aside0.mk (blk_below BK8.out hb)
        have n_BK10 := Aside0.mk (blk_below BK10.out hb)
        clear HB
        have HB := n_HB
        clear n_HB
        clear BK8
        have BK8 := n_BK8
        clear n_BK8
        clear BK10
        have BK10 := n_BK10
        clear n_BK10
        clear hb
        clear R62
        refine hK.out _ _ ⟨(blk_cell BK10.out 5).trans rfl, (blk_cell BK10.out 11).trans rfl, (blk_cell BK10.out 17).trans rfl⟩ (fun hHeld => ?_)
        clear hK K
        refine norm_ (a' := ?_) ?_ ?_
        rotate_left
        · show Act.put _ (some 63) _ = _
          simp only [Act.put, List.setIfInBounds_toArray, List.set_cons_zero, List.set_cons_succ, i64_w, i32_w]
          rfl
        refine pure_ (i := 15) (N := some 48) (v := ?_) (a' := ?_) #[true, true, true, true, true, true, true, true, true, true, true, true, true, true, true, true, false, false, false, false, false] rfl rfl (by kernel_rfl) (fun _ _ _ h => h) (Or.inl ⟨by rfl, ?_⟩) ?_ ?_
        rotate_left
        · intro w'
          go_simp
          with_reducible rfl
        rotate_left
        · simp only [Act.put, List.setIfInBounds_toArray, List.set_cons_zero, List.set_cons_succ, i64_w, i32_w]
          rfl
        refine pure_ (i := 16) (N := some 64) (v := ?_) (a' := ?_) #[true, true, true, true, true, true, true, true, true, true, true, true, true, true, true, true, true, false, false, false, false] rfl rfl (by kernel_rfl) (fun _ _ _ h => h) (Or.inl ⟨by rfl, ?_⟩) ?_ ?_
        rotate_left
        · intro w'
          go_simp
          with_reducible rfl
        rotate_left
        · simp only [Act.put, List.setIfInBounds_toArray, List.set_cons_zero, List.set_cons_succ, i64_w, i32_w]
          rfl
        refine pure_ (i := 17) (N := some 65) (v := ?_) (a' := ?_) #[true, true, true, true, true, true, true, true, true, true, true, true, true, true, true, true, true, true, false, false, false] rfl rfl (by kernel_rfl) (fun _ _ _ h => h) (Or.inl ⟨by rfl, ?_⟩) ?_ ?_
        rotate_left
        · intro w'
          go_simp
          with_reducible rfl
        rotate_left
        · simp only [Act.put, List.setIfInBounds_toArray, List.set_cons_zero, List.set_cons_succ, i64_w, i32_w]
          rfl
        refine one_ (i := 18) (N := some 12) #[true, true, true, true, true, true, true, true, true, true, true, true, true, true, true, true, true, true, true, false, false] rfl rfl (by kernel_rfl) (by decide) (fun K hK => ?_)
        refine box_step ?hg (N := 12) ?hd (cs := row18 Row6.z Row6.z Row6.z) (t := 27) ?hr ?_; (case hd => rfl); (case hg => rfl); (case hr => first | (go_simp; done) | (go_simp; rfl))
        intro g12 hg y22_ hbox hb
        have GE12 : g10 + 1 ≤ g12 := by have := blk_lt BK10.out; omega
        have m_ := Aside0.mk hbox
        have n_HB := Aside0.mk (below_step HB.out hb)
        have n_BK8 := Aside0.mk (blk_below BK8.out hb)
        have n_BK10 := Aside0.mk (blk_below BK10.out hb)
        clear HB
        have HB := n_HB
        clear n_HB
        clear BK8
        have BK8 := n_BK8
        clear n_BK8
        clear BK10
        have BK10 := n_BK10
        clear n_BK10
        clear hb hbox hg
        have BKg12 := m_
        clear m_
        refine hK.out _ _ ⟨(blk_cell BK10.out 5).trans rfl, (blk_cell BK10.out 11).trans rfl, (blk_cell BK10.out 17).trans rfl⟩ (fun hHeld => ?_)
        clear hK K
        refine norm_ (a' := ?_) ?_ ?_
        rotate_left
        · show Act.put _ (some 12) _ = _
          simp only [Act.put, List.setIfInBounds_toArray, List.set_cons_zero, List.set_cons_succ, i64_w, i32_w]
          rfl
        exact norm_ (by simp only [putAll, Act.put, List.setIfInBounds_toArray, List.set_cons_zero, List.set_cons_succ]) (hCont (A62, c62, g12) _ ⟨(blk_cell BK10.out 5).trans rfl, (blk_cell BK10.out 11).trans rfl, (blk_cell BK10.out 17).trans rfl, BK10.out, BK8.out, BKg12.out, GE12, HB.out⟩)
      · skip
        refine box_step ?hg (N := 12) ?hd (cs := row18 Row6.z Row6.z Row6.z) (t := 27) ?hr ?_; (case hd => rfl); (case hg => rfl); (case hr => first | (go_simp; done) | (go_simp; rfl))
        intro g12 hg y23_ hbox hb
        have GE12 : g10 + 1 ≤ g12 := by have := blk_lt BK10.out; omega
        have m_ := Aside0.mk hbox
        have n_HB := Aside0.mk (below_step HB.out hb)
        have n_BK8 := Aside0.mk (blk_below BK8.out hb)
        have n_BK10 := Aside0.mk (blk_below BK10.out hb)
        have n_R62 := Aside0.mk (Kd.R_below R62.out hb)
        clear HB
        have HB := n_HB
        clear n_HB
        clear BK8
        have BK8 := n_BK8
        clear n_BK8
        clear BK10
        have BK10 := n_BK10
        clear n_BK10
        clear R62
        have R62 := n_R62
        clear n_R62
        clear hb hbox hg
        have BKg12 := m_
        clear m_
        refine hK.out _ _ ⟨(blk_cell BK10.out 5).trans rfl, (blk_cell BK10.out 11).trans rfl, (blk_cell BK10.out 17).trans rfl⟩ (fun hHeld => ?_)
        clear hK K
        refine norm_ (a' := ?_) ?_ ?_
        rotate_left
        · show Act.put _ (some 12) _ = _
          simp only [Act.put, List.setIfInBounds_toArray, List.set_cons_zero, List.set_cons_succ, i64_w, i32_w]
          rfl
        refine one_ (i := 14) (N := some 63) #[true, true, true, true, true, true, true, true, true, true, true, true, true, true, true, false, false, false, true, false, false] rfl rfl (by kernel_rfl) (by decide) (fun K hK => ?_)
        refine goes_ Try.func10 (by kernel_rfl) rfl #[.agg #[.int .i64 sa.c, .int .i64 sb.c, .int .i64 sc.c], .slice A62 (la.map cv).length c62] (by rfl) rfl rfl (by (try simp only [List.map_toArray, List.map_cons, List.map_nil]); first | done | rfl) ?_
        with_reducible refine (roll_eq th.out _ _ _ (Kd.R_reads' R62.out).2.2 (Kd.R_reads' R62.out).2.1).mono ?_
        rintro e y24_ ⟨rfl, hb⟩
        refine ⟨_, rfl, ?_⟩
        have n_HB := Aside0.mk (below_step HB.out hb)
        have n_BK8 := Aside0.mk (blk_below BK8.out hb)
        have n_BK10 := Aside0.mk (blk_below BK10.out hb)
        have n_BKg12 := Aside0.mk (blk_below BKg12.out hb)
        clear HB
        have HB := n_HB
        clear n_HB
        clear BK8
        have BK8 := n_BK8
        clear n_BK8
        clear BK10
        have BK10 := n_BK10
        clear n_BK10
        clear BKg12
        have BKg12 := n_BKg12
        clear n_BKg12
        clear hb
        clear R62
        refine hK.out _ _ ⟨(blk_cell BK10.out 5).trans rfl, (blk_cell BK10.out 11).trans rfl, (blk_cell BK10.out 17).trans rfl⟩ (fun hHeld => ?_)
        clear hK K
        refine norm_ (a' := ?_) ?_ ?_
        rotate_left
        · show Act.put _ (some 63) _ = _
          simp only [Act.put, List.setIfInBounds_toArray, List.set_cons_zero, List.set_cons_succ, i64_w, i32_w]
          rfl
        refine pure_ (i := 15) (N := some 48) (v := ?_) (a' := ?_) #[true, true, true, true, true, true, true, true, true, true, true, true, true, true, true, true, false, false, true, false, false] rfl rfl (by kernel_rfl) (fun _ _ _ h => h) (Or.inl ⟨by rfl, ?_⟩) ?_ ?_
        rotate_left
        · intro w'
          go_simp
          with_reducible rfl
        rotate_left
        · simp only [Act.put, List.setIfInBounds_toArray, List.set_cons_zero, List.set_cons_succ, i64_w, i32_w]
          rfl
        refine pure_ (i := 16) (N := some 64) (v := ?_) (a' := ?_) #[true, true, true, true, true, true, true, true, true, true, true, true, true, true, true, true, true, false, true, false, false] rfl rfl (by kernel_rfl) (fun _ _ _ h => h) (Or.inl ⟨by rfl, ?_⟩) ?_ ?_
        rotate_left
        · intro w'
          go_simp
          with_reducible rfl
        rotate_left
        · simp only [Act.put, List.setIfInBounds_toArray, List.set_cons_zero, List.set_cons_succ, i64_w, i32_w]
          rfl
        refine pure_ (i := 17) (N := some 65) (v := ?_) (a' := ?_) #[true, true, true, true, true, true, true, true, true, true, true, true, true, true, true, true, true, true, true, false, false] rfl rfl (by kernel_rfl) (fun _ _ _ h => h) (Or.inl ⟨by rfl, ?_⟩) ?_ ?_
        rotate_left
        · intro w'
          go_simp
          with_reducible rfl
        rotate_left
        · simp only [Act.put, List.setIfInBounds_toArray, List.set_cons_zero, List.set_cons_succ, i64_w, i32_w]
          rfl
        exact norm_ (by simp only [putAll, Act.put, List.setIfInBounds_toArray, List.set_cons_zero, List.set_cons_succ]) (hCont (A62, c62, g12) _ ⟨(blk_cell BK10.out 5).trans rfl, (blk_cell BK10.out 11).trans rfl, (blk_cell BK10.out 17).trans rfl, BK10.out, BK8.out, BKg12.out, GE12, HB.out⟩)
    · skip
      refine box_step ?hg (N := 12) ?hd (cs := row18 Row6.z Row6.z Row6.z) (t := 27) ?hr ?_; (case hd => rfl); (case hg => rfl); (case hr => first | (go_simp; done) | (go_simp; rfl))
      intro g12 hg y25_ hbox hb
      have GE12 : g10 + 1 ≤ g12 := by have := blk_lt BK10.out; omega
      have m_ := Aside0.mk hbox
      have n_HB := Aside0.mk (below_step HB.out hb)
      have n_BK8 := Aside0.mk (blk_below BK8.out hb)
      have n_BK10 := Aside0.mk (blk_below BK10.out hb)
      clear HB
      have HB := n_HB
      clear n_HB
      clear BK8
      have BK8 := n_BK8
      clear n_BK8
      clear BK10
      have BK10 := n_BK10
      clear n_BK10
      clear hb hbox hg
      have BKg12 := m_
      clear m_
      refine hK.out _ _ ⟨(blk_cell BK10.out 5).trans rfl, (blk_cell BK10.out 11).trans rfl, (blk_cell BK10.out 17).trans rfl⟩ (fun hHeld => ?_)
      clear hK K
      refine norm_ (a' := ?_) ?_ ?_
      rotate_left
      · show Act.put _ (some 12) _ = _
        simp only [Act.put, List.setIfInBounds_toArray, List.set_cons_zero, List.set_cons_succ, i64_w, i32_w]
        rfl
      refine one_ (i := 13) (N := some 62) #[true, true, true, true, true, true, true, true, true, true, true, true, true, true, false, false, false, false, true, false, false] rfl rfl (by kernel_rfl) (by decide) (fun K hK => ?_)
      refine goes_ Try.func11 (by kernel_rfl) rfl #[.slice (A34) (la).length (c34)] (by rfl) rfl rfl (by (try simp only [List.map_toArray, List.map_cons, List.map_nil]); first | done | rfl) ?_
      with_reducible refine (to_pl (A34) (c34) (la) _ (Kd.C_below HRA.out HB.out) HCL.out (by have := HDL.out; omega)).mono ?_
      rintro e y26_ ⟨v_, rfl, ho, hb⟩
      refine ⟨_, rfl, ?_⟩
      have m_R62 := Aside0.mk (Kd.R_lower ho (below_size HB.out))
      have n_HB := Aside0.mk (below_step HB.out hb)
      have n_BK8 := Aside0.mk (blk_below BK8.out hb)
      have n_BK10 := Aside0.mk (blk_below BK10.out hb)
      have n_BKg12 := Aside0.mk (blk_below BKg12.out hb)
      clear HB
      have HB := n_HB
      clear n_HB
      clear BK8
      have BK8 := n_BK8
      clear n_BK8
      clear BK10
      have BK10 := n_BK10
      clear n_BK10
      clear BKg12
      have BKg12 := n_BKg12
      clear n_BKg12
      clear hb
      have R62 := m_R62
      clear m_R62
      clear ho
      obtain ⟨A62, c62, eo⟩ := Kd.R_slice R62.out
      subst eo
      refine hK.out _ _ ⟨(blk_cell BK10.out 5).trans rfl, (blk_cell BK10.out 11).trans rfl, (blk_cell BK10.out 17).trans rfl⟩ (fun hHeld => ?_)
      clear hK K
      refine norm_ (a' := ?_) ?_ ?_
      rotate_left
      · show Act.put _ (some 62) _ = _
        simp only [Act.put, List.setIfInBounds_toArray, List.set_cons_zero, List.set_cons_succ, i64_w, i32_w]
        rfl
      refine one_ (i := 14) (N := some 63) #[true, true, true, true, true, true, true, true, true, true, true, true, true, true, true, false, false, false, true, false, false] rfl rfl (by kernel_rfl) (by decide) (fun K hK => ?_)
      refine goes_ Try.func10 (by kernel_rfl) rfl #[.agg #[.int .i64 sa.c, .int .i64 sb.c, .int .i64 sc.c], .slice A62 (la.map cv).length c62] (by rfl) rfl rfl (by (try simp only [List.map_toArray, List.map_cons, List.map_nil]); first | done | rfl) ?_
      with_reducible refine (roll_eq th.out _ _ _ (Kd.R_reads' R62.out).2.2 (Kd.R_reads' R62.out).2.1).mono ?_
      rintro e y27_ ⟨rfl, hb⟩
      refine ⟨_, rfl, ?_⟩
      have n_HB := Aside0.mk (below_step HB.out hb)
      have n_BK8 := Aside0.mk (blk_below BK8.out hb)
      have n_BK10 := Aside0.mk (blk_below BK10.out hb)
      have n_BKg12 := Aside0.mk (blk_below BKg12.out hb)
      clear HB
      have HB := n_HB
      clear n_HB
      clear BK8
      have BK8 := n_BK8
      clear n_BK8
      clear BK10
      have BK10 := n_BK10
      clear n_BK10
      clear BKg12
      have BKg12 := n_BKg12
      clear n_BKg12
      clear hb
      clear R62
      refine hK.out _ _ ⟨(blk_cell BK10.out 5).trans rfl, (blk_cell BK10.out 11).trans rfl, (blk_cell BK10.out 17).trans rfl⟩ (fun hHeld => ?_)
      clear hK K
      refine norm_ (a' := ?_) ?_ ?_
      rotate_left
      · show Act.put _ (some 63) _ = _
        simp only [Act.put, List.setIfInBounds_toArray, List.set_cons_zero, List.set_cons_succ, i64_w, i32_w]
        rfl
      refine pure_ (i := 15) (N := some 48) (v := ?_) (a' := ?_) #[true, true, true, true, true, true, true, true, true, true, true, true, true, true, true, true, false, false, true, false, false] rfl rfl (by kernel_rfl) (fun _ _ _ h => h) (Or.inl ⟨by rfl, ?_⟩) ?_ ?_
      rotate_left
      · intro w'
        go_simp
        with_reducible rfl
      rotate_left
      · simp only [Act.put, List.setIfInBounds_toArray, List.set_cons_zero, List.set_cons_succ, i64_w, i32_w]
        rfl
      refine pure_ (i := 16) (N := some 64) (v := ?_) (a' := ?_) #[true, true, true, true, true, true, true, true, true, true, true, true, true, true, true, true, true, false, true, false, false] rfl rfl (by kernel_rfl) (fun _ _ _ h => h) (Or.inl ⟨by rfl, ?_⟩) ?_ ?_
      rotate_left
      · intro w'
        go_simp
        with_reducible rfl
      rotate_left
      · simp only [Act.put, List.setIfInBounds_toArray, List.set_cons_zero, List.set_cons_succ, i64_w, i32_w]
        rfl
      refine pure_ (i := 17) (N := some 65) (v := ?_) (a' := ?_) #[true, true, true, true, true, true, true, true, true, true, true, true, true, true, true, true, true, true, true, false, false] rfl rfl (by kernel_rfl) (fun _ _ _ h => h) (Or.inl ⟨by rfl, ?_⟩) ?_ ?_
      rotate_left
      · intro w'
        go_simp
        with_reducible rfl
      rotate_left
      · simp only [Act.put, List.setIfInBounds_toArray, List.set_cons_zero, List.set_cons_succ, i64_w, i32_w]
        rfl
      exact norm_ (by simp only [putAll, Act.put, List.setIfInBounds_toArray, List.set_cons_zero, List.set_cons_succ]) (hCont (A62, c62, g12) _ ⟨(blk_cell BK10.out 5).trans rfl, (blk_cell BK10.out 11).trans rfl, (blk_cell BK10.out 17).trans rfl, BK10.out, BK8.out, BKg12.out, GE12, HB.out⟩)
  clear hHeld HB BK8 BK10
  rintro ⟨A62, c62, g12⟩ y19_ ⟨hS0_, hS1_, hS2_, h_BK10, h_BK8, h_BKg12, h_GE12, h_HB⟩
  have BK10 : Aside0 (y19_.heap[g10]? = some (.cells (row18 sa sb sc) 27 (0, 0))) := Aside0.mk (h_BK10)
  clear h_BK10
  have BK8 : Aside0 (y19_.heap[g8]? = some (.cells (row18 ra rb rc) 27 (0, 0))) := Aside0.mk (h_BK8)
  clear h_BK8
  have BKg12 : Aside0 (y19_.heap[g12]? = some (.cells (row18 Row6.z Row6.z Row6.z) 27 (0, 0))) := Aside0.mk (h_BKg12)
  clear h_BKg12
  have GE12 : g10 + 1 ≤ g12 := h_GE12
  clear h_GE12
  have HB : Aside0 (Below w.heap.size w y19_) := Aside0.mk (h_HB)
  clear h_HB
  have hHeld : y19_.cell? ⟨g10, 5, none⟩ = some (.int .i64 sa.c) ∧ y19_.cell? ⟨g10, 11, none⟩ = some (.int .i64 sb.c) ∧ y19_.cell? ⟨g10, 17, none⟩ = some (.int .i64 sc.c) := ⟨hS0_, hS1_, hS2_⟩
  clear hS0_ hS1_ hS2_
  refine norm_ (a' := ?_) ?_ ?_
  rotate_left
  · simp only [putAll, Act.put, List.setIfInBounds_toArray, List.set_cons_zero, List.set_cons_succ]
    rfl
  refine last_ (i := 19) (N := none) #[true, true, true, true, true, true, true, true, true, true, true, true, true, true, true, true, true, true, true, true, false] rfl rfl (by kernel_rfl) (by decide) (fun K hK => ?_)
  refine skip_ (w1 := y19_.setRow g12 (row18 ta tb tc)) (by rfl) rfl (store_run 27 (.tmp 12) (.tmp 64) rfl g12 _ rfl rfl 27 _ BKg12.out (by kernel_rfl) rfl (row18_all _ _ _)) ?_
  have n_HB := Aside0.mk (row_below (g := g12) HB.out (by omega) (row18 ta tb tc))
  have n_BK8 := Aside0.mk ((setRow_other y19_ g12 g8 (row18 ta tb tc) (by omega)).trans BK8.out)
  have n_BK10 := Aside0.mk ((setRow_other y19_ g12 g10 (row18 ta tb tc) (by omega)).trans BK10.out)
  have n_BK12 := Aside0.mk (setRow_heap _ _ _ (row18 ta tb tc) _ _ BKg12.out)
  clear BK10 BK8 BKg12 HB
  generalize y19_.setRow g12 (row18 ta tb tc) = y12 at n_HB n_BK8 n_BK10 n_BK12 ⊢
  have HB := n_HB
  clear n_HB
  have BK8 := n_BK8
  clear n_BK8
  have BK10 := n_BK10
  clear n_BK10
  have BK12 := n_BK12
  clear n_BK12
  refine hK.out _ _ ?_
  clear hK K
  refine pure_ (i := 20) (N := some 13) (v := ?_) (a' := ?_) #[true, true, true, true, true, true, true, true, true, true, true, true, true, true, true, true, true, true, true, true, true] rfl rfl (by kernel_rfl) (fun _ _ _ h => h) (Or.inl ⟨by rfl, ?_⟩) ?_ ?_
  rotate_left
  · intro w'
    go_simp
    with_reducible rfl
  rotate_left
  · simp only [Act.put, List.setIfInBounds_toArray, List.set_cons_zero, List.set_cons_succ, i64_w, i32_w]
    rfl
  refine done_ (by kernel_rfl) ?_
  clear hHeld
  by_cases hte : te = 0
  case neg =>
    have hb1 : (te == 0) = false := by simpa using hte
    have hb2 : (te != 0) = true := by simpa using hte
    clear hte
    go_wp2_with fail
    go_ret
    exact ⟨rfl, HB.out⟩
  subst hte
  go_wp2_with fail
  refine wp_loop_rounds 4 ?_
  rw [rounds_succ]
  go_wp2_with fail
  obtain ⟨⟨u0, i0_, n0_⟩, ⟨u1, i1_, n1_⟩, ⟨u2, i2_, n2_⟩⟩ := lombardlaw16_AllowParts.facts hLA.out hLB.out hkl hl rh.out sh.out th.out
  have Hu0 := Aside0.mk u0
  have Hu1 := Aside0.mk u1
  have Hu2 := Aside0.mk u2
  have Hi0 := Aside0.mk i0_
  have Hi1 := Aside0.mk i1_
  have Hi2 := Aside0.mk i2_
  have Hn0 := Aside0.mk n0_
  have Hn1 := Aside0.mk n1_
  have Hn2 := Aside0.mk n2_
  clear u0 u1 u2 i0_ i1_ i2_ n0_ n1_ n2_
  have c8 := blk_cell BK8.out
  have c10 := blk_cell BK10.out
  have c12 := blk_cell BK12.out
  have k8_c := (c8 5).trans (show _ = some (.int .i64 ra.c) from rfl)
  have k8_i := (c8 1).trans (show _ = some (.int .i64 ra.i) from rfl)
  have k8_n := (c8 3).trans (show _ = some (.int .i64 ra.n) from rfl)
  have k10_c := (c10 5).trans (show _ = some (.int .i64 sa.c) from rfl)
  have k10_i := (c10 1).trans (show _ = some (.int .i64 sa.i) from rfl)
  have k10_n := (c10 3).trans (show _ = some (.int .i64 sa.n) from rfl)
  have k12_c := (c12 5).trans (show _ = some (.int .i64 ta.c) from rfl)
  have k12_i := (c12 1).trans (show _ = some (.int .i64 ta.i) from rfl)
  have k12_n := (c12 3).trans (show _ = some (.int .i64 ta.n) from rfl)
  clear c8 c10 c12
  have ht0 : (ta.c != ra.c) = false := by rw [Hu0.out]; simp
  have ht1 : IntKind.i64.wrap (sa.i + ta.i) = ra.i := Hi0.out
  have ht2 : IntKind.i64.wrap (sa.n + ta.n) = ra.n := Hn0.out
  go_wp2_with fail
  go_quiet (fail)
  have n_HB := Aside0.mk (pw_below_drewN HB.out nq)
  have n_BK8 := Aside0.mk (blk_drewN BK8.out nq)
  have n_BK10 := Aside0.mk (blk_drewN BK10.out nq)
  have n_BK12 := Aside0.mk (blk_drewN BK12.out nq)
  clear HB BK8 BK10 BK12 ht0 ht1 ht2 k8_c k8_i k8_n k10_c k10_i k10_n k12_c k12_i k12_n
  generalize y12.drewN nq = y13 at n_HB n_BK8 n_BK10 n_BK12 ⊢
  have HB := n_HB
  have BK8 := n_BK8
  have BK10 := n_BK10
  have BK12 := n_BK12
  clear n_HB n_BK8 n_BK10 n_BK12 nq
  go_wp2_with fail
  rw [rounds_succ]
  go_wp2_with fail
  have c8 := blk_cell BK8.out
  have c10 := blk_cell BK10.out
  have c12 := blk_cell BK12.out
  have k8_c := (c8 11).trans (show _ = some (.int .i64 rb.c) from rfl)
  have k8_i := (c8 7).trans (show _ = some (.int .i64 rb.i) from rfl)
  have k8_n := (c8 9).trans (show _ = some (.int .i64 rb.n) from rfl)
  have k10_c := (c10 11).trans (show _ = some (.int .i64 sb.c) from rfl)
  have k10_i := (c10 7).trans (show _ = some (.int .i64 sb.i) from rfl)
  have k10_n := (c10 9).trans (show _ = some (.int .i64 sb.n) from rfl)
  have k12_c := (c12 11).trans (show _ = some (.int .i64 tb.c) from rfl)
  have k12_i := (c12 7).trans (show _ = some (.int .i64 tb.i) from rfl)
  have k12_n := (c12 9).trans (show _ = some (.int .i64 tb.n) from rfl)
  clear c8 c10 c12
  have ht0 : (tb.c != rb.c) = false := by rw [Hu1.out]; simp
  have ht1 : IntKind.i64.wrap (sb.i + tb.i) = rb.i := Hi1.out
  have ht2 : IntKind.i64.wrap (sb.n + tb.n) = rb.n := Hn1.out
  go_wp2_with fail
  go_quiet (fail)
  have n_HB := Aside0.mk (pw_below_drewN HB.out nq)
  have n_BK8 := Aside0.mk (blk_drewN BK8.out nq)
  have n_BK10 := Aside0.mk (blk_drewN BK10.out nq)
  have n_BK12 := Aside0.mk (blk_drewN BK12.out nq)
  clear HB BK8 BK10 BK12 ht0 ht1 ht2 k8_c k8_i k8_n k10_c k10_i k10_n k12_c k12_i k12_n
  generalize y13.drewN nq = y14 at n_HB n_BK8 n_BK10 n_BK12 ⊢
  have HB := n_HB
  have BK8 := n_BK8
  have BK10 := n_BK10
  have BK12 := n_BK12
  clear n_HB n_BK8 n_BK10 n_BK12 nq
  go_wp2_with fail
  rw [rounds_succ]
  go_wp2_with fail
  have c8 := blk_cell BK8.out
  have c10 := blk_cell BK10.out
  have c12 := blk_cell BK12.out
  have k8_c := (c8 17).trans (show _ = some (.int .i64 rc.c) from rfl)
  have k8_i := (c8 13).trans (show _ = some (.int .i64 rc.i) from rfl)
  have k8_n := (c8 15).trans (show _ = some (.int .i64 rc.n) from rfl)
  have k10_c := (c10 17).trans (show _ = some (.int .i64 sc.c) from rfl)
  have k10_i := (c10 13).trans (show _ = some (.int .i64 sc.i) from rfl)
  have k10_n := (c10 15).trans (show _ = some (.int .i64 sc.n) from rfl)
  have k12_c := (c12 17).trans (show _ = some (.int .i64 tc.c) from rfl)
  have k12_i := (c12 13).trans (show _ = some (.int .i64 tc.i) from rfl)
  have k12_n := (c12 15).trans (show _ = some (.int .i64 tc.n) from rfl)
  clear c8 c10 c12
  have ht0 : (tc.c != rc.c) = false := by rw [Hu2.out]; simp
  have ht1 : IntKind.i64.wrap (sc.i + tc.i) = rc.i := Hi2.out
  have ht2 : IntKind.i64.wrap (sc.n + tc.n) = rc.n := Hn2.out
  go_wp2_with fail
  go_quiet (fail)
  have n_HB := Aside0.mk (pw_below_drewN HB.out nq)
  have n_BK8 := Aside0.mk (blk_drewN BK8.out nq)
  have n_BK10 := Aside0.mk (blk_drewN BK10.out nq)
  have n_BK12 := Aside0.mk (blk_drewN BK12.out nq)
  clear HB BK8 BK10 BK12 ht0 ht1 ht2 k8_c k8_i k8_n k10_c k10_i k10_n k12_c k12_i k12_n
  generalize y14.drewN nq = y15 at n_HB n_BK8 n_BK10 n_BK12 ⊢
  have HB := n_HB
  have BK8 := n_BK8
  have BK10 := n_BK10
  have BK12 := n_BK12
  clear n_HB n_BK8 n_BK10 n_BK12 nq
  go_wp2_with fail
  rw [rounds_succ]
  go_wp2_with fail
  go_ret
  exact ⟨rfl, HB.out⟩
set_option maxHeartbeats 8000000 in
set_option maxRecDepth 100000 in
theorem lombardlaw16_AllowParts.big (A : Option Addr) (c : Nat) (l : List S40) (o0 o1 o2 a : Int) (w : World) (hl : 300 < l.length) :
    Calls Try.prog 5 #[.agg #[.int .i64 o0, .int .i64 o1, .int .i64 o2], .slice A l.length c, .int .u8 a] w fun e w' => e = .returned (.bool true) ∧ Below w.heap.size w w' := by
  have hb0 : decide (300 < (l.length : Int)) = true := decide_eq_true (by omega)
  clear hl
  go_enter Try.func5, Try.ntmps5
  go_wp2_with fail
  with_reducible refine (lombardlaw16_alive.calls true _ rfl).mono ?_
  rintro e w1 ⟨rfl, hb⟩
  have HB := Aside0.mk (below_step (w := w) (below_alloc (Below.refl _ _) _) hb)
  clear hb
  go_wp2_with fail
  go_ret
  exact ⟨rfl, HB.out⟩
theorem lombardlaw16_AllowParts.calls (a0_0 : Int) (a0_1 : Int) (a0_2 : Int) (A1 : Option Addr) (c1 : Nat) (l1 : List (S40)) (a2 : Int) (r : Bool) (w : World) (hr1 : Kd.C k40 w A1 l1.length l1) (hc1 : l1.length ≤ c1) (h : lombardlaw16_AllowParts.f a0_0 a0_1 a0_2 l1 a2 = some r) :
    Calls Try.prog 5 #[.agg #[.int .i64 a0_0, .int .i64 a0_1, .int .i64 a0_2], .slice A1 l1.length c1, .int .u8 a2] w fun e w' => e = .returned (.bool r) ∧ Below w.heap.size w w' := by
  unfold lombardlaw16_AllowParts.f at h
  by_cases hg : 0 ≤ a2 ∧ a2 ≤ 255
  · rw [if_pos hg] at h
    obtain ⟨a, rfl⟩ : ∃ a : Nat, a2 = (a : Int) := ⟨a2.toNat, by omega⟩
    obtain rfl := Option.some.inj h
    by_cases hl : 300 < l1.length
    · exact lombardlaw16_AllowParts.big A1 c1 l1 a0_0 a0_1 a0_2 a w hl
    · have hk := Nat.mod_lt a (show 0 < l1.length + 1 by omega)
      obtain ⟨k, hk2⟩ : ∃ k, a % (l1.length + 1) = k := ⟨_, rfl⟩
      exact lombardlaw16_AllowParts.walk A1 c1 l1 a0_0 a0_1 a0_2 a k w hr1 hc1 (by omega) (by omega) hk2 (by omega) _ _ ⟨rfl⟩ ⟨rfl⟩ ⟨rfl⟩ ⟨rfl⟩
  · rw [if_neg hg] at h
    cases h


end Go.Proofs.Ytgeeffnokedllaa.Print
