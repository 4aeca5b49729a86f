-- written by this session's program wip/hybrid.py over the kit's printer, and by hand. Not trusted: Lean checks it.
import Derived.Test.YtgeeffnokedllaaPrint0
import Derived.Test.YtgeeffnokedllaaPrint1
import Derived.Test.YtgeeffnokedllaaPrint6
import Derived.Test.YtgeeffnokedllaaPrint8
import Derived.Test.YtgeeffnokedllaaPrint9
namespace Go.Proofs.Ytgeeffnokedllaa.Print
open Go.RowKit Go.Proofs.YtgeeffnokedllaaW.PrintWords Go.Proofs.YtgeeffnokedllaaW.PrintLast Go.Proofs.YtgeeffnokedllaaW.PrintMore
attribute [local go_sem] max2_int min2_int max_two min_two max_three min_three max_four min_four   -- for this text's walks alone
set_option linter.unusedVariables false
set_option linter.unusedSimpArgs false

/-! ### lombardlaw16_AllowOrders: function 6 -/
def lombardlaw16_AllowOrders.v (o0 o1 o2 : Int) (l : List S40) (k : Nat) : Bool :=
  eqRows (allow_Roll.g o0 o1 o2 (l.map cv)).1 (allow_Roll.g o0 o1 o2 (l.map cv)).2.1 (allow_Roll.g o0 o1 o2 (l.map cv)).2.2.1 (allow_Roll.g o0 o1 o2 ((l.drop k).map cv ++ (l.take k).map cv)).1 (allow_Roll.g o0 o1 o2 ((l.drop k).map cv ++ (l.take k).map cv)).2.1 (allow_Roll.g o0 o1 o2 ((l.drop k).map cv ++ (l.take k).map cv)).2.2.1
    && ((allow_Roll.g o0 o1 o2 (l.map cv)).2.2.2 == (allow_Roll.g o0 o1 o2 ((l.drop k).map cv ++ (l.take k).map cv)).2.2.2)
def lombardlaw16_AllowOrders.f (o0 o1 o2 : Int) (l : List S40) (a2 : Int) : Option Bool := if 0 ≤ a2 ∧ a2 ≤ 255 then some (if 500 < l.length then true else lombardlaw16_AllowOrders.v o0 o1 o2 l (a2.toNat % (l.length + 1))) else none
set_option maxHeartbeats 8000000 in
set_option maxRecDepth 100000 in
theorem lombardlaw16_AllowOrders.walk (A : Option Addr) (c : Nat) (l : List S40) (o0 o1 o2 : Int) (a k : Nat) (w : World) (hr : Kd.C k40 w A l.length l) (hc : l.length ≤ c) (hl : l.length ≤ 500) (ha : a ≤ 255) (hk : a % (l.length + 1) = k) (hkl : k ≤ l.length) (la lb : List S40) (hLA : Aside0 (la = l.drop k)) (hLB : Aside0 (lb = l.take k))
    {ra rb rc sa sb sc : Row6} {re se : Int} (rh : Aside0 (allow_Roll.g o0 o1 o2 (l.map cv) = (ra, rb, rc, re))) (sh : Aside0 (allow_Roll.g o0 o1 o2 (la.map cv ++ lb.map cv) = (sa, sb, sc, se))) :
    Calls Try.prog 6 #[.agg #[.int .i64 o0, .int .i64 o1, .int .i64 o2], .slice A l.length c, .int .u8 (a : Int)] w fun e w' => e = .returned (.bool (eqRows ra rb rc sa sb sc && (re == se))) ∧ Below w.heap.size w w' := by
  have HR := Aside0.mk hr
  have HC := Aside0.mk hc
  have HK := Aside0.mk hk
  clear hr hc hk
  go_enter Try.func6, Try.ntmps6
  go_wp2_with fail
  with_reducible refine (lombardlaw16_alive.calls true _ rfl).mono ?_
  rintro e w1 ⟨rfl, hb⟩
  have HB := Aside0.mk (below_step (w := w) (below_alloc (Below.refl _ _) _) hb)
  have BK3 := Aside0.mk (blk_below (blk_new w (.cells #[.int .i64 o0, .int .i64 o1, .int .i64 o2] 22)) hb)
  clear hb
  go_wp2_with fail
  have hkk : (a : Int) % ((l.length : Int) + 1) = (k : Int) := by rw [← HK.out]; simp
  generalize (a : Int) % ((l.length : Int) + 1) = kk at hkk ⊢
  subst hkk
  have n_BK3 := Aside0.mk (blk_drew BK3.out)
  have n_HB := Aside0.mk (below_drew1 HB.out)
  clear BK3 HB
  have BK3 := n_BK3
  have HB := n_HB
  clear n_BK3 n_HB
  refine start_ (n := 10) (S := fun w' => w'.cell? ⟨w.heap.size, 0, none⟩ = some (.int .i64 o0) ∧ w'.cell? ⟨w.heap.size, 1, none⟩ = some (.int .i64 o1) ∧ w'.cell? ⟨w.heap.size, 2, none⟩ = some (.int .i64 o2)) (ds := [8]) #[false, false, false, false, false, false, false, false, false, false] (by kernel_rfl) rfl rfl ⟨(blk_cell BK3.out 0).trans rfl, (blk_cell BK3.out 1).trans rfl, (blk_cell BK3.out 2).trans rfl⟩ (fun hHeld => ?_)
  generalize w1.drew = w2 at HB BK3 hHeld ⊢
  refine pure_ (i := 1) (N := some 25) (v := ?_) (a' := ?_) #[false, true, false, false, false, false, false, false, false, false] rfl rfl (by kernel_rfl) (fun _ _ _ h => h) (Or.inl ⟨by rfl, ?_⟩) ?_ ?_
  rotate_left
  · intro w'
    go_simp
    with_reducible rfl
  rotate_left
  · simp only [Act.put, List.setIfInBounds_toArray, List.set_cons_zero, List.set_cons_succ, i64_w, i32_w]
    rfl
  refine take_ (i := 0) (N := some 24) (v := ?_) (a' := ?_) #[true, true, false, false, false, false, false, false, false, false] rfl rfl (by kernel_rfl) (fun _ _ _ h => h) (Or.inl ⟨by rfl, ?_⟩) hHeld ?_ ?_
  rotate_left
  · rintro w' ⟨s0, s1, s2⟩
    go_simp
    with_reducible rfl
  rotate_left
  · simp only [Act.put, List.setIfInBounds_toArray, List.set_cons_zero, List.set_cons_succ, i64_w, i32_w]
    rfl
  refine join_ (σ := Option Addr × Nat × Nat) 2 #[true, true, true, true, true, true, true, true, false, false] (fun s_ => [(26, .slice s_.1 ((l).map cv).length s_.2.1), (27, .tuple #[.agg (row18 ra rb rc), .int .i64 re]), (23, .tuple #[.agg (row18 ra rb rc), .int .i64 re]), (28, .agg (row18 ra rb rc)), (29, .int .i64 re), (8, .pointer (some ⟨s_.2.2, 0, none⟩))]) (fun s_ w' => (w'.cell? ⟨w.heap.size, 0, none⟩ = some (.int .i64 o0)) ∧ (w'.cell? ⟨w.heap.size, 1, none⟩ = some (.int .i64 o1)) ∧ (w'.cell? ⟨w.heap.size, 2, none⟩ = some (.int .i64 o2)) ∧ (w'.heap[w.heap.size]? = some (.cells #[.int .i64 o0, .int .i64 o1, .int .i64 o2] 22 (0, 0))) ∧ (w'.heap[s_.2.2]? = some (.cells (row18 Row6.z Row6.z Row6.z) 27 (0, 0))) ∧ (w.heap.size + 1 ≤ s_.2.2) ∧ (Below w.heap.size w w')) ?_ ?_
  rotate_left
  · intro hCont
    refine two_ (i := 2) (j := 7) (Ni := some 26) (Nj := some 8) #[true, true, true, false, false, false, false, false, false, false] #[true, true, false, false, false, false, false, true, false, false] rfl rfl rfl rfl (by kernel_rfl) (by decide) (by decide) (fun K hK => ?_) (fun K hK => ?_)
    · skip
      refine goes_ Try.func11 (by kernel_rfl) rfl #[.slice (A) (l).length (c)] (by rfl) rfl rfl (by (try simp only [List.map_toArray, List.map_cons, List.map_nil]); first | done | rfl) ?_
      with_reducible refine (to_pl (A) (c) (l) _ (Kd.C_below HR.out HB.out) HC.out (by omega)).mono ?_
      rintro e y2_ ⟨v_, rfl, ho, hb⟩
      refine ⟨_, rfl, ?_⟩
      have m_R26 := Aside0.mk (Kd.R_lower ho (below_size HB.out))
      have n_HB := Aside0.mk (below_step HB.out hb)
      have n_BK3 := Aside0.mk (blk_below BK3.out hb)
      clear HB
      have HB := n_HB
      clear n_HB
      clear BK3
      have BK3 := n_BK3
      clear n_BK3
      clear hb
      have R26 := m_R26
      clear m_R26
      clear ho
      obtain ⟨A26, c26, eo⟩ := Kd.R_slice R26.out
      subst eo
      refine hK.out _ _ ⟨(blk_cell BK3.out 0).trans rfl, (blk_cell BK3.out 1).trans rfl, (blk_cell BK3.out 2).trans rfl⟩ (fun hHeld => ?_)
      clear hK K
      refine norm_ (a' := ?_) ?_ ?_
      rotate_left
      · show Act.put _ (some 26) _ = _
        simp only [Act.put, List.setIfInBounds_toArray, List.set_cons_zero, List.set_cons_succ, i64_w, i32_w]
        rfl
      refine two_ (i := 3) (j := 7) (Ni := some 27) (Nj := some 8) #[true, true, true, true, false, false, false, false, false, false] #[true, true, true, false, false, false, false, true, false, false] rfl rfl rfl rfl (by kernel_rfl) (by decide) (by decide) (fun K hK => ?_) (fun K hK => ?_)
      · skip
        refine goes_ Try.func10 (by kernel_rfl) rfl #[.agg #[.int .i64 o0, .int .i64 o1, .int .i64 o2], .slice A26 (l.map cv).length c26] (by rfl) rfl rfl (by (try simp only [List.map_toArray, List.map_cons, List.map_nil]); first | done | rfl) ?_
        with_reducible refine (roll_eq rh.out _ _ _ (Kd.R_reads' R26.out).2.2 (Kd.R_reads' R26.out).2.1).mono ?_
        rintro e y3_ ⟨rfl, hb⟩
        refine ⟨_, rfl, ?_⟩
        have n_HB := Aside0.mk (below_step HB.out hb)
        have n_BK3 := Aside0.mk (blk_below BK3.out hb)
        clear HB
        have HB := n_HB
        clear n_HB
        clear BK3
        have BK3 := n_BK3
        clear n_BK3
        clear hb
        clear R26
        refine hK.out _ _ ⟨(blk_cell BK3.out 0).trans rfl, (blk_cell BK3.out 1).trans rfl, (blk_cell BK3.out 2).trans rfl⟩ (fun hHeld => ?_)
        clear hK K
        refine norm_ (a' := ?_) ?_ ?_
        rotate_left
        · show Act.put _ (some 27) _ = _
          simp only [Act.put, List.setIfInBounds_toArray, List.set_cons_zero, List.set_cons_succ, i64_w, i32_w]
          rfl
        refine pure_ (i := 4) (N := some 23) (v := ?_) (a' := ?_) #[true, true, true, true, true, false, false, false, false, false] rfl rfl (by kernel_rfl) (fun _ _ _ h => h) (Or.inl ⟨by rfl, ?_⟩) ?_ ?_
        rotate_left
        · intro w'
          go_simp
          with_reducible rfl
        rotate_left
        · simp only [Act.put, List.setIfInBounds_toArray, List.set_cons_zero, List.set_cons_succ, i64_w, i32_w]
          rfl
        refine pure_ (i := 5) (N := some 28) (v := ?_) (a' := ?_) #[true, true, true, true, true, true, false, false, false, false] rfl rfl (by kernel_rfl) (fun _ _ _ h => h) (Or.inl ⟨by rfl, ?_⟩) ?_ ?_
        rotate_left
        · intro w'
          go_simp
          with_reducible rfl
        rotate_left
        · simp only [Act.put, List.setIfInBounds_toArray, List.set_cons_zero, List.set_cons_succ, i64_w, i32_w]
          rfl
        refine pure_ (i := 6) (N := some 29) (v := ?_) (a' := ?_) #[true, true, true, true, true, true, true, false, false, false] rfl rfl (by kernel_rfl) (fun _ _ _ h => h) (Or.inl ⟨by rfl, ?_⟩) ?_ ?_
        rotate_left
        · intro w'
          go_simp
          with_reducible rfl
        rotate_left
        · simp only [Act.put, List.setIfInBounds_toArray, List.set_cons_zero, List.set_cons_succ, i64_w, i32_w]
          rfl
        refine one_ (i := 7) (N := some 8) #[true, true, true, true, true, true, true, true, false, false] rfl rfl (by kernel_rfl) (by decide) (fun K hK => ?_)
        refine box_step ?hg (N := 8) ?hd (cs := row18 Row6.z Row6.z Row6.z) (t := 27) ?hr ?_; (case hd => rfl); (case hg => rfl); (case hr => first | (go_simp; done) | (go_simp; rfl))
        intro g8 hg y4_ hbox hb
        have GE8 : w.heap.size + 1 ≤ g8 := by have := blk_lt BK3.out; omega
        have m_ := Aside0.mk hbox
        have n_HB := Aside0.mk (below_step HB.out hb)
        have n_BK3 := Aside0.mk (blk_below BK3.out hb)
        clear HB
        have HB := n_HB
        clear n_HB
        clear BK3
        have BK3 := n_BK3
        clear n_BK3
        clear hb hbox hg
        have BKg8 := m_
        clear m_
        refine hK.out _ _ ⟨(blk_cell BK3.out 0).trans rfl, (blk_cell BK3.out 1).trans rfl, (blk_cell BK3.out 2).trans rfl⟩ (fun hHeld => ?_)
        clear hK K
        refine norm_ (a' := ?_) ?_ ?_
        rotate_left
        · show Act.put _ (some 8) _ = _
          simp only [Act.put, List.setIfInBounds_toArray, List.set_cons_zero, List.set_cons_succ, i64_w, i32_w]
          rfl
        exact norm_ (by simp only [putAll, Act.put, List.setIfInBounds_toArray, List.set_cons_zero, List.set_cons_succ]) (hCont (A26, c26, g8) _ ⟨(blk_cell BK3.out 0).trans rfl, (blk_cell BK3.out 1).trans rfl, (blk_cell BK3.out 2).trans rfl, BK3.out, BKg8.out, GE8, HB.out⟩)
      · skip
        refine box_step ?hg (N := 8) ?hd (cs := row18 Row6.z Row6.z Row6.z) (t := 27) ?hr ?_; (case hd => rfl); (case hg => rfl); (case hr => first | (go_simp; done) | (go_simp; rfl))
        intro g8 hg y5_ hbox hb
        have GE8 : w.heap.size + 1 ≤ g8 := by have := blk_lt BK3.out; omega
        have m_ := Aside0.mk hbox
        have n_HB := Aside0.mk (below_step HB.out hb)
        have n_BK3 := Aside0.mk (blk_below BK3.out hb)
        have n_R26 := Aside0.mk (Kd.R_below R26.out hb)
        clear HB
        have HB := n_HB
        clear n_HB
        clear BK3
        have BK3 := n_BK3
        clear n_BK3
        clear R26
        have R26 := n_R26
        clear n_R26
        clear hb hbox hg
        have BKg8 := m_
        clear m_
        refine hK.out _ _ ⟨(blk_cell BK3.out 0).trans rfl, (blk_cell BK3.out 1).trans rfl, (blk_cell BK3.out 2).trans rfl⟩ (fun hHeld => ?_)
        clear hK K
        refine norm_ (a' := ?_) ?_ ?_
        rotate_left
        · show Act.put _ (some 8) _ = _
          simp only [Act.put, List.setIfInBounds_toArray, List.set_cons_zero, List.set_cons_succ, i64_w, i32_w]
          rfl
        refine one_ (i := 3) (N := some 27) #[true, true, true, true, false, false, false, true, false, false] rfl rfl (by kernel_rfl) (by decide) (fun K hK => ?_)
        refine goes_ Try.func10 (by kernel_rfl) rfl #[.agg #[.int .i64 o0, .int .i64 o1, .int .i64 o2], .slice A26 (l.map cv).length c26] (by rfl) rfl rfl (by (try simp only [List.map_toArray, List.map_cons, List.map_nil]); first | done | rfl) ?_
        with_reducible refine (roll_eq rh.out _ _ _ (Kd.R_reads' R26.out).2.2 (Kd.R_reads' R26.out).2.1).mono ?_
        rintro e y6_ ⟨rfl, hb⟩
        refine ⟨_, rfl, ?_⟩
        have n_HB := Aside0.mk (below_step HB.out hb)
        have n_BK3 := Aside0.mk (blk_below BK3.out hb)
        have n_BKg8 := Aside0.mk (blk_below BKg8.out hb)
        clear HB
        have HB := n_HB
        clear n_HB
        clear BK3
        have BK3 := n_BK3
        clear n_BK3
        clear BKg8
        have BKg8 := n_BKg8
        clear n_BKg8
        clear hb
        clear R26
        refine hK.out _ _ ⟨(blk_cell BK3.out 0).trans rfl, (blk_cell BK3.out 1).trans rfl, (blk_cell BK3.out 2).trans rfl⟩ (fun hHeld => ?_)
        clear hK K
        refine norm_ (a' := ?_) ?_ ?_
        rotate_left
        · show Act.put _ (some 27) _ = _
          simp only [Act.put, List.setIfInBounds_toArray, List.set_cons_zero, List.set_cons_succ, i64_w, i32_w]
          rfl
        refine pure_ (i := 4) (N := some 23) (v := ?_) (a' := ?_) #[true, true, true, true, true, false, false, true, false, false] rfl rfl (by kernel_rfl) (fun _ _ _ h => h) (Or.inl ⟨by rfl, ?_⟩) ?_ ?_
        rotate_left
        · intro w'
          go_simp
          with_reducible rfl
        rotate_left
        · simp only [Act.put, List.setIfInBounds_toArray, List.set_cons_zero, List.set_cons_succ, i64_w, i32_w]
          rfl
        refine pure_ (i := 5) (N := some 28) (v := ?_) (a' := ?_) #[true, true, true, true, true, true, false, true, false, false] rfl rfl (by kernel_rfl) (fun _ _ _ h => h) (Or.inl ⟨by rfl, ?_⟩) ?_ ?_
        rotate_left
        · intro w'
          go_simp
          with_reducible rfl
        rotate_left
        · simp only [Act.put, List.setIfInBounds_toArray, List.set_cons_zero, List.set_cons_succ, i64_w, i32_w]
          rfl
        refine pure_ (i := 6) (N := some 29) (v := ?_) (a' := ?_) #[true, true, true, true, true, true, true, true, false, false] rfl rfl (by kernel_rfl) (fun _ _ _ h => h) (Or.inl ⟨by rfl, ?_⟩) ?_ ?_
        rotate_left
        · intro w'
          go_simp
          with_reducible rfl
        rotate_left
        · simp only [Act.put, List.setIfInBounds_toArray, List.set_cons_zero, List.set_cons_succ, i64_w, i32_w]
          rfl
        exact norm_ (by simp only [putAll, Act.put, List.setIfInBounds_toArray, List.set_cons_zero, List.set_cons_succ]) (hCont (A26, c26, g8) _ ⟨(blk_cell BK3.out 0).trans rfl, (blk_cell BK3.out 1).trans rfl, (blk_cell BK3.out 2).trans rfl, BK3.out, BKg8.out, GE8, HB.out⟩)
    · skip
      refine box_step ?hg (N := 8) ?hd (cs := row18 Row6.z Row6.z Row6.z) (t := 27) ?hr ?_; (case hd => rfl); (case hg => rfl); (case hr => first | (go_simp; done) | (go_simp; rfl))
      intro g8 hg y7_ hbox hb
      have GE8 : w.heap.size + 1 ≤ g8 := by have := blk_lt BK3.out; omega
      have m_ := Aside0.mk hbox
      have n_HB := Aside0.mk (below_step HB.out hb)
      have n_BK3 := Aside0.mk (blk_below BK3.out hb)
      clear HB
      have HB := n_HB
      clear n_HB
      clear BK3
      have BK3 := n_BK3
      clear n_BK3
      clear hb hbox hg
      have BKg8 := m_
      clear m_
      refine hK.out _ _ ⟨(blk_cell BK3.out 0).trans rfl, (blk_cell BK3.out 1).trans rfl, (blk_cell BK3.out 2).trans rfl⟩ (fun hHeld => ?_)
      clear hK K
      refine norm_ (a' := ?_) ?_ ?_
      rotate_left
      · show Act.put _ (some 8) _ = _
        simp only [Act.put, List.setIfInBounds_toArray, List.set_cons_zero, List.set_cons_succ, i64_w, i32_w]
        rfl
      refine one_ (i := 2) (N := some 26) #[true, true, true, false, false, false, false, true, false, false] rfl rfl (by kernel_rfl) (by decide) (fun K hK => ?_)
      refine goes_ Try.func11 (by kernel_rfl) rfl #[.slice (A) (l).length (c)] (by rfl) rfl rfl (by (try simp only [List.map_toArray, List.map_cons, List.map_nil]); first | done | rfl) ?_
      with_reducible refine (to_pl (A) (c) (l) _ (Kd.C_below HR.out HB.out) HC.out (by omega)).mono ?_
      rintro e y8_ ⟨v_, rfl, ho, hb⟩
      refine ⟨_, rfl, ?_⟩
      have m_R26 := Aside0.mk (Kd.R_lower ho (below_size HB.out))
      have n_HB := Aside0.mk (below_step HB.out hb)
      have n_BK3 := Aside0.mk (blk_below BK3.out hb)
      have n_BKg8 := Aside0.mk (blk_below BKg8.out hb)
      clear HB
      have HB := n_HB
      clear n_HB
      clear BK3
      have BK3 := n_BK3
      clear n_BK3
      clear BKg8
      have BKg8 := n_BKg8
      clear n_BKg8
      clear hb
      have R26 := m_R26
      clear m_R26
      clear ho
      obtain ⟨A26, c26, eo⟩ := Kd.R_slice R26.out
      subst eo
      refine hK.out _ _ ⟨(blk_cell BK3.out 0).trans rfl, (blk_cell BK3.out 1).trans rfl, (blk_cell BK3.out 2).trans rfl⟩ (fun hHeld => ?_)
      clear hK K
      refine norm_ (a' := ?_) ?_ ?_
      rotate_left
      · show Act.put _ (some 26) _ = _
        simp only [Act.put, List.setIfInBounds_toArray, List.set_cons_zero, List.set_cons_succ, i64_w, i32_w]
        rfl
      refine one_ (i := 3) (N := some 27) #[true, true, true, true, false, false, false, true, false, false] rfl rfl (by kernel_rfl) (by decide) (fun K hK => ?_)
      refine goes_ Try.func10 (by kernel_rfl) rfl #[.agg #[.int .i64 o0, .int .i64 o1, .int .i64 o2], .slice A26 (l.map cv).length c26] (by rfl) rfl rfl (by (try simp only [List.map_toArray, List.map_cons, List.map_nil]); first | done | rfl) ?_
      with_reducible refine (roll_eq rh.out _ _ _ (Kd.R_reads' R26.out).2.2 (Kd.R_reads' R26.out).2.1).mono ?_
      rintro e y9_ ⟨rfl, hb⟩
      refine ⟨_, rfl, ?_⟩
      have n_HB := Aside0.mk (below_step HB.out hb)
      have n_BK3 := Aside0.mk (blk_below BK3.out hb)
      have n_BKg8 := Aside0.mk (blk_below BKg8.out hb)
      clear HB
      have HB := n_HB
      clear n_HB
      clear BK3
      have BK3 := n_BK3
      clear n_BK3
      clear BKg8
      have BKg8 := n_BKg8
      clear n_BKg8
      clear hb
      clear R26
      refine hK.out _ _ ⟨(blk_cell BK3.out 0).trans rfl, (blk_cell BK3.out 1).trans rfl, (blk_cell BK3.out 2).trans rfl⟩ (fun hHeld => ?_)
      clear hK K
      refine norm_ (a' := ?_) ?_ ?_
      rotate_left
      · show Act.put _ (some 27) _ = _
        simp only [Act.put, List.setIfInBounds_toArray, List.set_cons_zero, List.set_cons_succ, i64_w, i32_w]
        rfl
      refine pure_ (i := 4) (N := some 23) (v := ?_) (a' := ?_) #[true, true, true, true, true, false, false, true, false, false] rfl rfl (by kernel_rfl) (fun _ _ _ h => h) (Or.inl ⟨by rfl, ?_⟩) ?_ ?_
      rotate_left
      · intro w'
        go_simp
        with_reducible rfl
      rotate_left
      · simp only [Act.put, List.setIfInBounds_toArray, List.set_cons_zero, List.set_cons_succ, i64_w, i32_w]
        rfl
      refine pure_ (i := 5) (N := some 28) (v := ?_) (a' := ?_) #[true, true, true, true, true, true, false, true, false, false] rfl rfl (by kernel_rfl) (fun _ _ _ h => h) (Or.inl ⟨by rfl, ?_⟩) ?_ ?_
      rotate_left
      · intro w'
        go_simp
        with_reducible rfl
      rotate_left
      · simp only [Act.put, List.setIfInBounds_toArray, List.set_cons_zero, List.set_cons_succ, i64_w, i32_w]
        rfl
      refine pure_ (i := 6) (N := some 29) (v := ?_) (a' := ?_) #[true, true, true, true, true, true, true, true, false, false] rfl rfl (by kernel_rfl) (fun _ _ _ h => h) (Or.inl ⟨by rfl, ?_⟩) ?_ ?_
      rotate_left
      · intro w'
        go_simp
        with_reducible rfl
      rotate_left
      · simp only [Act.put, List.setIfInBounds_toArray, List.set_cons_zero, List.set_cons_succ, i64_w, i32_w]
        rfl
      exact norm_ (by simp only [putAll, Act.put, List.setIfInBounds_toArray, List.set_cons_zero, List.set_cons_succ]) (hCont (A26, c26, g8) _ ⟨(blk_cell BK3.out 0).trans rfl, (blk_cell BK3.out 1).trans rfl, (blk_cell BK3.out 2).trans rfl, BK3.out, BKg8.out, GE8, HB.out⟩)
  clear hHeld HB BK3
  rintro ⟨A26, c26, g8⟩ y1_ ⟨hS0_, hS1_, hS2_, h_BK3, h_BKg8, h_GE8, h_HB⟩
  have BK3 : Aside0 (y1_.heap[w.heap.size]? = some (.cells #[.int .i64 o0, .int .i64 o1, .int .i64 o2] 22 (0, 0))) := Aside0.mk (h_BK3)
  clear h_BK3
  have BKg8 : Aside0 (y1_.heap[g8]? = some (.cells (row18 Row6.z Row6.z Row6.z) 27 (0, 0))) := Aside0.mk (h_BKg8)
  clear h_BKg8
  have GE8 : w.heap.size + 1 ≤ g8 := h_GE8
  clear h_GE8
  have HB : Aside0 (Below w.heap.size w y1_) := Aside0.mk (h_HB)
  clear h_HB
  have hHeld : y1_.cell? ⟨w.heap.size, 0, none⟩ = some (.int .i64 o0) ∧ y1_.cell? ⟨w.heap.size, 1, none⟩ = some (.int .i64 o1) ∧ y1_.cell? ⟨w.heap.size, 2, none⟩ = some (.int .i64 o2) := ⟨hS0_, hS1_, hS2_⟩
  clear hS0_ hS1_ hS2_
  refine norm_ (a' := ?_) ?_ ?_
  rotate_left
  · simp only [putAll, Act.put, List.setIfInBounds_toArray, List.set_cons_zero, List.set_cons_succ]
    rfl
  refine last_ (i := 8) (N := none) #[true, true, true, true, true, true, true, true, true, false] rfl rfl (by kernel_rfl) (by decide) (fun K hK => ?_)
  refine skip_ (w1 := y1_.setRow g8 (row18 ra rb rc)) (by rfl) rfl (store_run 27 (.tmp 8) (.tmp 28) rfl g8 _ rfl rfl 27 _ BKg8.out (by kernel_rfl) rfl (row18_all _ _ _)) ?_
  have n_HB := Aside0.mk (row_below (g := g8) HB.out (by omega) (row18 ra rb rc))
  have n_BK3 := Aside0.mk ((setRow_other y1_ g8 w.heap.size (row18 ra rb rc) (by omega)).trans BK3.out)
  have n_BK8 := Aside0.mk (setRow_heap _ _ _ (row18 ra rb rc) _ _ BKg8.out)
  clear HB BK3 BKg8
  generalize y1_.setRow g8 (row18 ra rb rc) = y8 at n_HB n_BK3 n_BK8 ⊢
  have HB := n_HB
  have BK3 := n_BK3
  have BK8 := n_BK8
  clear n_HB n_BK3 n_BK8
  refine hK.out _ _ ?_
  clear hK K
  refine pure_ (i := 9) (N := some 9) (v := ?_) (a' := ?_) #[true, true, true, true, true, true, true, true, true, true] rfl rfl (by kernel_rfl) (fun _ _ _ h => h) (Or.inl ⟨by rfl, ?_⟩) ?_ ?_
  rotate_left
  · intro w'
    go_simp
    with_reducible rfl
  rotate_left
  · simp only [Act.put, List.setIfInBounds_toArray, List.set_cons_zero, List.set_cons_succ, i64_w, i32_w]
    rfl
  refine done_ (by kernel_rfl) ?_
  clear hHeld
  go_wp2_with fail
  obtain ⟨i0, hi0, _, hsz0, _⟩ := info_parts info40
  have hq0 : (0 : Int) ≤ (k : Int) := by omega
  have hq1 : (k : Int) ≤ (l.length : Int) := by omega
  have hcA := cut_from (P := Try.prog) 23 40 .i64 Try.underlying23 hi0 5 hsz0 A l.length c (k : Int) hq0 hq1
  have hcB := cut_to (P := Try.prog) 23 40 .i64 Try.underlying23 hi0 A l.length c (k : Int) hq0 hq1 HC.out
  have hrA := Kd.C_drop (m := k) (c := c) HR.out hkl HC.out
  have hrB := Kd.C_take (m := k) HR.out hkl
  rw [Int.toNat_natCast] at hcA hcB
  obtain ⟨A34, hA34⟩ : ∃ a_, a_ = (if c = k then A else A.map (·.add (k * 5))) := ⟨_, rfl⟩
  obtain ⟨c34, hc34⟩ : ∃ c_, c_ = c - k := ⟨_, rfl⟩
  have hdl : la.length = l.length - k := by rw [hLA.out]; exact List.length_drop
  have htl : lb.length = k := by rw [hLB.out, List.length_take]; omega
  rw [← hLA.out] at hrA
  rw [← hLB.out] at hrB
  replace hrA : Kd.C k40 w A34 la.length la := by rw [hA34]; exact hrA
  rw [← hdl, ← hA34, ← hc34] at hcA
  replace hcB : ∀ W : World, (Instr.slice 23 (.slice A l.length c) none (some (.int .i64 (k : Int))) none).run Try.prog W = .ok (.slice A lb.length c) W := fun W => by rw [hcB W, htl]
  have hcl : la.length ≤ c34 := by have := HC.out; omega
  have HRA := Aside0.mk hrA
  have HRB := Aside0.mk hrB
  have HCL := Aside0.mk hcl
  have HCT := Aside0.mk (show lb.length ≤ c by have := HC.out; omega)
  have HDL := Aside0.mk hdl
  have HTL := Aside0.mk htl
  clear hrA hrB hcl hA34 hc34 hi0 hsz0 hq0 hq1 hdl
  clear htl
  have n_BK3 := Aside0.mk (blk_drew BK3.out)
  have n_BK8 := Aside0.mk (blk_drew BK8.out)
  have n_HB := Aside0.mk (below_drew1 HB.out)
  clear BK3 BK8 HB
  have BK3 := n_BK3
  have BK8 := n_BK8
  have HB := n_HB
  clear n_BK3 n_BK8 n_HB
  refine start_ (n := 17) (S := fun w' => w'.cell? ⟨w.heap.size, 0, none⟩ = some (.int .i64 o0) ∧ w'.cell? ⟨w.heap.size, 1, none⟩ = some (.int .i64 o1) ∧ w'.cell? ⟨w.heap.size, 2, none⟩ = some (.int .i64 o2)) (ds := [15]) #[false, false, false, false, false, false, false, false, false, false, false, false, false, false, false, false, false] (by kernel_rfl) rfl rfl ⟨(blk_cell BK3.out 0).trans rfl, (blk_cell BK3.out 1).trans rfl, (blk_cell BK3.out 2).trans rfl⟩ (fun hHeld => ?_)
  generalize y8.drew = y9 at HB BK3 BK8 hHeld ⊢
  refine pure_ (i := 1) (N := some 32) (v := ?_) (a' := ?_) #[false, true, false, false, false, false, false, false, false, false, false, false, false, false, false, false, false] rfl rfl (by kernel_rfl) (fun _ _ _ h => h) (Or.inl ⟨by rfl, ?_⟩) ?_ ?_
  rotate_left
  · intro w'
    go_simp
    with_reducible rfl
  rotate_left
  · simp only [Act.put, List.setIfInBounds_toArray, List.set_cons_zero, List.set_cons_succ, i64_w, i32_w]
    rfl
  refine pure_ (i := 2) (N := some 33) (v := ?_) (a' := ?_) #[false, true, true, false, false, false, false, false, false, false, false, false, false, false, false, false, false] rfl rfl (by kernel_rfl) (fun _ _ _ h => h) (Or.inl ⟨by rfl, ?_⟩) ?_ ?_
  rotate_left
  · intro w'
    go_simp
    with_reducible rfl
  rotate_left
  · simp only [Act.put, List.setIfInBounds_toArray, List.set_cons_zero, List.set_cons_succ, i64_w, i32_w]
    rfl
  refine pure_ (i := 3) (N := some 34) (v := ?_) (a' := ?_) #[false, true, true, true, false, false, false, false, false, false, false, false, false, false, false, false, false] rfl rfl (by kernel_rfl) (fun _ _ _ h => h) (Or.inl ⟨by rfl, ?_⟩) ?_ ?_
  rotate_left
  · intro w'
    go_simp
    with_reducible rfl
  rotate_left
  · simp only [Act.put, List.setIfInBounds_toArray, List.set_cons_zero, List.set_cons_succ, i64_w, i32_w]
    rfl
  refine pure_ (i := 5) (N := some 36) (v := ?_) (a' := ?_) #[false, true, true, true, false, true, false, false, false, false, false, false, false, false, false, false, false] rfl rfl (by kernel_rfl) (fun _ _ _ h => h) (Or.inl ⟨by rfl, ?_⟩) ?_ ?_
  rotate_left
  · intro w'
    go_simp
    with_reducible rfl
  rotate_left
  · simp only [Act.put, List.setIfInBounds_toArray, List.set_cons_zero, List.set_cons_succ, i64_w, i32_w]
    rfl
  refine pure_ (i := 6) (N := some 37) (v := ?_) (a' := ?_) #[false, true, true, true, false, true, true, false, false, false, false, false, false, false, false, false, false] rfl rfl (by kernel_rfl) (fun _ _ _ h => h) (Or.inl ⟨by rfl, ?_⟩) ?_ ?_
  rotate_left
  · intro w'
    go_simp
    with_reducible rfl
  rotate_left
  · simp only [Act.put, List.setIfInBounds_toArray, List.set_cons_zero, List.set_cons_succ, i64_w, i32_w]
    rfl
  refine pure_ (i := 7) (N := some 38) (v := ?_) (a' := ?_) #[false, true, true, true, false, true, true, true, false, false, false, false, false, false, false, false, false] rfl rfl (by kernel_rfl) (fun _ _ _ h => h) (Or.inl ⟨by rfl, ?_⟩) ?_ ?_
  rotate_left
  · intro w'
    go_simp
    with_reducible rfl
  rotate_left
  · simp only [Act.put, List.setIfInBounds_toArray, List.set_cons_zero, List.set_cons_succ, i64_w, i32_w]
    rfl
  refine take_ (i := 0) (N := some 31) (v := ?_) (a' := ?_) #[true, true, true, true, false, true, true, true, false, false, false, false, false, false, false, false, false] rfl rfl (by kernel_rfl) (fun _ _ _ h => h) (Or.inl ⟨by rfl, ?_⟩) hHeld ?_ ?_
  rotate_left
  · rintro w' ⟨s0, s1, s2⟩
    go_simp
    with_reducible rfl
  rotate_left
  · simp only [Act.put, List.setIfInBounds_toArray, List.set_cons_zero, List.set_cons_succ, i64_w, i32_w]
    rfl
  refine join_ (σ := Option Addr × Nat × Option Addr × Nat × Option Addr × Nat × Nat) 2 #[true, true, true, true, true, true, true, true, true, true, true, true, true, true, true, false, false] (fun s_ => [(35, .slice s_.1 ((la).map cv).length s_.2.1), (39, .slice s_.2.2.1 ((lb).map cv).length s_.2.2.2.1), (40, .slice s_.2.2.2.2.1 (la.map cv ++ lb.map cv).length s_.2.2.2.2.2.1), (41, .tuple #[.agg (row18 sa sb sc), .int .i64 se]), (30, .tuple #[.agg (row18 sa sb sc), .int .i64 se]), (42, .agg (row18 sa sb sc)), (43, .int .i64 se), (10, .pointer (some ⟨s_.2.2.2.2.2.2, 0, none⟩))]) (fun s_ w' => (w'.cell? ⟨w.heap.size, 0, none⟩ = some (.int .i64 o0)) ∧ (w'.cell? ⟨w.heap.size, 1, none⟩ = some (.int .i64 o1)) ∧ (w'.cell? ⟨w.heap.size, 2, none⟩ = some (.int .i64 o2)) ∧ (w'.heap[w.heap.size]? = some (.cells #[.int .i64 o0, .int .i64 o1, .int .i64 o2] 22 (0, 0))) ∧ (w'.heap[g8]? = some (.cells (row18 ra rb rc) 27 (0, 0))) ∧ (w'.heap[s_.2.2.2.2.2.2]? = some (.cells (row18 Row6.z Row6.z Row6.z) 27 (0, 0))) ∧ (g8 + 1 ≤ s_.2.2.2.2.2.2) ∧ (Below w.heap.size w w')) ?_ ?_
  rotate_left
  · intro hCont
    refine two_ (i := 4) (j := 14) (Ni := some 35) (Nj := some 10) #[true, true, true, true, true, true, true, true, false, false, false, false, false, false, false, false, false] #[true, true, true, true, false, true, true, true, false, false, false, false, false, false, true, false, false] rfl rfl rfl rfl (by kernel_rfl) (by decide) (by decide) (fun K hK => ?_) (fun K hK => ?_)
    · skip
      refine goes_ Try.func11 (by kernel_rfl) rfl #[.slice (A34) (la).length (c34)] (by rfl) rfl rfl (by (try simp only [List.map_toArray, List.map_cons, List.map_nil]); first | done | rfl) ?_
      with_reducible refine (to_pl (A34) (c34) (la) _ (Kd.C_below HRA.out HB.out) HCL.out (by have := HDL.out; omega)).mono ?_
      rintro e y11_ ⟨v_, rfl, ho, hb⟩
      refine ⟨_, rfl, ?_⟩
      have m_R35 := Aside0.mk (Kd.R_lower ho (below_size HB.out))
      have n_HB := Aside0.mk (below_step HB.out hb)
      have n_BK3 := Aside0.mk (blk_below BK3.out hb)
      have n_BK8 := Aside0.mk (blk_below BK8.out hb)
      clear HB
      have HB := n_HB
      clear n_HB
      clear BK3
      have BK3 := n_BK3
      clear n_BK3
      clear BK8
      have BK8 := n_BK8
      clear n_BK8
      clear hb
      have R35 := m_R35
      clear m_R35
      clear ho
      obtain ⟨A35, c35, eo⟩ := Kd.R_slice R35.out
      subst eo
      refine hK.out _ _ ⟨(blk_cell BK3.out 0).trans rfl, (blk_cell BK3.out 1).trans rfl, (blk_cell BK3.out 2).trans rfl⟩ (fun hHeld => ?_)
      clear hK K
      refine norm_ (a' := ?_) ?_ ?_
      rotate_left
      · show Act.put _ (some 35) _ = _
        simp only [Act.put, List.setIfInBounds_toArray, List.set_cons_zero, List.set_cons_succ, i64_w, i32_w]
        rfl
      refine two_ (i := 8) (j := 14) (Ni := some 39) (Nj := some 10) #[true, true, true, true, true, true, true, true, true, false, false, false, false, false, false, false, false] #[true, true, true, true, true, true, true, true, false, false, false, false, false, false, true, false, false] rfl rfl rfl rfl (by kernel_rfl) (by decide) (by decide) (fun K hK => ?_) (fun K hK => ?_)
      · skip
        refine goes_ Try.func11 (by kernel_rfl) rfl #[.slice (A) (lb).length (c)] (by rfl) rfl rfl (by (try simp only [List.map_toArray, List.map_cons, List.map_nil]); first | done | rfl) ?_
        with_reducible refine (to_pl (A) (c) (lb) _ (Kd.C_below HRB.out HB.out) HCT.out (by have := HTL.out; omega)).mono ?_
        rintro e y12_ ⟨v_, rfl, ho, hb⟩
        refine ⟨_, rfl, ?_⟩
        have m_R39 := Aside0.mk (Kd.R_lower ho (below_size HB.out))
        have n_HB := Aside0.mk (below_step HB.out hb)
        have n_BK3 := Aside0.mk (blk_below BK3.out hb)
        have n_BK8 := Aside0.mk (blk_below BK8.out hb)
        have n_R35 := Aside0.mk (Kd.R_below R35.out hb)
        clear HB
        have HB := n_HB
        clear n_HB
        clear BK3
        have BK3 := n_BK3
        clear n_BK3
        clear BK8
        have BK8 := n_BK8
        clear n_BK8
        clear R35
        have R35 := n_R35
        clear n_R35
        clear hb
        have R39 := m_R39
        clear m_R39
        clear ho
        obtain ⟨A39, c39, eo⟩ := Kd.R_slice R39.out
        subst eo
        refine hK.out _ _ ⟨(blk_cell BK3.out 0).trans rfl, (blk_cell BK3.out 1).trans rfl, (blk_cell BK3.out 2).trans rfl⟩ (fun hHeld => ?_)
        clear hK K
        refine norm_ (a' := ?_) ?_ ?_
        rotate_left
        · show Act.put _ (some 39) _ = _
          simp only [Act.put, List.setIfInBounds_toArray, List.set_cons_zero, List.set_cons_succ, i64_w, i32_w]
          rfl
        refine two_ (i := 9) (j := 14) (Ni := some 40) (Nj := some 10) #[true, true, true, true, true, true, true, true, true, true, false, false, false, false, false, false, false] #[true, true, true, true, true, true, true, true, true, false, false, false, false, false, true, false, false] rfl rfl rfl rfl (by kernel_rfl) (by decide) (by decide) (fun K hK => ?_) (fun K hK => ?_)
        · skip
          refine Kd.R_append_rows_step k50 (w0 := w) w.heap.size (by rfl) (.tmp 35) (.tmp 39) 31 50 (.agg #[(.int .i64 0), (.int .i64 0), (.int .i64 0), (.int .i64 0), (.int .i64 0)]) 40 rfl Try.underlying31 info50 rfl (by decide) (by omega) (.slice A35 (la.map cv).length c35) (la.map cv) (lb.map cv) _ _ _ (fun _ => True) (fun _ => False) rfl rfl ?aO ?aR (fun _ _ h => h) (fun _ h => h.elim) ?aF ?aB ?aS ?aL ?_
          (case aR => exact (Kd.R_reads' R39.out).2.2)
          (case aB => exact HB.out)
          (case aF => exact fun _ _ => trivial)
          (case aO => exact R35.out)
          (case aS => exact below_size HB.out)
          (case aL => have := HDL.out; have := HTL.out; simp only [List.length_map]; omega)
          intro v_ y13_ ho hb hg hat
          have n_HB := Aside0.mk hb
          have n_BK3 := Aside0.mk (blk_grown BK3.out hg (Kd.R_ne R35.out BK3.out (by decide)))
          have n_BK8 := Aside0.mk (blk_grown BK8.out hg (Kd.R_ne R35.out BK8.out (by decide)))
          have m_ := Aside0.mk ho
          clear HB
          clear BK3
          clear BK8
          clear R35
          clear R39
          have HB := n_HB
          clear n_HB
          have BK3 := n_BK3
          clear n_BK3
          have BK8 := n_BK8
          clear n_BK8
          clear ho hb hg hat
          obtain ⟨A40, c40, eo⟩ := Kd.R_slice m_.out
          subst eo
          have R40 := m_
          clear m_
          refine hK.out _ _ ⟨(blk_cell BK3.out 0).trans rfl, (blk_cell BK3.out 1).trans rfl, (blk_cell BK3.out 2).trans rfl⟩ (fun hHeld => ?_)
          clear hK K
          refine norm_ (a' := ?_) ?_ ?_
          rotate_left
          · show Act.put _ (some 40) _ = _
            simp only [Act.put, List.setIfInBounds_toArray, List.set_cons_zero, List.set_cons_succ, i64_w, i32_w]
            rfl
          refine two_ (i := 10) (j := 14) (Ni := some 41) (Nj := some 10) #[true, true, true, true, true, true, true, true, true, true, true, false, false, false, false, false, false] #[true, true, true, true, true, true, true, true, true, true, false, false, false, false, true, false, false] rfl rfl rfl rfl (by kernel_rfl) (by decide) (by decide) (fun K hK => ?_) (fun K hK => ?_)
          · skip
            refine goes_ Try.func10 (by kernel_rfl) rfl #[.agg #[.int .i64 o0, .int .i64 o1, .int .i64 o2], .slice A40 (la.map cv ++ lb.map cv).length c40] (by rfl) rfl rfl (by (try simp only [List.map_toArray, List.map_cons, List.map_nil]); first | done | rfl) ?_
            with_reducible refine (roll_eq sh.out _ _ _ (Kd.R_reads' R40.out).2.2 (Kd.R_reads' R40.out).2.1).mono ?_
            rintro e y14_ ⟨rfl, hb⟩
            refine ⟨_, rfl, ?_⟩
            have n_HB := Aside0.mk (below_step HB.out hb)
            have n_BK3 := Aside0.mk (blk_below BK3.out hb)
            have n_BK8 := Aside0.mk (blk_below BK8.out hb)
            clear HB
            have HB := n_HB
            clear n_HB
            clear BK3
            have BK3 := n_BK3
            clear n_BK3
            clear BK8
            have BK8 := n_BK8
            clear n_BK8
            clear hb
            clear R40
            refine hK.out _ _ ⟨(blk_cell BK3.out 0).trans rfl, (blk_cell BK3.out 1).trans rfl, (blk_cell BK3.out 2).trans rfl⟩ (fun hHeld => ?_)
            clear hK K
            refine norm_ (a' := ?_) ?_ ?_
            rotate_left
            · show Act.put _ (some 41) _ = _
              simp only [Act.put, List.setIfInBounds_toArray, List.set_cons_zero, List.set_cons_succ, i64_w, i32_w]
              rfl
            refine pure_ (i := 11) (N := some 30) (v := ?_) (a' := ?_) #[true, true, true, true, true, true, true, true, true, true, true, true, false, false, false, false, false] rfl rfl (by kernel_rfl) (fun _ _ _ h => h) (Or.inl ⟨by rfl, ?_⟩) ?_ ?_
            rotate_left
            · intro w'
              go_simp
              with_reducible rfl
            rotate_left
            · simp only [Act.put, List.setIfInBounds_toArray, List.set_cons_zero, List.set_cons_succ, i64_w, i32_w]
              rfl
            refine pure_ (i := 12) (N := some 42) (v := ?_) (a' := ?_) #[true, true, true, true, true, true, true, true, true, true, true, true, true, false, false, false, false] rfl rfl (by kernel_rfl) (fun _ _ _ h => h) (Or.inl ⟨by rfl, ?_⟩) ?_ ?_
            rotate_left
            · intro w'
              go_simp
              with_reducible rfl
            rotate_left
            · simp only [Act.put, List.setIfInBounds_toArray, List.set_cons_zero, List.set_cons_succ, i64_w, i32_w]
              rfl
            refine pure_ (i := 13) (N := some 43) (v := ?_) (a' := ?_) #[true, true, true, true, true, true, true, true, true, true, true, true, true, true, false, false, false] rfl rfl (by kernel_rfl) (fun _ _ _ h => h) (Or.inl ⟨by rfl, ?_⟩) ?_ ?_
            rotate_left
            · intro w'
              go_simp
              with_reducible rfl
            rotate_left
            · simp only [Act.put, List.setIfInBounds_toArray, List.set_cons_zero, List.set_cons_succ, i64_w, i32_w]
              rfl
            refine one_ (i := 14) (N := some 10) #[true, true, true, true, true, true, true, true, true, true, true, true, true, true, true, false, false] rfl rfl (by kernel_rfl) (by decide) (fun K hK => ?_)
            refine box_step ?hg (N := 10) ?hd (cs := row18 Row6.z Row6.z Row6.z) (t := 27) ?hr ?_; (case hd => rfl); (case hg => rfl); (case hr => first | (go_simp; done) | (go_simp; rfl))
            intro g10 hg y15_ hbox hb
            have GE10 : g8 + 1 ≤ g10 := by have := blk_lt BK8.out; omega
            have m_ := Aside0.mk hbox
            have n_HB := Aside0.mk (below_step HB.out hb)
            have n_BK3 := Aside0.mk (blk_below BK3.out hb)
            have n_BK8 := Aside0.mk (blk_below BK8.out hb)
            clear HB
            have HB := n_HB
            clear n_HB
            clear BK3
            have BK3 := n_BK3
            clear n_BK3
            clear BK8
            have BK8 := n_BK8
            clear n_BK8
            clear hb hbox hg
            have BKg10 := m_
            clear m_
            refine hK.out _ _ ⟨(blk_cell BK3.out 0).trans rfl, (blk_cell BK3.out 1).trans rfl, (blk_cell BK3.out 2).trans rfl⟩ (fun hHeld => ?_)
            clear hK K
            refine norm_ (a' := ?_) ?_ ?_
            rotate_left
            · show Act.put _ (some 10) _ = _
              simp only [Act.put, List.setIfInBounds_toArray, List.set_cons_zero, List.set_cons_succ, i64_w, i32_w]
              rfl
            exact norm_ (by simp only [putAll, Act.put, List.setIfInBounds_toArray, List.set_cons_zero, List.set_cons_succ]) (hCont (A35, c35, A39, c39, A40, c40, g10) _ ⟨(blk_cell BK3.out 0).trans rfl, (blk_cell BK3.out 1).trans rfl, (blk_cell BK3.out 2).trans rfl, BK3.out, BK8.out, BKg10.out, GE10, HB.out⟩)
          · skip
            refine box_step ?hg (N := 10) ?hd (cs := row18 Row6.z Row6.z Row6.z) (t := 27) ?hr ?_; (case hd => rfl); (case hg => rfl); (case hr => first | (go_simp; done) | (go_simp; rfl))
            intro g10 hg y16_ hbox hb
            have GE10 : g8 + 1 ≤ g10 := by have := blk_lt BK8.out; omega
            have m_ := Aside0.mk hbox
            have n_HB := Aside0.mk (below_step HB.out hb)
            have n_BK3 := Aside0.mk (blk_below BK3.out hb)
            have n_BK8 := Aside0.mk (blk_below BK8.out hb)
            have n_R40 := Aside0.mk (Kd.R_below R40.out hb)
            clear HB
            have HB := n_HB
            clear n_HB
            clear BK3
            have BK3 := n_BK3
            clear n_BK3
            clear BK8
            have BK8 := n_BK8
            clear n_BK8
            clear R40
            have R40 := n_R40
            clear n_R40
            clear hb hbox hg
            have BKg10 := m_
            clear m_
            refine hK.out _ _ ⟨(blk_cell BK3.out 0).trans rfl, (blk_cell BK3.out 1).trans rfl, (blk_cell BK3.out 2).trans rfl⟩ (fun hHeld => ?_)
            clear hK K
            refine norm_ (a' := ?_) ?_ ?_
            rotate_left
            · show Act.put _ (some 10) _ = _
              simp only [Act.put, List.setIfInBounds_toArray, List.set_cons_zero, List.set_cons_succ, i64_w, i32_w]
              rfl
            refine one_ (i := 10) (N := some 41) #[true, true, true, true, true, true, true, true, true, true, true, false, false, false, true, false, false] rfl rfl (by kernel_rfl) (by decide) (fun K hK => ?_)
            refine goes_ Try.func10 (by kernel_rfl) rfl #[.agg #[.int .i64 o0, .int .i64 o1, .int .i64 o2], .slice A40 (la.map cv ++ lb.map cv).length c40] (by rfl) rfl rfl (by (try simp only [List.map_toArray, List.map_cons, List.map_nil]); first | done | rfl) ?_
            with_reducible refine (roll_eq sh.out _ _ _ (Kd.R_reads' R40.out).2.2 (Kd.R_reads' R40.out).2.1).mono ?_
            rintro e y17_ ⟨rfl, hb⟩
            refine ⟨_, rfl, ?_⟩
            have n_HB := Aside0.mk (below_step HB.out hb)
            have n_BK3 := Aside0.mk (blk_below BK3.out hb)
            have n_BK8 := Aside0.mk (blk_below BK8.out hb)
            have n_BKg10 := Aside0.mk (blk_below BKg10.out hb)
            clear HB
            have HB := n_HB
            clear n_HB
            clear BK3
            have BK3 := n_BK3
            clear n_BK3
            clear BK8
            have BK8 := n_BK8
            clear n_BK8
            clear BKg10
            have BKg10 := n_BKg10
            clear n_BKg10
            clear hb
            clear R40
            refine hK.out _ _ ⟨(blk_cell BK3.out 0).trans rfl, (blk_cell BK3.out 1).trans rfl, (blk_cell BK3.out 2).trans rfl⟩ (fun hHeld => ?_)
            clear hK K
            refine norm_ (a' := ?_) ?_ ?_
            rotate_left
            · show Act.put _ (some 41) _ = _
              simp only [Act.put, List.setIfInBounds_toArray, List.set_cons_zero, List.set_cons_succ, i64_w, i32_w]
              rfl
            refine pure_ (i := 11) (N := some 30) (v := ?_) (a' := ?_) #[true, true, true, true, true, true, true, true, true, true, true, true, false, false, true, false, false] rfl rfl (by kernel_rfl) (fun _ _ _ h => h) (Or.inl ⟨by rfl, ?_⟩) ?_ ?_
            rotate_left
            · intro w'
              go_simp
              with_reducible rfl
            rotate_left
            · simp only [Act.put, List.setIfInBounds_toArray, List.set_cons_zero, List.set_cons_succ, i64_w, i32_w]
              rfl
            refine pure_ (i := 12) (N := some 42) (v := ?_) (a' := ?_) #[true, true, true, true, true, true, true, true, true, true, true, true, true, false, true, false, false] rfl rfl (by kernel_rfl) (fun _ _ _ h => h) (Or.inl ⟨by rfl, ?_⟩) ?_ ?_
            rotate_left
            · intro w'
              go_simp
              with_reducible rfl
            rotate_left
            · simp only [Act.put, List.setIfInBounds_toArray, List.set_cons_zero, List.set_cons_succ, i64_w, i32_w]
              rfl
            refine pure_ (i := 13) (N := some 43) (v := ?_) (a' := ?_) #[true, true, true, true, true, true, true, true, true, true, true, true, true, true, true, false, false] rfl rfl (by kernel_rfl) (fun _ _ _ h => h) (Or.inl ⟨by rfl, ?_⟩) ?_ ?_
            rotate_left
            · intro w'
              go_simp
              with_reducible rfl
            rotate_left
            · simp only [Act.put, List.setIfInBounds_toArray, List.set_cons_zero, List.set_cons_succ, i64_w, i32_w]
              rfl
            exact norm_ (by simp only [putAll, Act.put, List.setIfInBounds_toArray, List.set_cons_zero, List.set_cons_succ]) (hCont (A35, c35, A39, c39, A40, c40, g10) _ ⟨(blk_cell BK3.out 0).trans rfl, (blk_cell BK3.out 1).trans rfl, (blk_cell BK3.out 2).trans rfl, BK3.out, BK8.out, BKg10.out, GE10, HB.out⟩)
        · skip
          refine box_step ?hg (N := 10) ?hd (cs := row18 Row6.z Row6.z Row6.z) (t := 27) ?hr ?_; (case hd => rfl); (case hg => rfl); (case hr => first | (go_simp; done) | (go_simp; rfl))
          intro g10 hg y18_ hbox hb
          have GE10 : g8 + 1 ≤ g10 := by have := blk_lt BK8.out; omega
          have m_ := Aside0.mk hbox
          have n_HB := Aside0.mk (below_step HB.out hb)
          have n_BK3 := Aside0.mk (blk_below BK3.out hb)
          have n_BK8 := Aside0.mk (blk_below BK8.out hb)
          have n_R35 := Aside0.mk (Kd.R_below R35.out hb)
          have n_R39 := Aside0.mk (Kd.R_below R39.out hb)
          clear HB
          have HB := n_HB
          clear n_HB
          clear BK3
          have BK3 := n_BK3
          clear n_BK3
          clear BK8
          have BK8 := n_BK8
          clear n_BK8
          clear R35
          have R35 := n_R35
          clear n_R35
          clear R39
          have R39 := n_R39
          clear n_R39
          clear hb hbox hg
          have BKg10 := m_
          clear m_
          refine hK.out _ _ ⟨(blk_cell BK3.out 0).trans rfl, (blk_cell BK3.out 1).trans rfl, (blk_cell BK3.out 2).trans rfl⟩ (fun hHeld => ?_)
          clear hK K
          refine norm_ (a' := ?_) ?_ ?_
          rotate_left
          · show Act.put _ (some 10) _ = _
            simp only [Act.put, List.setIfInBounds_toArray, List.set_cons_zero, List.set_cons_succ, i64_w, i32_w]
            rfl
          refine one_ (i := 9) (N := some 40) #[true, true, true, true, true, true, true, true, true, true, false, false, false, false, true, false, false] rfl rfl (by kernel_rfl) (by decide) (fun K hK => ?_)
          refine Kd.R_append_rows_step k50 (w0 := w) w.heap.size (by rfl) (.tmp 35) (.tmp 39) 31 50 (.agg #[(.int .i64 0), (.int .i64 0), (.int .i64 0), (.int .i64 0), (.int .i64 0)]) 40 rfl Try.underlying31 info50 rfl (by decide) (by omega) (.slice A35 (la.map cv).length c35) (la.map cv) (lb.map cv) _ _ _ (fun _ => True) (fun _ => False) rfl rfl ?aO ?aR (fun _ _ h => h) (fun _ h => h.elim) ?aF ?aB ?aS ?aL ?_
          (case aR => exact (Kd.R_reads' R39.out).2.2)
          (case aB => exact HB.out)
          (case aF => exact fun _ _ => trivial)
          (case aO => exact R35.out)
          (case aS => exact below_size HB.out)
          (case aL => have := HDL.out; have := HTL.out; simp only [List.length_map]; omega)
          intro v_ y19_ ho hb hg hat
          have n_HB := Aside0.mk hb
          have n_BK3 := Aside0.mk (blk_grown BK3.out hg (Kd.R_ne R35.out BK3.out (by decide)))
          have n_BK8 := Aside0.mk (blk_grown BK8.out hg (Kd.R_ne R35.out BK8.out (by decide)))
          have n_BKg10 := Aside0.mk (blk_grown BKg10.out hg (Kd.R_ne R35.out BKg10.out (by decide)))
          have m_ := Aside0.mk ho
          clear HB
          clear BK3
          clear BK8
          clear R35
          clear R39
          clear BKg10
          have HB := n_HB
          clear n_HB
          have BK3 := n_BK3
          clear n_BK3
          have BK8 := n_BK8
          clear n_BK8
          have BKg10 := n_BKg10
          clear n_BKg10
          clear ho hb hg hat
          obtain ⟨A40, c40, eo⟩ := Kd.R_slice m_.out
          subst eo
          have R40 := m_
          clear m_
          refine hK.out _ _ ⟨(blk_cell BK3.out 0).trans rfl, (blk_cell BK3.out 1).trans rfl, (blk_cell BK3.out 2).trans rfl⟩ (fun hHeld => ?_)
          clear hK K
          refine norm_ (a' := ?_) ?_ ?_
          rotate_left
          · show Act.put _ (some 40) _ = _
            simp only [Act.put, List.setIfInBounds_toArray, List.set_cons_zero, List.set_cons_succ, i64_w, i32_w]
            rfl
          refine one_ (i := 10) (N := some 41) #[true, true, true, true, true, true, true, true, true, true, true, false, false, false, true, false, false] rfl rfl (by kernel_rfl) (by decide) (fun K hK => ?_)
          refine goes_ Try.func10 (by kernel_rfl) rfl #[.agg #[.int .i64 o0, .int .i64 o1, .int .i64 o2], .slice A40 (la.map cv ++ lb.map cv).length c40] (by rfl) rfl rfl (by (try simp only [List.map_toArray, List.map_cons, List.map_nil]); first | done | rfl) ?_
          with_reducible refine (roll_eq sh.out _ _ _ (Kd.R_reads' R40.out).2.2 (Kd.R_reads' R40.out).2.1).mono ?_
          rintro e y20_ ⟨rfl, hb⟩
          refine ⟨_, rfl, ?_⟩
          have n_HB := Aside0.mk (below_step HB.out hb)
          have n_BK3 := Aside0.mk (blk_below BK3.out hb)
          have n_BK8 := Aside0.mk (blk_below BK8.out hb)
          have n_BKg10 := Aside0.mk (blk_below BKg10.out hb)
          clear HB
          have HB := n_HB
          clear n_HB
          clear BK3
          have BK3 := n_BK3
          clear n_BK3
          clear BK8
          have BK8 := n_BK8
          clear n_BK8
          clear BKg10
          have BKg10 := n_BKg10
          clear n_BKg10
          clear hb
          clear R40
          refine hK.out _ _ ⟨(blk_cell BK3.out 0).trans rfl, (blk_cell BK3.out 1).trans rfl, (blk_cell BK3.out 2).trans rfl⟩ (fun hHeld => ?_)
          clear hK K
          refine norm_ (a' := ?_) ?_ ?_
          rotate_left
          · show Act.put _ (some 41) _ = _
            simp only [Act.put, List.setIfInBounds_toArray, List.set_cons_zero, List.set_cons_succ, i64_w, i32_w]
            rfl
          refine pure_ (i := 11) (N := some 30) (v := ?_) (a' := ?_) #[true, true, true, true, true, true, true, true, true, true, true, true, false, false, true, false, false] rfl rfl (by kernel_rfl) (fun _ _ _ h => h) (Or.inl ⟨by rfl, ?_⟩) ?_ ?_
          rotate_left
          · intro w'
            go_simp
            with_reducible rfl
          rotate_left
          · simp only [Act.put, List.setIfInBounds_toArray, List.set_cons_zero, List.set_cons_succ, i64_w, i32_w]
            rfl
          refine pure_ (i := 12) (N := some 42) (v := ?_) (a' := ?_) #[true, true, true, true, true, true, true, true, true, true, true, true, true, false, true, false, false] rfl rfl (by kernel_rfl) (fun _ _ _ h => h) (Or.inl ⟨by rfl, ?_⟩) ?_ ?_
          rotate_left
          · intro w'
            go_simp
            with_reducible rfl
          rotate_left
          · simp only [Act.put, List.setIfInBounds_toArray, List.set_cons_zero, List.set_cons_succ, i64_w, i32_w]
            rfl
          refine pure_ (i := 13) (N := some 43) (v := ?_) (a' := ?_) #[true, true, true, true, true, true, true, true, true, true, true, true, true, true, true, false, false] rfl rfl (by kernel_rfl) (fun _ _ _ h => h) (Or.inl ⟨by rfl, ?_⟩) ?_ ?_
          rotate_left
          · intro w'
            go_simp
            with_reducible rfl
          rotate_left
          · simp only [Act.put, List.setIfInBounds_toArray, List.set_cons_zero, List.set_cons_succ, i64_w, i32_w]
            rfl
          exact norm_ (by simp only [putAll, Act.put, List.setIfInBounds_toArray, List.set_cons_zero, List.set_cons_succ]) (hCont (A35, c35, A39, c39, A40, c40, g10) _ ⟨(blk_cell BK3.out 0).trans rfl, (blk_cell BK3.out 1).trans rfl, (blk_cell BK3.out 2).trans rfl, BK3.out, BK8.out, BKg10.out, GE10, HB.out⟩)
      · skip
        refine box_step ?hg (N := 10) ?hd (cs := row18 Row6.z Row6.z Row6.z) (t := 27) ?hr ?_; (case hd => rfl); (case hg => rfl); (case hr => first | (go_simp; done) | (go_simp; rfl))
        intro g10 hg y21_ hbox hb
        have GE10 : g8 + 1 ≤ g10 := by have := blk_lt BK8.out; omega
        have m_ := Aside0.mk hbox
        have n_HB := Aside0.mk (below_step HB.out hb)
        have n_BK3 := Aside0.mk (blk_below BK3.out hb)
        have n_BK8 := Aside0.mk (blk_below BK8.out hb)
        have n_R35 := Aside0.mk (Kd.R_below R35.out hb)
        clear HB
        have HB := n_HB
        clear n_HB
        clear BK3
        have BK3 := n_BK3
        clear n_BK3
        clear BK8
        have BK8 := n_BK8
        clear n_BK8
        clear R35
        have R35 := n_R35
        clear n_R35
        clear hb hbox hg
        have BKg10 := m_
        clear m_
        refine hK.out _ _ ⟨(blk_cell BK3.out 0).trans rfl, (blk_cell BK3.out 1).trans rfl, (blk_cell BK3.out 2).trans rfl⟩ (fun hHeld => ?_)
        clear hK K
        refine norm_ (a' := ?_) ?_ ?_
        rotate_left
        · show Act.put _ (some 10) _ = _
          simp only [Act.put, List.setIfInBounds_toArray, List.set_cons_zero, List.set_cons_succ, i64_w, i32_w]
          rfl
        refine one_ (i := 8) (N := some 39) #[true, true, true, true, true, true, true, true, true, false, false, false, false, false, true, false, false] rfl rfl (by kernel_rfl) (by decide) (fun K hK => ?_)
        refine goes_ Try.func11 (by kernel_rfl) rfl #[.slice (A) (lb).length (c)] (by rfl) rfl rfl (by (try simp only [List.map_toArray, List.map_cons, List.map_nil]); first | done | rfl) ?_
        with_reducible refine (to_pl (A) (c) (lb) _ (Kd.C_below HRB.out HB.out) HCT.out (by have := HTL.out; omega)).mono ?_
        rintro e y22_ ⟨v_, rfl, ho, hb⟩
        refine ⟨_, rfl, ?_⟩
        have m_R39 := Aside0.mk (Kd.R_lower ho (below_size HB.out))
        have n_HB := Aside0.mk (below_step HB.out hb)
        have n_BK3 := Aside0.mk (blk_below BK3.out hb)
        have n_BK8 := Aside0.mk (blk_below BK8.out hb)
        have n_R35 := Aside0.mk (Kd.R_below R35.out hb)
        have n_BKg10 := Aside0.mk (blk_below BKg10.out hb)
        clear HB
        have HB := n_HB
        clear n_HB
        clear BK3
        have BK3 := n_BK3
        clear n_BK3
        clear BK8
        have BK8 := n_BK8
        clear n_BK8
        clear R35
        have R35 := n_R35
        clear n_R35
        clear BKg10
        have BKg10 := n_BKg10
        clear n_BKg10
        clear hb
        have R39 := m_R39
        clear m_R39
        clear ho
        obtain ⟨A39, c39, eo⟩ := Kd.R_slice R39.out
        subst eo
        refine hK.out _ _ ⟨(blk_cell BK3.out 0).trans rfl, (blk_cell BK3.out 1).trans rfl, (blk_cell BK3.out 2).trans rfl⟩ (fun hHeld => ?_)
        clear hK K
        refine norm_ (a' := ?_) ?_ ?_
        rotate_left
        · show Act.put _ (some 39) _ = _
          simp only [Act.put, List.setIfInBounds_toArray, List.set_cons_zero, List.set_cons_succ, i64_w, i32_w]
          rfl
        refine one_ (i := 9) (N := some 40) #[true, true, true, true, true, true, true, true, true, true, false, false, false, false, true, false, false] rfl rfl (by kernel_rfl) (by decide) (fun K hK => ?_)
        refine Kd.R_append_rows_step k50 (w0 := w) w.heap.size (by rfl) (.tmp 35) (.tmp 39) 31 50 (.agg #[(.int .i64 0), (.int .i64 0), (.int .i64 0), (.int .i64 0), (.int .i64 0)]) 40 rfl Try.underlying31 info50 rfl (by decide) (by omega) (.slice A35 (la.map cv).length c35) (la.map cv) (lb.map cv) _ _ _ (fun _ => True) (fun _ => False) rfl rfl ?aO ?aR (fun _ _ h => h) (fun _ h => h.elim) ?aF ?aB ?aS ?aL ?_
        (case aR => exact (Kd.R_reads' R39.out).2.2)
        (case aB => exact HB.out)
        (case aF => exact fun _ _ => trivial)
        (case aO => exact R35.out)
        (case aS => exact below_size HB.out)
        (case aL => have := HDL.out; have := HTL.out; simp only [List.length_map]; omega)
        intro v_ y23_ ho hb hg hat
        have n_HB := Aside0.mk hb
        have n_BK3 := Aside0.mk (blk_grown BK3.out hg (Kd.R_ne R35.out BK3.out (by decide)))
        have n_BK8 := Aside0.mk (blk_grown BK8.out hg (Kd.R_ne R35.out BK8.out (by decide)))
        have n_BKg10 := Aside0.mk (blk_grown BKg10.out hg (Kd.R_ne R35.out BKg10.out (by decide)))
        have m_ := Aside0.mk ho
        clear HB
        clear BK3
        clear BK8
        clear R35
        clear BKg10
        clear R39
        have HB := n_HB
        clear n_HB
        have BK3 := n_BK3
        clear n_BK3
        have BK8 := n_BK8
        clear n_BK8
        have BKg10 := n_BKg10
        clear n_BKg10
        clear ho hb hg hat
        obtain ⟨A40, c40, eo⟩ := Kd.R_slice m_.out
        subst eo
        have R40 := m_
        clear m_
        refine hK.out _ _ ⟨(blk_cell BK3.out 0).trans rfl, (blk_cell BK3.out 1).trans rfl, (blk_cell BK3.out 2).trans rfl⟩ (fun hHeld => ?_)
        clear hK K
        refine norm_ (a' := ?_) ?_ ?_
        rotate_left
        · show Act.put _ (some 40) _ = _
          simp only [Act.put, List.setIfInBounds_toArray, List.set_cons_zero, List.set_cons_succ, i64_w, i32_w]
          rfl
        refine one_ (i := 10) (N := some 41) #[true, true, true, true, true, true, true, true, true, true, true, false, false, false, true, false, false] rfl rfl (by kernel_rfl) (by decide) (fun K hK => ?_)
        refine goes_ Try.func10 (by kernel_rfl) rfl #[.agg #[.int .i64 o0, .int .i64 o1, .int .i64 o2], .slice A40 (la.map cv ++ lb.map cv).length c40] (by rfl) rfl rfl (by (try simp only [List.map_toArray, List.map_cons, List.map_nil]); first | done | rfl) ?_
        with_reducible refine (roll_eq sh.out _ _ _ (Kd.R_reads' R40.out).2.2 (Kd.R_reads' R40.out).2.1).mono ?_
        rintro e y24_ ⟨rfl, hb⟩
        refine ⟨_, rfl, ?_⟩
        have n_HB := Aside0.mk (below_step HB.out hb)
        have n_BK3 := Aside0.mk (blk_below BK3.out hb)
        have n_BK8 := Aside0.mk (blk_below BK8.out hb)
        have n_BKg10 := Aside0.mk (blk_below BKg10.out hb)
        clear HB
        have HB := n_HB
        clear n_HB
        clear BK3
        have BK3 := n_BK3
        clear n_BK3
        clear BK8
        have BK8 := n_BK8
        clear n_BK8
        clear BKg10
        have BKg10 := n_BKg10
        clear n_BKg10
        clear hb
        clear R40
        refine hK.out _ _ ⟨(blk_cell BK3.out 0).trans rfl, (blk_cell BK3.out 1).trans rfl, (blk_cell BK3.out 2).trans rfl⟩ (fun hHeld => ?_)
        clear hK K
        refine norm_ (a' := ?_) ?_ ?_
        rotate_left
        · show Act.put _ (some 41) _ = _
          simp only [Act.put, List.setIfInBounds_toArray, List.set_cons_zero, List.set_cons_succ, i64_w, i32_w]
          rfl
        refine pure_ (i := 11) (N := some 30) (v := ?_) (a' := ?_) #[true, true, true, true, true, true, true, true, true, true, true, true, false, false, true, false, false] rfl rfl (by kernel_rfl) (fun _ _ _ h => h) (Or.inl ⟨by rfl, ?_⟩) ?_ ?_
        rotate_left
        · intro w'
          go_simp
          with_reducible rfl
        rotate_left
        · simp only [Act.put, List.setIfInBounds_toArray, List.set_cons_zero, List.set_cons_succ, i64_w, i32_w]
          rfl
        refine pure_ (i := 12) (N := some 42) (v := ?_) (a' := ?_) #[true, true, true, true, true, true, true, true, true, true, true, true, true, false, true, false, false] rfl rfl (by kernel_rfl) (fun _ _ _ h => h) (Or.inl ⟨by rfl, ?_⟩) ?_ ?_
        rotate_left
        · intro w'
          go_simp
          with_reducible rfl
        rotate_left
        · simp only [Act.put, List.setIfInBounds_toArray, List.set_cons_zero, List.set_cons_succ, i64_w, i32_w]
          rfl
        refine pure_ (i := 13) (N := some 43) (v := ?_) (a' := ?_) #[true, true, true, true, true, true, true, true, true, true, true, true, true, true, true, false, false] rfl rfl (by kernel_rfl) (fun _ _ _ h => h) (Or.inl ⟨by rfl, ?_⟩) ?_ ?_
        rotate_left
        · intro w'
          go_simp
          with_reducible rfl
        rotate_left
        · simp only [Act.put, List.setIfInBounds_toArray, List.set_cons_zero, List.set_cons_succ, i64_w, i32_w]
          rfl
        exact norm_ (by simp only [putAll, Act.put, List.setIfInBounds_toArray, List.set_cons_zero, List.set_cons_succ]) (hCont (A35, c35, A39, c39, A40, c40, g10) _ ⟨(blk_cell BK3.out 0).trans rfl, (blk_cell BK3.out 1).trans rfl, (blk_cell BK3.out 2).trans rfl, BK3.out, BK8.out, BKg10.out, GE10, HB.out⟩)
    · skip
      refine box_step ?hg (N := 10) ?hd (cs := row18 Row6.z Row6.z Row6.z) (t := 27) ?hr ?_; (case hd => rfl); (case hg => rfl); (case hr => first | (go_simp; done) | (go_simp; rfl))
      intro g10 hg y25_ hbox hb
      have GE10 : g8 + 1 ≤ g10 := by have := blk_lt BK8.out; omega
      have m_ := Aside0.mk hbox
      have n_HB := Aside0.mk (below_step HB.out hb)
      have n_BK3 := Aside0.mk (blk_below BK3.out hb)
      have n_BK8 := Aside0.mk (blk_below BK8.out hb)
      clear HB
      have HB := n_HB
      clear n_HB
      clear BK3
      have BK3 := n_BK3
      clear n_BK3
      clear BK8
      have BK8 := n_BK8
      clear n_BK8
      clear hb hbox hg
      have BKg10 := m_
      clear m_
      refine hK.out _ _ ⟨(blk_cell BK3.out 0).trans rfl, (blk_cell BK3.out 1).trans rfl, (blk_cell BK3.out 2).trans rfl⟩ (fun hHeld => ?_)
      clear hK K
      refine norm_ (a' := ?_) ?_ ?_
      rotate_left
      · show Act.put _ (some 10) _ = _
        simp only [Act.put, List.setIfInBounds_toArray, List.set_cons_zero, List.set_cons_succ, i64_w, i32_w]
        rfl
      refine one_ (i := 4) (N := some 35) #[true, true, true, true, true, true, true, true, false, false, false, false, false, false, true, false, false] rfl rfl (by kernel_rfl) (by decide) (fun K hK => ?_)
      refine goes_ Try.func11 (by kernel_rfl) rfl #[.slice (A34) (la).length (c34)] (by rfl) rfl rfl (by (try simp only [List.map_toArray, List.map_cons, List.map_nil]); first | done | rfl) ?_
      with_reducible refine (to_pl (A34) (c34) (la) _ (Kd.C_below HRA.out HB.out) HCL.out (by have := HDL.out; omega)).mono ?_
      rintro e y26_ ⟨v_, rfl, ho, hb⟩
      refine ⟨_, rfl, ?_⟩
      have m_R35 := Aside0.mk (Kd.R_lower ho (below_size HB.out))
      have n_HB := Aside0.mk (below_step HB.out hb)
      have n_BK3 := Aside0.mk (blk_below BK3.out hb)
      have n_BK8 := Aside0.mk (blk_below BK8.out hb)
      have n_BKg10 := Aside0.mk (blk_below BKg10.out hb)
      clear HB
      have HB := n_HB
      clear n_HB
      clear BK3
      have BK3 := n_BK3
      clear n_BK3
      clear BK8
      have BK8 := n_BK8
      clear n_BK8
      clear BKg10
      have BKg10 := n_BKg10
      clear n_BKg10
      clear hb
      have R35 := m_R35
      clear m_R35
      clear ho
      obtain ⟨A35, c35, eo⟩ := Kd.R_slice R35.out
      subst eo
      refine hK.out _ _ ⟨(blk_cell BK3.out 0).trans rfl, (blk_cell BK3.out 1).trans rfl, (blk_cell BK3.out 2).trans rfl⟩ (fun hHeld => ?_)
      clear hK K
      refine norm_ (a' := ?_) ?_ ?_
      rotate_left
      · show Act.put _ (some 35) _ = _
        simp only [Act.put, List.setIfInBounds_toArray, List.set_cons_zero, List.set_cons_succ, i64_w, i32_w]
        rfl
      refine one_ (i := 8) (N := some 39) #[true, true, true, true, true, true, true, true, true, false, false, false, false, false, true, false, false] rfl rfl (by kernel_rfl) (by decide) (fun K hK => ?_)
      refine goes_ Try.func11 (by kernel_rfl) rfl #[.slice (A) (lb).length (c)] (by rfl) rfl rfl (by (try simp only [List.map_toArray, List.map_cons, List.map_nil]); first | done | rfl) ?_
      with_reducible refine (to_pl (A) (c) (lb) _ (Kd.C_below HRB.out HB.out) HCT.out (by have := HTL.out; omega)).mono ?_
      rintro e y27_ ⟨v_, rfl, ho, hb⟩
      refine ⟨_, rfl, ?_⟩
      have m_R39 := Aside0.mk (Kd.R_lower ho (below_size HB.out))
      have n_HB := Aside0.mk (below_step HB.out hb)
      have n_BK3 := Aside0.mk (blk_below BK3.out hb)
      have n_BK8 := Aside0.mk (blk_below BK8.out hb)
      have n_BKg10 := Aside0.mk (blk_below BKg10.out hb)
      have n_R35 := Aside0.mk (Kd.R_below R35.out hb)
      clear HB
      have HB := n_HB
      clear n_HB
      clear BK3
      have BK3 := n_BK3
      clear n_BK3
      clear BK8
      have BK8 := n_BK8
      clear n_BK8
      clear BKg10
      have BKg10 := n_BKg10
      clear n_BKg10
      clear R35
      have R35 := n_R35
      clear n_R35
      clear hb
      have R39 := m_R39
      clear m_R39
      clear ho
      obtain ⟨A39, c39, eo⟩ := Kd.R_slice R39.out
      subst eo
      refine hK.out _ _ ⟨(blk_cell BK3.out 0).trans rfl, (blk_cell BK3.out 1).trans rfl, (blk_cell BK3.out 2).trans rfl⟩ (fun hHeld => ?_)
      clear hK K
      refine norm_ (a' := ?_) ?_ ?_
      rotate_left
      · show Act.put _ (some 39) _ = _
        simp only [Act.put, List.setIfInBounds_toArray, List.set_cons_zero, List.set_cons_succ, i64_w, i32_w]
        rfl
      refine one_ (i := 9) (N := some 40) #[true, true, true, true, true, true, true, true, true, true, false, false, false, false, true, false, false] rfl rfl (by kernel_rfl) (by decide) (fun K hK => ?_)
      refine Kd.R_append_rows_step k50 (w0 := w) w.heap.size (by rfl) (.tmp 35) (.tmp 39) 31 50 (.agg #[(.int .i64 0), (.int .i64 0), (.int .i64 0), (.int .i64 0), (.int .i64 0)]) 40 rfl Try.underlying31 info50 rfl (by decide) (by omega) (.slice A35 (la.map cv).length c35) (la.map cv) (lb.map cv) _ _ _ (fun _ => True) (fun _ => False) rfl rfl ?aO ?aR (fun _ _ h => h) (fun _ h => h.elim) ?aF ?aB ?aS ?aL ?_
      (case aR => exact (Kd.R_reads' R39.out).2.2)
      (case aB => exact HB.out)
      (case aF => exact fun _ _ => trivial)
      (case aO => exact R35.out)
      (case aS => exact below_size HB.out)
      (case aL => have := HDL.out; have := HTL.out; simp only [List.length_map]; omega)
      intro v_ y28_ ho hb hg hat
      have n_HB := Aside0.mk hb
      have n_BK3 := Aside0.mk (blk_grown BK3.out hg (Kd.R_ne R35.out BK3.out (by decide)))
      have n_BK8 := Aside0.mk (blk_grown BK8.out hg (Kd.R_ne R35.out BK8.out (by decide)))
      have n_BKg10 := Aside0.mk (blk_grown BKg10.out hg (Kd.R_ne R35.out BKg10.out (by decide)))
      have m_ := Aside0.mk ho
      clear HB
      clear BK3
      clear BK8
      clear BKg10
      clear R35
      clear R39
      have HB := n_HB
      clear n_HB
      have BK3 := n_BK3
      clear n_BK3
      have BK8 := n_BK8
      clear n_BK8
      have BKg10 := n_BKg10
      clear n_BKg10
      clear ho hb hg hat
      obtain ⟨A40, c40, eo⟩ := Kd.R_slice m_.out
      subst eo
      have R40 := m_
      clear m_
      refine hK.out _ _ ⟨(blk_cell BK3.out 0).trans rfl, (blk_cell BK3.out 1).trans rfl, (blk_cell BK3.out 2).trans rfl⟩ (fun hHeld => ?_)
      clear hK K
      refine norm_ (a' := ?_) ?_ ?_
      rotate_left
      · show Act.put _ (some 40) _ = _
        simp only [Act.put, List.setIfInBounds_toArray, List.set_cons_zero, List.set_cons_succ, i64_w, i32_w]
        rfl
      refine one_ (i := 10) (N := some 41) #[true, true, true, true, true, true, true, true, true, true, true, false, false, false, true, false, false] rfl rfl (by kernel_rfl) (by decide) (fun K hK => ?_)
      refine goes_ Try.func10 (by kernel_rfl) rfl #[.agg #[.int .i64 o0, .int .i64 o1, .int .i64 o2], .slice A40 (la.map cv ++ lb.map cv).length c40] (by rfl) rfl rfl (by (try simp only [List.map_toArray, List.map_cons, List.map_nil]); first | done | rfl) ?_
      with_reducible refine (roll_eq sh.out _ _ _ (Kd.R_reads' R40.out).2.2 (Kd.R_reads' R40.out).2.1).mono ?_
      rintro e y29_ ⟨rfl, hb⟩
      refine ⟨_, rfl, ?_⟩
      have n_HB := Aside0.mk (below_step HB.out hb)
      have n_BK3 := Aside0.mk (blk_below BK3.out hb)
      have n_BK8 := Aside0.mk (blk_below BK8.out hb)
      have n_BKg10 := Aside0.mk (blk_below BKg10.out hb)
      clear HB
      have HB := n_HB
      clear n_HB
      clear BK3
      have BK3 := n_BK3
      clear n_BK3
      clear BK8
      have BK8 := n_BK8
      clear n_BK8
      clear BKg10
      have BKg10 := n_BKg10
      clear n_BKg10
      clear hb
      clear R40
      refine hK.out _ _ ⟨(blk_cell BK3.out 0).trans rfl, (blk_cell BK3.out 1).trans rfl, (blk_cell BK3.out 2).trans rfl⟩ (fun hHeld => ?_)
      clear hK K
      refine norm_ (a' := ?_) ?_ ?_
      rotate_left
      · show Act.put _ (some 41) _ = _
        simp only [Act.put, List.setIfInBounds_toArray, List.set_cons_zero, List.set_cons_succ, i64_w, i32_w]
        rfl
      refine pure_ (i := 11) (N := some 30) (v := ?_) (a' := ?_) #[true, true, true, true, true, true, true, true, true, true, true, true, false, false, true, false, false] rfl rfl (by kernel_rfl) (fun _ _ _ h => h) (Or.inl ⟨by rfl, ?_⟩) ?_ ?_
      rotate_left
      · intro w'
        go_simp
        with_reducible rfl
      rotate_left
      · simp only [Act.put, List.setIfInBounds_toArray, List.set_cons_zero, List.set_cons_succ, i64_w, i32_w]
        rfl
      refine pure_ (i := 12) (N := some 42) (v := ?_) (a' := ?_) #[true, true, true, true, true, true, true, true, true, true, true, true, true, false, true, false, false] rfl rfl (by kernel_rfl) (fun _ _ _ h => h) (Or.inl ⟨by rfl, ?_⟩) ?_ ?_
      rotate_left
      · intro w'
        go_simp
        with_reducible rfl
      rotate_left
      · simp only [Act.put, List.setIfInBounds_toArray, List.set_cons_zero, List.set_cons_succ, i64_w, i32_w]
        rfl
      refine pure_ (i := 13) (N := some 43) (v := ?_) (a' := ?_) #[true, true, true, true, true, true, true, true, true, true, true, true, true, true, true, false, false] rfl rfl (by kernel_rfl) (fun _ _ _ h => h) (Or.inl ⟨by rfl, ?_⟩) ?_ ?_
      rotate_left
      · intro w'
        go_simp
        with_reducible rfl
      rotate_left
      · simp only [Act.put, List.setIfInBounds_toArray, List.set_cons_zero, List.set_cons_succ, i64_w, i32_w]
        rfl
      exact norm_ (by simp only [putAll, Act.put, List.setIfInBounds_toArray, List.set_cons_zero, List.set_cons_succ]) (hCont (A35, c35, A39, c39, A40, c40, g10) _ ⟨(blk_cell BK3.out 0).trans rfl, (blk_cell BK3.out 1).trans rfl, (blk_cell BK3.out 2).trans rfl, BK3.out, BK8.out, BKg10.out, GE10, HB.out⟩)
  clear hHeld HB BK3 BK8
  rintro ⟨A35, c35, A39, c39, A40, c40, g10⟩ y10_ ⟨hS0_, hS1_, hS2_, h_BK3, h_BK8, h_BKg10, h_GE10, h_HB⟩
  have BK3 : Aside0 (y10_.heap[w.heap.size]? = some (.cells #[.int .i64 o0, .int .i64 o1, .int .i64 o2] 22 (0, 0))) := Aside0.mk (h_BK3)
  clear h_BK3
  have BK8 : Aside0 (y10_.heap[g8]? = some (.cells (row18 ra rb rc) 27 (0, 0))) := Aside0.mk (h_BK8)
  clear h_BK8
  have BKg10 : Aside0 (y10_.heap[g10]? = some (.cells (row18 Row6.z Row6.z Row6.z) 27 (0, 0))) := Aside0.mk (h_BKg10)
  clear h_BKg10
  have GE10 : g8 + 1 ≤ g10 := h_GE10
  clear h_GE10
  have HB : Aside0 (Below w.heap.size w y10_) := Aside0.mk (h_HB)
  clear h_HB
  have hHeld : y10_.cell? ⟨w.heap.size, 0, none⟩ = some (.int .i64 o0) ∧ y10_.cell? ⟨w.heap.size, 1, none⟩ = some (.int .i64 o1) ∧ y10_.cell? ⟨w.heap.size, 2, none⟩ = some (.int .i64 o2) := ⟨hS0_, hS1_, hS2_⟩
  clear hS0_ hS1_ hS2_
  refine norm_ (a' := ?_) ?_ ?_
  rotate_left
  · simp only [putAll, Act.put, List.setIfInBounds_toArray, List.set_cons_zero, List.set_cons_succ]
    rfl
  refine last_ (i := 15) (N := none) #[true, true, true, true, true, true, true, true, true, true, true, true, true, true, true, true, false] rfl rfl (by kernel_rfl) (by decide) (fun K hK => ?_)
  refine skip_ (w1 := y10_.setRow g10 (row18 sa sb sc)) (by rfl) rfl (store_run 27 (.tmp 10) (.tmp 42) rfl g10 _ rfl rfl 27 _ BKg10.out (by kernel_rfl) rfl (row18_all _ _ _)) ?_
  have n_HB := Aside0.mk (row_below (g := g10) HB.out (by omega) (row18 sa sb sc))
  have n_BK8 := Aside0.mk ((setRow_other y10_ g10 g8 (row18 sa sb sc) (by omega)).trans BK8.out)
  have n_BK10 := Aside0.mk (setRow_heap _ _ _ (row18 sa sb sc) _ _ BKg10.out)
  clear HB BK3 BK8 BKg10
  generalize y10_.setRow g10 (row18 sa sb sc) = y10 at n_HB n_BK8 n_BK10 ⊢
  have HB := n_HB
  have BK8 := n_BK8
  have BK10 := n_BK10
  clear n_HB n_BK8 n_BK10
  refine hK.out _ _ ?_
  clear hK K
  refine pure_ (i := 16) (N := some 11) (v := ?_) (a' := ?_) #[true, true, true, true, true, true, true, true, true, true, true, true, true, true, true, true, true] rfl rfl (by kernel_rfl) (fun _ _ _ h => h) (Or.inl ⟨by rfl, ?_⟩) ?_ ?_
  rotate_left
  · intro w'
    go_simp
    with_reducible rfl
  rotate_left
  · simp only [Act.put, List.setIfInBounds_toArray, List.set_cons_zero, List.set_cons_succ, i64_w, i32_w]
    rfl
  refine done_ (by kernel_rfl) ?_
  clear hHeld
  have heq := fun d W => run_eqRows d W ra rb rc sa sb sc
  go_wp2_with (first | ((with_reducible refine gate_dst (N := 44) rfl ?_); refine wpList_load_row rfl 27 (.tmp 8) rfl g8 rfl 27 _ (0, 0) _ BK8.out Try.underlying27 rfl (by kernel_rfl) ?_) | ((with_reducible refine gate_dst (N := 45) rfl ?_); refine wpList_load_row rfl 27 (.tmp 10) rfl g10 rfl 27 _ (0, 0) _ BK10.out Try.underlying27 rfl (by kernel_rfl) ?_))
  all_goals go_ret
  all_goals (refine ⟨?_, HB.out⟩; first | (rw [‹eqRows ra rb rc sa sb sc = true›]; rfl) | (rw [Bool.eq_false_iff.2 ‹¬ eqRows ra rb rc sa sb sc = true›]; rfl))
set_option maxHeartbeats 8000000 in
set_option maxRecDepth 100000 in
theorem lombardlaw16_AllowOrders.big (A : Option Addr) (c : Nat) (l : List S40) (o0 o1 o2 a : Int) (w : World) (hl : 500 < l.length) :
    Calls Try.prog 6 #[.agg #[.int .i64 o0, .int .i64 o1, .int .i64 o2], .slice A l.length c, .int .u8 a] w fun e w' => e = .returned (.bool true) ∧ Below w.heap.size w w' := by
  have hb0 : decide (500 < (l.length : Int)) = true := decide_eq_true (by omega)
  clear hl
  go_enter Try.func6, Try.ntmps6
  go_wp2_with fail
  with_reducible refine (lombardlaw16_alive.calls true _ rfl).mono ?_
  rintro e w1 ⟨rfl, hb⟩
  have HB := Aside0.mk (below_step (w := w) (below_alloc (Below.refl _ _) _) hb)
  clear hb
  go_wp2_with fail
  go_ret
  exact ⟨rfl, HB.out⟩
theorem lombardlaw16_AllowOrders.calls (a0_0 : Int) (a0_1 : Int) (a0_2 : Int) (A1 : Option Addr) (c1 : Nat) (l1 : List (S40)) (a2 : Int) (r : Bool) (w : World) (hr1 : Kd.C k40 w A1 l1.length l1) (hc1 : l1.length ≤ c1) (h : lombardlaw16_AllowOrders.f a0_0 a0_1 a0_2 l1 a2 = some r) :
    Calls Try.prog 6 #[.agg #[.int .i64 a0_0, .int .i64 a0_1, .int .i64 a0_2], .slice A1 l1.length c1, .int .u8 a2] w fun e w' => e = .returned (.bool r) ∧ Below w.heap.size w w' := by
  unfold lombardlaw16_AllowOrders.f at h
  by_cases hg : 0 ≤ a2 ∧ a2 ≤ 255
  · rw [if_pos hg] at h
    obtain ⟨a, rfl⟩ : ∃ a : Nat, a2 = (a : Int) := ⟨a2.toNat, by omega⟩
    obtain rfl := Option.some.inj h
    by_cases hl : 500 < l1.length
    · rw [if_pos hl]
      exact lombardlaw16_AllowOrders.big A1 c1 l1 a0_0 a0_1 a0_2 a w hl
    · rw [if_neg hl]
      have hk := Nat.mod_lt a (show 0 < l1.length + 1 by omega)
      obtain ⟨k, hk2⟩ : ∃ k, a % (l1.length + 1) = k := ⟨_, rfl⟩
      rw [show (a : Int).toNat = a by simp, hk2]
      exact lombardlaw16_AllowOrders.walk A1 c1 l1 a0_0 a0_1 a0_2 a k w hr1 hc1 (by omega) (by omega) hk2 (by omega) _ _ ⟨rfl⟩ ⟨rfl⟩ ⟨rfl⟩ ⟨rfl⟩
  · rw [if_neg hg] at h
    cases h


end Go.Proofs.Ytgeeffnokedllaa.Print
