-- written by this session's program wip/hybrid.py over the kit's printer, and by hand. Not trusted: Lean checks it.
import Derived.Test.YtgeeffnokedllaaPrint0
import Derived.Test.YtgeeffnokedllaaPrint1
import Derived.Test.YtgeeffnokedllaaPrint6
import Derived.Test.YtgeeffnokedllaaPrint8
import Derived.Test.YtgeeffnokedllaaPrint9
import Derived.Test.YtgeeffnokedllaaPrint11
import Derived.Test.YtgeeffnokedllaaPrint12
namespace Go.Proofs.Ytgeeffnokedllaa.Print
open Go.RowKit Go.Proofs.YtgeeffnokedllaaW.PrintWords Go.Proofs.YtgeeffnokedllaaW.PrintLast Go.Proofs.YtgeeffnokedllaaW.PrintMore
attribute [local go_sem] max2_int min2_int max_two min_two max_three min_three max_four min_four   -- for this text's walks alone
set_option linter.unusedVariables false
set_option linter.unusedSimpArgs false

/-! ### lombardlaw16_AllowRolls: function 3 -/
/-- A load of a whole row, as one step of a region. -/
theorem load_run {P : Program} {o : Oper} {ev : Operand → Value} {w : World} (ty : TypeId) (x : Operand) (ho : o.op = .load ty x) (g : Nat) (hx : ev x = .pointer (some ⟨g, 0, none⟩)) (t : TypeId) (cs : Array Value) (fr : Nat × Nat) (d : TypeDesc) (hg : w.heap[g]? = some (.cells cs t fr))
    (hu : P.underlying ty = some d) (hd : (match d with | .struct _ | .array _ _ => true | _ => false) = true) (hi : (P.info? ty).map (·.size) = some cs.size) :
    (execOp ev o).run P w = .ok (.value (.agg cs)) w := by
  unfold execOp
  simp only [ho, hx, Instr.loadAt, Instr.sureAddr, Sem.run_bind, Sem.run_pure, Result.andThen_ok, run_loadVar_row w g t ty cs fr d hg hu hd hi]
theorem eqA33 (d : Nat) (w : World) (x0 y0 : Int) (x1 y1 : Int) (x2 y2 : Int) (x3 y3 : Int) (x4 y4 : Int) (x5 y5 : Int) :
    (Op.equalIn (d + 2) 33 (.agg #[.int .i64 x0, .int .i64 x1, .int .i64 x2, .int .i64 x3, .int .i64 x4, .int .i64 x5]) (.agg #[.int .i64 y0, .int .i64 y1, .int .i64 y2, .int .i64 y3, .int .i64 y4, .int .i64 y5])).run Try.prog w = .ok (x0 == y0 && (x1 == y1 && (x2 == y2 && (x3 == y3 && (x4 == y4 && (x5 == y5)))))) w := by
  refine eqA_of Try.underlying33 (by kernel_rfl) ?_
  refine eqf_cons (by rfl) (by go_simp; rfl) (by go_simp; rfl) (by go_simp) ?_
  refine eqf_cons (by rfl) (by go_simp; rfl) (by go_simp; rfl) (by go_simp) ?_
  refine eqf_cons (by rfl) (by go_simp; rfl) (by go_simp; rfl) (by go_simp) ?_
  refine eqf_cons (by rfl) (by go_simp; rfl) (by go_simp; rfl) (by go_simp) ?_
  refine eqf_cons (by rfl) (by go_simp; rfl) (by go_simp; rfl) (by go_simp) ?_
  exact eqf_last (by rfl) (by go_simp; rfl) (by go_simp; rfl) (by go_simp)
theorem run_eqRows34 (d : Nat) (w : World) (a b c a' b' c' : Row6) : (Op.equalIn (d + 3) 34 (.agg (row18 a b c)) (.agg (row18 a' b' c'))).run Try.prog w = .ok (eqRows a b c a' b' c') w := by
  unfold row18 eqRows eqRow
  refine eqA_arr Try.underlying34 (by kernel_rfl) (c := 6) (by kernel_rfl) ?_
  refine eqi_cons (by go_simp) (by go_simp) (eqA33 (d + 0) w _ _ _ _ _ _ _ _ _ _ _ _) ?_
  refine eqi_cons (by go_simp) (by go_simp) (eqA33 (d + 0) w _ _ _ _ _ _ _ _ _ _ _ _) ?_
  exact eqi_last (by go_simp) (by go_simp) (eqA33 (d + 0) w _ _ _ _ _ _ _ _ _ _ _ _)
theorem eqRow_refl (a : Row6) : eqRow a a = true := by simp [eqRow]
def lombardlaw16_AllowRolls.f (o0 o1 o2 : Int) (l : List S40) : Option Bool := some true
theorem rroll_eq {ra rb rc : Row6} {re : Int} {l : List S40} {o0 o1 o2 : Int} (h : allow_Roll.g o0 o1 o2 (l.map cv) = (ra, rb, rc, re)) (A : Option Addr) (c : Nat) (w : World) (hr : Kd.C k40 w A l.length l) (hc : l.length ≤ c) :
    Calls Try.prog 12 #[.agg #[.int .i64 o0, .int .i64 o1, .int .i64 o2], .slice A l.length c] w fun e w' => e = .returned (.tuple #[.agg (row18 ra rb rc), .int .i64 re]) ∧ Below w.heap.size w w' := by
  have := lombardref16_Roll.go_ A c l o0 o1 o2 w hr hc
  rw [h] at this
  exact this
set_option maxHeartbeats 8000000 in
set_option maxRecDepth 100000 in
theorem lombardlaw16_AllowRolls.walk (A : Option Addr) (c : Nat) (l : List S40) (o0 o1 o2 : Int) (w : World) (hr : Kd.C k40 w A l.length l) (hc : l.length ≤ c) (hl : l.length ≤ 5000)
    {ra rb rc : Row6} {re : Int} (rh : Aside0 (allow_Roll.g o0 o1 o2 (l.map cv) = (ra, rb, rc, re))) :
    Calls Try.prog 3 #[.agg #[.int .i64 o0, .int .i64 o1, .int .i64 o2], .slice A l.length c] w fun e w' => e = .returned (.bool true) ∧ Below w.heap.size w w' := by
  have HR := Aside0.mk hr
  have HC := Aside0.mk hc
  clear hr hc
  go_enter Try.func3, Try.ntmps3
  go_wp2_with fail
  with_reducible refine (lombardlaw16_alive.calls true _ rfl).mono ?_
  rintro e w1 ⟨rfl, hb⟩
  have HB := Aside0.mk (below_step (w := w) (below_alloc (Below.refl _ _) _) hb)
  have BK3 := Aside0.mk (blk_below (blk_new w (.cells #[.int .i64 o0, .int .i64 o1, .int .i64 o2] 22)) hb)
  clear hb
  go_wp2_with fail
  have n_HB := Aside0.mk (below_drew1 HB.out)
  have n_BK3 := Aside0.mk (blk_drew BK3.out)
  clear HB BK3
  have HB := n_HB
  clear n_HB
  have BK3 := n_BK3
  clear n_BK3
  refine start_ (n := 10) (S := fun w' => w'.cell? ⟨w.heap.size, 0, none⟩ = some (.int .i64 o0) ∧ w'.cell? ⟨w.heap.size, 1, none⟩ = some (.int .i64 o1) ∧ w'.cell? ⟨w.heap.size, 2, none⟩ = some (.int .i64 o2)) (ds := [8]) #[false, false, false, false, false, false, false, false, false, false] (by kernel_rfl) rfl rfl ⟨(blk_cell BK3.out 0).trans rfl, (blk_cell BK3.out 1).trans rfl, (blk_cell BK3.out 2).trans rfl⟩ (fun hHeld => ?_)
  generalize w1.drew = w2 at HB BK3 hHeld ⊢
  refine pure_ (i := 1) (N := some 16) (v := ?_) (a' := ?_) #[false, true, false, false, false, false, false, false, false, false] rfl rfl (by kernel_rfl) (fun _ _ _ h => h) (Or.inl ⟨by rfl, ?_⟩) ?_ ?_
  rotate_left
  · intro w'
    go_simp
    with_reducible rfl
  rotate_left
  · simp only [Act.put, List.setIfInBounds_toArray, List.set_cons_zero, List.set_cons_succ, i64_w, i32_w]
    rfl
  refine take_ (i := 0) (N := some 15) (v := ?_) (a' := ?_) #[true, true, false, false, false, false, false, false, false, false] rfl rfl (by kernel_rfl) (fun _ _ _ h => h) (Or.inl ⟨by rfl, ?_⟩) hHeld ?_ ?_
  rotate_left
  · rintro w' ⟨s0, s1, s2⟩
    go_simp
    with_reducible rfl
  rotate_left
  · simp only [Act.put, List.setIfInBounds_toArray, List.set_cons_zero, List.set_cons_succ, i64_w, i32_w]
    rfl
  refine join_ (σ := Option Addr × Nat × Nat) 2 #[true, true, true, true, true, true, true, true, false, false] (fun s_ => [(17, .slice s_.1 ((l).map cv).length s_.2.1), (18, .tuple #[.agg (row18 ra rb rc), .int .i64 re]), (14, .tuple #[.agg (row18 ra rb rc), .int .i64 re]), (19, .agg (row18 ra rb rc)), (20, .int .i64 re), (5, .pointer (some ⟨s_.2.2, 0, none⟩))]) (fun s_ w' => (w'.cell? ⟨w.heap.size, 0, none⟩ = some (.int .i64 o0)) ∧ (w'.cell? ⟨w.heap.size, 1, none⟩ = some (.int .i64 o1)) ∧ (w'.cell? ⟨w.heap.size, 2, none⟩ = some (.int .i64 o2)) ∧ (w'.heap[w.heap.size]? = some (.cells #[.int .i64 o0, .int .i64 o1, .int .i64 o2] 22 (0, 0))) ∧ (w'.heap[s_.2.2]? = some (.cells (row18 Row6.z Row6.z Row6.z) 27 (0, 0))) ∧ (w.heap.size + 1 ≤ s_.2.2) ∧ (Below w.heap.size w w')) ?_ ?_
  rotate_left
  · intro hCont
    refine two_ (i := 2) (j := 7) (Ni := some 17) (Nj := some 5) #[true, true, true, false, false, false, false, false, false, false] #[true, true, false, false, false, false, false, true, false, false] rfl rfl rfl rfl (by kernel_rfl) (by decide) (by decide) (fun K hK => ?_) (fun K hK => ?_)
    · skip
      refine goes_ Try.func11 (by kernel_rfl) rfl #[.slice (A) (l).length (c)] (by rfl) rfl rfl (by (try simp only [List.map_toArray, List.map_cons, List.map_nil]); first | done | rfl) ?_
      with_reducible refine (to_pl (A) (c) (l) _ (Kd.C_below HR.out HB.out) HC.out (by omega)).mono ?_
      rintro e y2_ ⟨v_, rfl, ho, hb⟩
      refine ⟨_, rfl, ?_⟩
      have m_R17 := Aside0.mk (Kd.R_lower ho (below_size HB.out))
      have n_HB := Aside0.mk (below_step HB.out hb)
      have n_BK3 := Aside0.mk (blk_below BK3.out hb)
      clear HB
      have HB := n_HB
      clear n_HB
      clear BK3
      have BK3 := n_BK3
      clear n_BK3
      clear hb
      have R17 := m_R17
      clear m_R17
      clear ho
      obtain ⟨A17, c17, eo⟩ := Kd.R_slice R17.out
      subst eo
      refine hK.out _ _ ⟨(blk_cell BK3.out 0).trans rfl, (blk_cell BK3.out 1).trans rfl, (blk_cell BK3.out 2).trans rfl⟩ (fun hHeld => ?_)
      clear hK K
      refine norm_ (a' := ?_) ?_ ?_
      rotate_left
      · show Act.put _ (some 17) _ = _
        simp only [Act.put, List.setIfInBounds_toArray, List.set_cons_zero, List.set_cons_succ, i64_w, i32_w]
        rfl
      refine two_ (i := 3) (j := 7) (Ni := some 18) (Nj := some 5) #[true, true, true, true, false, false, false, false, false, false] #[true, true, true, false, false, false, false, true, false, false] rfl rfl rfl rfl (by kernel_rfl) (by decide) (by decide) (fun K hK => ?_) (fun K hK => ?_)
      · skip
        refine goes_ Try.func10 (by kernel_rfl) rfl #[.agg #[.int .i64 o0, .int .i64 o1, .int .i64 o2], .slice A17 (l.map cv).length c17] (by rfl) rfl rfl (by (try simp only [List.map_toArray, List.map_cons, List.map_nil]); first | done | rfl) ?_
        with_reducible refine (roll_eq rh.out _ _ _ (Kd.R_reads' R17.out).2.2 (Kd.R_reads' R17.out).2.1).mono ?_
        rintro e y3_ ⟨rfl, hb⟩
        refine ⟨_, rfl, ?_⟩
        have n_HB := Aside0.mk (below_step HB.out hb)
        have n_BK3 := Aside0.mk (blk_below BK3.out hb)
        clear HB
        have HB := n_HB
        clear n_HB
        clear BK3
        have BK3 := n_BK3
        clear n_BK3
        clear hb
        clear R17
        refine hK.out _ _ ⟨(blk_cell BK3.out 0).trans rfl, (blk_cell BK3.out 1).trans rfl, (blk_cell BK3.out 2).trans rfl⟩ (fun hHeld => ?_)
        clear hK K
        refine norm_ (a' := ?_) ?_ ?_
        rotate_left
        · show Act.put _ (some 18) _ = _
          simp only [Act.put, List.setIfInBounds_toArray, List.set_cons_zero, List.set_cons_succ, i64_w, i32_w]
          rfl
        refine pure_ (i := 4) (N := some 14) (v := ?_) (a' := ?_) #[true, true, true, true, true, false, false, false, false, false] rfl rfl (by kernel_rfl) (fun _ _ _ h => h) (Or.inl ⟨by rfl, ?_⟩) ?_ ?_
        rotate_left
        · intro w'
          go_simp
          with_reducible rfl
        rotate_left
        · simp only [Act.put, List.setIfInBounds_toArray, List.set_cons_zero, List.set_cons_succ, i64_w, i32_w]
          rfl
        refine pure_ (i := 5) (N := some 19) (v := ?_) (a' := ?_) #[true, true, true, true, true, true, false, false, false, false] rfl rfl (by kernel_rfl) (fun _ _ _ h => h) (Or.inl ⟨by rfl, ?_⟩) ?_ ?_
        rotate_left
        · intro w'
          go_simp
          with_reducible rfl
        rotate_left
        · simp only [Act.put, List.setIfInBounds_toArray, List.set_cons_zero, List.set_cons_succ, i64_w, i32_w]
          rfl
        refine pure_ (i := 6) (N := some 20) (v := ?_) (a' := ?_) #[true, true, true, true, true, true, true, false, false, false] rfl rfl (by kernel_rfl) (fun _ _ _ h => h) (Or.inl ⟨by rfl, ?_⟩) ?_ ?_
        rotate_left
        · intro w'
          go_simp
          with_reducible rfl
        rotate_left
        · simp only [Act.put, List.setIfInBounds_toArray, List.set_cons_zero, List.set_cons_succ, i64_w, i32_w]
          rfl
        refine one_ (i := 7) (N := some 5) #[true, true, true, true, true, true, true, true, false, false] rfl rfl (by kernel_rfl) (by decide) (fun K hK => ?_)
        refine box_step ?hg (N := 5) ?hd (cs := row18 Row6.z Row6.z Row6.z) (t := 27) ?hr ?_; (case hd => rfl); (case hg => rfl); (case hr => first | (go_simp; done) | (go_simp; rfl))
        intro g5 hg y4_ hbox hb
        have GE5 : w.heap.size + 1 ≤ g5 := by have := blk_lt BK3.out; omega
        have m_ := Aside0.mk hbox
        have n_HB := Aside0.mk (below_step HB.out hb)
        have n_BK3 := Aside0.mk (blk_below BK3.out hb)
        clear HB
        have HB := n_HB
        clear n_HB
        clear BK3
        have BK3 := n_BK3
        clear n_BK3
        clear hb hbox hg
        have BKg5 := m_
        clear m_
        refine hK.out _ _ ⟨(blk_cell BK3.out 0).trans rfl, (blk_cell BK3.out 1).trans rfl, (blk_cell BK3.out 2).trans rfl⟩ (fun hHeld => ?_)
        clear hK K
        refine norm_ (a' := ?_) ?_ ?_
        rotate_left
        · show Act.put _ (some 5) _ = _
          simp only [Act.put, List.setIfInBounds_toArray, List.set_cons_zero, List.set_cons_succ, i64_w, i32_w]
          rfl
        exact norm_ (by simp only [putAll, Act.put, List.setIfInBounds_toArray, List.set_cons_zero, List.set_cons_succ]) (hCont (A17, c17, g5) _ ⟨(blk_cell BK3.out 0).trans rfl, (blk_cell BK3.out 1).trans rfl, (blk_cell BK3.out 2).trans rfl, BK3.out, BKg5.out, GE5, HB.out⟩)
      · skip
        refine box_step ?hg (N := 5) ?hd (cs := row18 Row6.z Row6.z Row6.z) (t := 27) ?hr ?_; (case hd => rfl); (case hg => rfl); (case hr => first | (go_simp; done) | (go_simp; rfl))
        intro g5 hg y5_ hbox hb
        have GE5 : w.heap.size + 1 ≤ g5 := by have := blk_lt BK3.out; omega
        have m_ := Aside0.mk hbox
        have n_HB := Aside0.mk (below_step HB.out hb)
        have n_BK3 := Aside0.mk (blk_below BK3.out hb)
        have n_R17 := Aside0.mk (Kd.R_below R17.out hb)
        clear HB
        have HB := n_HB
        clear n_HB
        clear BK3
        have BK3 := n_BK3
        clear n_BK3
        clear R17
        have R17 := n_R17
        clear n_R17
        clear hb hbox hg
        have BKg5 := m_
        clear m_
        refine hK.out _ _ ⟨(blk_cell BK3.out 0).trans rfl, (blk_cell BK3.out 1).trans rfl, (blk_cell BK3.out 2).trans rfl⟩ (fun hHeld => ?_)
        clear hK K
        refine norm_ (a' := ?_) ?_ ?_
        rotate_left
        · show Act.put _ (some 5) _ = _
          simp only [Act.put, List.setIfInBounds_toArray, List.set_cons_zero, List.set_cons_succ, i64_w, i32_w]
          rfl
        refine one_ (i := 3) (N := some 18) #[true, true, true, true, false, false, false, true, false, false] rfl rfl (by kernel_rfl) (by decide) (fun K hK => ?_)
        refine goes_ Try.func10 (by kernel_rfl) rfl #[.agg #[.int .i64 o0, .int .i64 o1, .int .i64 o2], .slice A17 (l.map cv).length c17] (by rfl) rfl rfl (by (try simp only [List.map_toArray, List.map_cons, List.map_nil]); first | done | rfl) ?_
        with_reducible refine (roll_eq rh.out _ _ _ (Kd.R_reads' R17.out).2.2 (Kd.R_reads' R17.out).2.1).mono ?_
        rintro e y6_ ⟨rfl, hb⟩
        refine ⟨_, rfl, ?_⟩
        have n_HB := Aside0.mk (below_step HB.out hb)
        have n_BK3 := Aside0.mk (blk_below BK3.out hb)
        have n_BKg5 := Aside0.mk (blk_below BKg5.out hb)
        clear HB
        have HB := n_HB
        clear n_HB
        clear BK3
        have BK3 := n_BK3
        clear n_BK3
        clear BKg5
        have BKg5 := n_BKg5
        clear n_BKg5
        clear hb
        clear R17
        refine hK.out _ _ ⟨(blk_cell BK3.out 0).trans rfl, (blk_cell BK3.out 1).trans rfl, (blk_cell BK3.out 2).trans rfl⟩ (fun hHeld => ?_)
        clear hK K
        refine norm_ (a' := ?_) ?_ ?_
        rotate_left
        · show Act.put _ (some 18) _ = _
          simp only [Act.put, List.setIfInBounds_toArray, List.set_cons_zero, List.set_cons_succ, i64_w, i32_w]
          rfl
        refine pure_ (i := 4) (N := some 14) (v := ?_) (a' := ?_) #[true, true, true, true, true, false, false, true, false, false] rfl rfl (by kernel_rfl) (fun _ _ _ h => h) (Or.inl ⟨by rfl, ?_⟩) ?_ ?_
        rotate_left
        · intro w'
          go_simp
          with_reducible rfl
        rotate_left
        · simp only [Act.put, List.setIfInBounds_toArray, List.set_cons_zero, List.set_cons_succ, i64_w, i32_w]
          rfl
        refine pure_ (i := 5) (N := some 19) (v := ?_) (a' := ?_) #[true, true, true, true, true, true, false, true, false, false] rfl rfl (by kernel_rfl) (fun _ _ _ h => h) (Or.inl ⟨by rfl, ?_⟩) ?_ ?_
        rotate_left
        · intro w'
          go_simp
          with_reducible rfl
        rotate_left
        · simp only [Act.put, List.setIfInBounds_toArray, List.set_cons_zero, List.set_cons_succ, i64_w, i32_w]
          rfl
        refine pure_ (i := 6) (N := some 20) (v := ?_) (a' := ?_) #[true, true, true, true, true, true, true, true, false, false] rfl rfl (by kernel_rfl) (fun _ _ _ h => h) (Or.inl ⟨by rfl, ?_⟩) ?_ ?_
        rotate_left
        · intro w'
          go_simp
          with_reducible rfl
        rotate_left
        · simp only [Act.put, List.setIfInBounds_toArray, List.set_cons_zero, List.set_cons_succ, i64_w, i32_w]
          rfl
        exact norm_ (by simp only [putAll, Act.put, List.setIfInBounds_toArray, List.set_cons_zero, List.set_cons_succ]) (hCont (A17, c17, g5) _ ⟨(blk_cell BK3.out 0).trans rfl, (blk_cell BK3.out 1).trans rfl, (blk_cell BK3.out 2).trans rfl, BK3.out, BKg5.out, GE5, HB.out⟩)
    · skip
      refine box_step ?hg (N := 5) ?hd (cs := row18 Row6.z Row6.z Row6.z) (t := 27) ?hr ?_; (case hd => rfl); (case hg => rfl); (case hr => first | (go_simp; done) | (go_simp; rfl))
      intro g5 hg y7_ hbox hb
      have GE5 : w.heap.size + 1 ≤ g5 := by have := blk_lt BK3.out; omega
      have m_ := Aside0.mk hbox
      have n_HB := Aside0.mk (below_step HB.out hb)
      have n_BK3 := Aside0.mk (blk_below BK3.out hb)
      clear HB
      have HB := n_HB
      clear n_HB
      clear BK3
      have BK3 := n_BK3
      clear n_BK3
      clear hb hbox hg
      have BKg5 := m_
      clear m_
      refine hK.out _ _ ⟨(blk_cell BK3.out 0).trans rfl, (blk_cell BK3.out 1).trans rfl, (blk_cell BK3.out 2).trans rfl⟩ (fun hHeld => ?_)
      clear hK K
      refine norm_ (a' := ?_) ?_ ?_
      rotate_left
      · show Act.put _ (some 5) _ = _
        simp only [Act.put, List.setIfInBounds_toArray, List.set_cons_zero, List.set_cons_succ, i64_w, i32_w]
        rfl
      refine one_ (i := 2) (N := some 17) #[true, true, true, false, false, false, false, true, false, false] rfl rfl (by kernel_rfl) (by decide) (fun K hK => ?_)
      refine goes_ Try.func11 (by kernel_rfl) rfl #[.slice (A) (l).length (c)] (by rfl) rfl rfl (by (try simp only [List.map_toArray, List.map_cons, List.map_nil]); first | done | rfl) ?_
      with_reducible refine (to_pl (A) (c) (l) _ (Kd.C_below HR.out HB.out) HC.out (by omega)).mono ?_
      rintro e y8_ ⟨v_, rfl, ho, hb⟩
      refine ⟨_, rfl, ?_⟩
      have m_R17 := Aside0.mk (Kd.R_lower ho (below_size HB.out))
      have n_HB := Aside0.mk (below_step HB.out hb)
      have n_BK3 := Aside0.mk (blk_below BK3.out hb)
      have n_BKg5 := Aside0.mk (blk_below BKg5.out hb)
      clear HB
      have HB := n_HB
      clear n_HB
      clear BK3
      have BK3 := n_BK3
      clear n_BK3
      clear BKg5
      have BKg5 := n_BKg5
      clear n_BKg5
      clear hb
      have R17 := m_R17
      clear m_R17
      clear ho
      obtain ⟨A17, c17, eo⟩ := Kd.R_slice R17.out
      subst eo
      refine hK.out _ _ ⟨(blk_cell BK3.out 0).trans rfl, (blk_cell BK3.out 1).trans rfl, (blk_cell BK3.out 2).trans rfl⟩ (fun hHeld => ?_)
      clear hK K
      refine norm_ (a' := ?_) ?_ ?_
      rotate_left
      · show Act.put _ (some 17) _ = _
        simp only [Act.put, List.setIfInBounds_toArray, List.set_cons_zero, List.set_cons_succ, i64_w, i32_w]
        rfl
      refine one_ (i := 3) (N := some 18) #[true, true, true, true, false, false, false, true, false, false] rfl rfl (by kernel_rfl) (by decide) (fun K hK => ?_)
      refine goes_ Try.func10 (by kernel_rfl) rfl #[.agg #[.int .i64 o0, .int .i64 o1, .int .i64 o2], .slice A17 (l.map cv).length c17] (by rfl) rfl rfl (by (try simp only [List.map_toArray, List.map_cons, List.map_nil]); first | done | rfl) ?_
      with_reducible refine (roll_eq rh.out _ _ _ (Kd.R_reads' R17.out).2.2 (Kd.R_reads' R17.out).2.1).mono ?_
      rintro e y9_ ⟨rfl, hb⟩
      refine ⟨_, rfl, ?_⟩
      have n_HB := Aside0.mk (below_step HB.out hb)
      have n_BK3 := Aside0.mk (blk_below BK3.out hb)
      have n_BKg5 := Aside0.mk (blk_below BKg5.out hb)
      clear HB
      have HB := n_HB
      clear n_HB
      clear BK3
      have BK3 := n_BK3
      clear n_BK3
      clear BKg5
      have BKg5 := n_BKg5
      clear n_BKg5
      clear hb
      clear R17
      refine hK.out _ _ ⟨(blk_cell BK3.out 0).trans rfl, (blk_cell BK3.out 1).trans rfl, (blk_cell BK3.out 2).trans rfl⟩ (fun hHeld => ?_)
      clear hK K
      refine norm_ (a' := ?_) ?_ ?_
      rotate_left
      · show Act.put _ (some 18) _ = _
        simp only [Act.put, List.setIfInBounds_toArray, List.set_cons_zero, List.set_cons_succ, i64_w, i32_w]
        rfl
      refine pure_ (i := 4) (N := some 14) (v := ?_) (a' := ?_) #[true, true, true, true, true, false, false, true, false, false] rfl rfl (by kernel_rfl) (fun _ _ _ h => h) (Or.inl ⟨by rfl, ?_⟩) ?_ ?_
      rotate_left
      · intro w'
        go_simp
        with_reducible rfl
      rotate_left
      · simp only [Act.put, List.setIfInBounds_toArray, List.set_cons_zero, List.set_cons_succ, i64_w, i32_w]
        rfl
      refine pure_ (i := 5) (N := some 19) (v := ?_) (a' := ?_) #[true, true, true, true, true, true, false, true, false, false] rfl rfl (by kernel_rfl) (fun _ _ _ h => h) (Or.inl ⟨by rfl, ?_⟩) ?_ ?_
      rotate_left
      · intro w'
        go_simp
        with_reducible rfl
      rotate_left
      · simp only [Act.put, List.setIfInBounds_toArray, List.set_cons_zero, List.set_cons_succ, i64_w, i32_w]
        rfl
      refine pure_ (i := 6) (N := some 20) (v := ?_) (a' := ?_) #[true, true, true, true, true, true, true, true, false, false] rfl rfl (by kernel_rfl) (fun _ _ _ h => h) (Or.inl ⟨by rfl, ?_⟩) ?_ ?_
      rotate_left
      · intro w'
        go_simp
        with_reducible rfl
      rotate_left
      · simp only [Act.put, List.setIfInBounds_toArray, List.set_cons_zero, List.set_cons_succ, i64_w, i32_w]
        rfl
      exact norm_ (by simp only [putAll, Act.put, List.setIfInBounds_toArray, List.set_cons_zero, List.set_cons_succ]) (hCont (A17, c17, g5) _ ⟨(blk_cell BK3.out 0).trans rfl, (blk_cell BK3.out 1).trans rfl, (blk_cell BK3.out 2).trans rfl, BK3.out, BKg5.out, GE5, HB.out⟩)
  clear hHeld HB BK3
  rintro ⟨A17, c17, g5⟩ y1_ ⟨hS0_, hS1_, hS2_, h_BK3, h_BKg5, h_GE5, h_HB⟩
  have BK3 : Aside0 (y1_.heap[w.heap.size]? = some (.cells #[.int .i64 o0, .int .i64 o1, .int .i64 o2] 22 (0, 0))) := Aside0.mk (h_BK3)
  clear h_BK3
  have BKg5 : Aside0 (y1_.heap[g5]? = some (.cells (row18 Row6.z Row6.z Row6.z) 27 (0, 0))) := Aside0.mk (h_BKg5)
  clear h_BKg5
  have GE5 : w.heap.size + 1 ≤ g5 := h_GE5
  clear h_GE5
  have HB : Aside0 (Below w.heap.size w y1_) := Aside0.mk (h_HB)
  clear h_HB
  have hHeld : y1_.cell? ⟨w.heap.size, 0, none⟩ = some (.int .i64 o0) ∧ y1_.cell? ⟨w.heap.size, 1, none⟩ = some (.int .i64 o1) ∧ y1_.cell? ⟨w.heap.size, 2, none⟩ = some (.int .i64 o2) := ⟨hS0_, hS1_, hS2_⟩
  clear hS0_ hS1_ hS2_
  refine norm_ (a' := ?_) ?_ ?_
  rotate_left
  · simp only [putAll, Act.put, List.setIfInBounds_toArray, List.set_cons_zero, List.set_cons_succ]
    rfl
  refine last_ (i := 8) (N := none) #[true, true, true, true, true, true, true, true, true, false] rfl rfl (by kernel_rfl) (by decide) (fun K hK => ?_)
  refine skip_ (w1 := y1_.setRow g5 (row18 ra rb rc)) (by rfl) rfl (store_run 27 (.tmp 5) (.tmp 19) rfl g5 _ rfl rfl 27 _ BKg5.out (by kernel_rfl) rfl (row18_all _ _ _)) ?_
  have n_HB := Aside0.mk (row_below (g := g5) HB.out (by omega) (row18 ra rb rc))
  have n_BK3 := Aside0.mk ((setRow_other y1_ g5 w.heap.size (row18 ra rb rc) (by omega)).trans BK3.out)
  have n_BK5 := Aside0.mk (setRow_heap _ _ _ (row18 ra rb rc) _ _ BKg5.out)
  clear BK3 BKg5 HB
  generalize y1_.setRow g5 (row18 ra rb rc) = y5 at n_HB n_BK3 n_BK5 ⊢
  have HB := n_HB
  clear n_HB
  have BK3 := n_BK3
  clear n_BK3
  have BK5 := n_BK5
  clear n_BK5
  refine hK.out _ _ ?_
  clear hK K
  refine pure_ (i := 9) (N := some 6) (v := ?_) (a' := ?_) #[true, true, true, true, true, true, true, true, true, true] rfl rfl (by kernel_rfl) (fun _ _ _ h => h) (Or.inl ⟨by rfl, ?_⟩) ?_ ?_
  rotate_left
  · intro w'
    go_simp
    with_reducible rfl
  rotate_left
  · simp only [Act.put, List.setIfInBounds_toArray, List.set_cons_zero, List.set_cons_succ, i64_w, i32_w]
    rfl
  refine done_ (by kernel_rfl) ?_
  clear hHeld
  have hk0 : y5.cell? ⟨w.heap.size, 0, none⟩ = some (.int .i64 o0) := blk_cell BK3.out 0
  have hk1 : y5.cell? ⟨w.heap.size, 1, none⟩ = some (.int .i64 o1) := blk_cell BK3.out 1
  have hk2 : y5.cell? ⟨w.heap.size, 2, none⟩ = some (.int .i64 o2) := blk_cell BK3.out 2
  go_wp2_with fail
  with_reducible refine (rroll_eq rh.out A c _ (Kd.C_below HR.out HB.out) HC.out).mono ?_
  rintro e y6 ⟨rfl, hb⟩
  have n_HB := Aside0.mk (below_alloc (below_step HB.out hb) (.cells #[.int .i64 0, .int .i64 0, .int .i64 0, .int .i64 0, .int .i64 0, .int .i64 0, .int .i64 0, .int .i64 0, .int .i64 0, .int .i64 0, .int .i64 0, .int .i64 0, .int .i64 0, .int .i64 0, .int .i64 0, .int .i64 0, .int .i64 0, .int .i64 0] 34))
  have n_BK5 := Aside0.mk (blk_alloc (blk_below BK5.out hb) (.cells #[.int .i64 0, .int .i64 0, .int .i64 0, .int .i64 0, .int .i64 0, .int .i64 0, .int .i64 0, .int .i64 0, .int .i64 0, .int .i64 0, .int .i64 0, .int .i64 0, .int .i64 0, .int .i64 0, .int .i64 0, .int .i64 0, .int .i64 0, .int .i64 0] 34))
  have n_BK7 := Aside0.mk (show (y6.alloc (.cells #[.int .i64 0, .int .i64 0, .int .i64 0, .int .i64 0, .int .i64 0, .int .i64 0, .int .i64 0, .int .i64 0, .int .i64 0, .int .i64 0, .int .i64 0, .int .i64 0, .int .i64 0, .int .i64 0, .int .i64 0, .int .i64 0, .int .i64 0, .int .i64 0] 34)).heap[y6.heap.size]? = some (.cells (row18 Row6.z Row6.z Row6.z) 34 (0, 0)) from blk_new y6 _)
  have hg7 := blk_lt (blk_below BK5.out hb)
  clear HB BK3 BK5 hk0 hk1 hk2 hb
  go_wp2_with ((with_reducible refine gate_store (t := 34) (p := 7) (v := .tmp 25) rfl ?_); refine Shut.out ?_)
  unfold Shut
  generalize y6.alloc (.cells #[.int .i64 0, .int .i64 0, .int .i64 0, .int .i64 0, .int .i64 0, .int .i64 0, .int .i64 0, .int .i64 0, .int .i64 0, .int .i64 0, .int .i64 0, .int .i64 0, .int .i64 0, .int .i64 0, .int .i64 0, .int .i64 0, .int .i64 0, .int .i64 0] 34) = y7 at n_HB n_BK5 n_BK7 ⊢
  generalize y6.heap.size = g7 at n_BK7 hg7 ⊢
  have HB := n_HB
  have BK5 := n_BK5
  have BK7 := n_BK7
  clear n_HB n_BK5 n_BK7
  refine store_rowTo rfl 34 (.tmp 7) (.tmp 25) rfl rfl g7 (row18 ra rb rc) rfl rfl 34 _ BK7.out (by kernel_rfl) rfl (row18_all _ _ _) ?_
  have n_HB := Aside0.mk (row_below (g := g7) HB.out (by omega) (row18 ra rb rc))
  have n_BK5 := Aside0.mk ((setRow_other y7 g7 g5 (row18 ra rb rc) (by omega)).trans BK5.out)
  have n_BK7 := Aside0.mk (setRow_heap _ _ _ (row18 ra rb rc) _ _ BK7.out)
  clear HB BK5 BK7
  generalize y7.setRow g7 (row18 ra rb rc) = y8 at n_HB n_BK5 n_BK7 ⊢
  have HB := n_HB
  have BK5 := n_BK5
  have BK7 := n_BK7
  clear n_HB n_BK5 n_BK7
  go_wp2_with fail
  have n_HB := Aside0.mk (below_drew1 HB.out)
  have n_BK5 := Aside0.mk (blk_drew BK5.out)
  have n_BK7 := Aside0.mk (blk_drew BK7.out)
  clear HB BK5 BK7
  have HB := n_HB
  clear n_HB
  have BK5 := n_BK5
  clear n_BK5
  have BK7 := n_BK7
  clear n_BK7
  have heq : ∀ d W, (Op.equalIn (d + 3) 34 (.agg (row18 ra rb rc)) (.agg (row18 ra rb rc))).run Try.prog W = .ok true W := fun d W => by rw [run_eqRows34]; simp [eqRows, eqRow_refl]
  refine start_ (n := 10) (S := fun w' => w'.heap[g5]? = some (.cells (row18 ra rb rc) 27 (0, 0)) ∧ w'.heap[g7]? = some (.cells (row18 ra rb rc) 34 (0, 0))) (ds := []) #[false, false, false, false, false, false, false, false, false, false] (by kernel_rfl) rfl rfl ⟨BK5.out, BK7.out⟩ (fun hHeld => ?_)
  generalize y8.drew = y9 at HB BK5 BK7 hHeld ⊢
  refine take_ (i := 0) (N := some 27) (v := ?_) (a' := ?_) #[true, false, false, false, false, false, false, false, false, false] rfl rfl (by kernel_rfl) (fun _ _ _ h => h) (Or.inl ⟨by rfl, ?_⟩) hHeld ?_ ?_
  rotate_left
  · rintro w' ⟨s0, s1⟩
    refine load_run 27 (.tmp 5) ?_ g5 ?_ 27 _ (0, 0) _ s0 Try.underlying27 rfl (by kernel_rfl) <;> rfl
  rotate_left
  · simp only [Act.put, List.setIfInBounds_toArray, List.set_cons_zero, List.set_cons_succ, i64_w, i32_w]
    rfl
  refine take_ (i := 2) (N := some 29) (v := ?_) (a' := ?_) #[true, false, true, false, false, false, false, false, false, false] rfl rfl (by kernel_rfl) (fun _ _ _ h => h) (Or.inl ⟨by rfl, ?_⟩) hHeld ?_ ?_
  rotate_left
  · rintro w' ⟨s0, s1⟩
    refine load_run 34 (.tmp 7) ?_ g7 ?_ 34 _ (0, 0) _ s1 Try.underlying34 rfl (by kernel_rfl) <;> rfl
  rotate_left
  · simp only [Act.put, List.setIfInBounds_toArray, List.set_cons_zero, List.set_cons_succ, i64_w, i32_w]
    rfl
  refine one_ (i := 1) (N := some 28) #[true, true, true, false, false, false, false, false, false, false] rfl rfl (by kernel_rfl) (by decide) (fun K hK => ?_)
  refine goes_ Try.func13 (by kernel_rfl) rfl #[.agg (row18 ra rb rc)] (by rfl) rfl rfl (by (try simp only [List.map_toArray, List.map_cons, List.map_nil]); first | done | rfl) ?_
  with_reducible refine (lombardlaw16_rows.go_ ra rb rc _).mono ?_
  rintro e y10_ ⟨rfl, hb⟩
  refine ⟨_, rfl, ?_⟩
  have n_HB := Aside0.mk (below_step HB.out hb)
  have n_BK5 := Aside0.mk (blk_below BK5.out hb)
  have n_BK7 := Aside0.mk (blk_below BK7.out hb)
  clear HB
  have HB := n_HB
  clear n_HB
  clear BK5
  have BK5 := n_BK5
  clear n_BK5
  clear BK7
  have BK7 := n_BK7
  clear n_BK7
  clear hb
  refine hK.out _ _ ⟨BK5.out, BK7.out⟩ (fun hHeld => ?_)
  clear hK K
  refine norm_ (a' := ?_) ?_ ?_
  rotate_left
  · show Act.put _ (some 28) _ = _
    simp only [Act.put, List.setIfInBounds_toArray, List.set_cons_zero, List.set_cons_succ, i64_w, i32_w]
    rfl
  refine pure_ (i := 3) (N := some 30) (v := ?_) (a' := ?_) #[true, true, true, true, false, false, false, false, false, false] rfl rfl (by kernel_rfl) (fun _ _ _ h => h) (Or.inl ⟨by rfl, ?_⟩) ?_ ?_
  rotate_left
  · intro w'
    go_simp
    with_reducible rfl
  rotate_left
  · simp only [Act.put, List.setIfInBounds_toArray, List.set_cons_zero, List.set_cons_succ, i64_w, i32_w]
    rfl
  refine pure_ (i := 4) (N := some 31) (v := ?_) (a' := ?_) #[true, true, true, true, true, false, false, false, false, false] rfl rfl (by kernel_rfl) (fun _ _ _ h => h) (Or.inl ⟨by rfl, ?_⟩) ?_ ?_
  rotate_left
  · intro w'
    go_simp
    with_reducible rfl
  rotate_left
  · simp only [Act.put, List.setIfInBounds_toArray, List.set_cons_zero, List.set_cons_succ, i64_w, i32_w]
    rfl
  refine pure_ (i := 5) (N := some 32) (v := ?_) (a' := ?_) #[true, true, true, true, true, true, false, false, false, false] rfl rfl (by kernel_rfl) (fun _ _ _ h => h) (Or.inl ⟨by rfl, ?_⟩) ?_ ?_
  rotate_left
  · intro w'
    go_simp
    with_reducible rfl
  rotate_left
  · simp only [Act.put, List.setIfInBounds_toArray, List.set_cons_zero, List.set_cons_succ, i64_w, i32_w]
    rfl
  refine pure_ (i := 6) (N := some 33) (v := ?_) (a' := ?_) #[true, true, true, true, true, true, true, false, false, false] rfl rfl (by kernel_rfl) (fun _ _ _ h => h) (Or.inl ⟨by rfl, ?_⟩) ?_ ?_
  rotate_left
  · intro w'
    go_simp
    with_reducible rfl
  rotate_left
  · simp only [Act.put, List.setIfInBounds_toArray, List.set_cons_zero, List.set_cons_succ, i64_w, i32_w]
    rfl
  refine pure_ (i := 7) (N := some 34) (v := ?_) (a' := ?_) #[true, true, true, true, true, true, true, true, false, false] rfl rfl (by kernel_rfl) (fun _ _ _ h => h) (Or.inl ⟨by rfl, ?_⟩) ?_ ?_
  rotate_left
  · intro w'
    go_simp
    with_reducible rfl
  rotate_left
  · simp only [Act.put, List.setIfInBounds_toArray, List.set_cons_zero, List.set_cons_succ, i64_w, i32_w]
    rfl
  refine pure_ (i := 8) (N := some 35) (v := ?_) (a' := ?_) #[true, true, true, true, true, true, true, true, true, false] rfl rfl (by kernel_rfl) (fun _ _ _ h => h) (Or.inl ⟨by rfl, ?_⟩) ?_ ?_
  rotate_left
  · intro w'
    go_simp
    with_reducible rfl
  rotate_left
  · simp only [Act.put, List.setIfInBounds_toArray, List.set_cons_zero, List.set_cons_succ, i64_w, i32_w]
    rfl
  refine pure_ (i := 9) (N := some 4) (v := ?_) (a' := ?_) #[true, true, true, true, true, true, true, true, true, true] rfl rfl (by kernel_rfl) (fun _ _ _ h => h) (Or.inl ⟨by rfl, ?_⟩) ?_ ?_
  rotate_left
  · intro w'
    go_simp
    with_reducible rfl
  rotate_left
  · simp only [Act.put, List.setIfInBounds_toArray, List.set_cons_zero, List.set_cons_succ, i64_w, i32_w]
    rfl
  refine done_ (by kernel_rfl) ?_
  go_wp2_with fail
  go_ret
  exact ⟨rfl, HB.out⟩
set_option maxHeartbeats 8000000 in
set_option maxRecDepth 100000 in
theorem lombardlaw16_AllowRolls.big (A : Option Addr) (c : Nat) (l : List S40) (o0 o1 o2 : Int) (w : World) (hl : 5000 < l.length) :
    Calls Try.prog 3 #[.agg #[.int .i64 o0, .int .i64 o1, .int .i64 o2], .slice A l.length c] w fun e w' => e = .returned (.bool true) ∧ Below w.heap.size w w' := by
  have hb0 : decide (5000 < (l.length : Int)) = true := decide_eq_true (by omega)
  clear hl
  go_enter Try.func3, Try.ntmps3
  go_wp2_with fail
  with_reducible refine (lombardlaw16_alive.calls true _ rfl).mono ?_
  rintro e w1 ⟨rfl, hb⟩
  have HB := Aside0.mk (below_step (w := w) (below_alloc (Below.refl _ _) _) hb)
  clear hb
  go_wp2_with fail
  go_ret
  exact ⟨rfl, HB.out⟩
theorem lombardlaw16_AllowRolls.calls (a0_0 : Int) (a0_1 : Int) (a0_2 : Int) (A1 : Option Addr) (c1 : Nat) (l1 : List (S40)) (r : Bool) (w : World) (hr1 : Kd.C k40 w A1 l1.length l1) (hc1 : l1.length ≤ c1) (h : lombardlaw16_AllowRolls.f a0_0 a0_1 a0_2 l1 = some r) :
    Calls Try.prog 3 #[.agg #[.int .i64 a0_0, .int .i64 a0_1, .int .i64 a0_2], .slice A1 l1.length c1] w fun e w' => e = .returned (.bool r) ∧ Below w.heap.size w w' := by
  obtain rfl := Option.some.inj h
  by_cases hl : 5000 < l1.length
  · exact lombardlaw16_AllowRolls.big A1 c1 l1 a0_0 a0_1 a0_2 w hl
  · exact lombardlaw16_AllowRolls.walk A1 c1 l1 a0_0 a0_1 a0_2 w hr1 hc1 (by omega) ⟨rfl⟩


end Go.Proofs.Ytgeeffnokedllaa.Print
