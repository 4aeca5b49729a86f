-- written by this session's program wip/hybrid.py over the kit's printer, and by hand. Not trusted: Lean checks it.
import Derived.Test.YtgeeffnokedllaaPrint0
import Derived.Test.YtgeeffnokedllaaPrint1
import Derived.Test.YtgeeffnokedllaaPrint3
import Derived.Test.YtgeeffnokedllaaPrint4
import Derived.Test.YtgeeffnokedllaaPrint5
import Derived.Test.YtgeeffnokedllaaPrint6
namespace Go.Proofs.Ytgeeffnokedllaa.Print
open Go.RowKit Go.Proofs.YtgeeffnokedllaaW.PrintWords Go.Proofs.YtgeeffnokedllaaW.PrintLast Go.Proofs.YtgeeffnokedllaaW.PrintMore
attribute [local go_sem] max2_int min2_int max_two min_two max_three min_three max_four min_four   -- for this text's walks alone
set_option linter.unusedVariables false
set_option linter.unusedSimpArgs false

/-! ### lombardlaw16_to: function 11 -/
theorem info40 : (Try.prog.info? 40).map (fun i => (i.zero, i.size, i.bytes)) = some (some (.agg #[(.int .i64 0), (.int .i64 0), (.int .i64 0), (.int .i64 0), (.int .i64 0)]), 5, 40) := by kernel_rfl
theorem info50 : (Try.prog.info? 50).map (fun i => (i.zero, i.size, i.bytes)) = some (some (.agg #[(.int .i64 0), (.int .i64 0), (.int .i64 0), (.int .i64 0), (.int .i64 0)]), 5, 40) := by kernel_rfl
def lombardlaw16_to.l0 : Nat → List (S50) → List (S40) → Int → Int → Option ((List (S50)))
  | 0, _, _, _, _ => none
  | k + 1, x3, x6, x7, x8 => if x8 < x7 then (if 0 ≤ x8 then (if x8 < (x6.length : Int) then (if x3.length < 3518437208883 then (lombardlaw16_to.l0 k (x3 ++ [(⟨(rd_T40 x6 x8).f0, (rd_T40 x6 x8).f1, (rd_T40 x6 x8).f2, (rd_T40 x6 x8).f3, (rd_T40 x6 x8).f4⟩ : S50)]) x6 x7 (wrap64 (x8 + 1))) else (none)) else (none)) else (none)) else (some x3)
def lombardlaw16_to.f (k : Nat) (l0 : List (S40)) : Option ((List (S50))) := lombardlaw16_to.l0 k ([] : List (S50)) l0 (l0.length : Int) 0
theorem lombardlaw16_to.mono_l : ∀ k, (∀ y0 y1 y2 y3, LeO (lombardlaw16_to.l0 k y0 y1 y2 y3) (lombardlaw16_to.l0 (k + 1) y0 y1 y2 y3))
  | 0 => fun _ _ _ _ r h => by simp [lombardlaw16_to.l0] at h
  | k + 1 => by
    have ih0 := lombardlaw16_to.mono_l k
    · intro y0 y1 y2 y3
      unfold lombardlaw16_to.l0
      repeat' first
      | (with_reducible exact ih0 _ _ _ _)
      | (with_reducible exact LeO.refl _)
      | (with_reducible exact LeO.none _)
      | (with_reducible refine LeO.ite ?_ ?_)
      | (with_reducible refine LeO.bind ?_ (fun _ => ?_))
      | exact ih0 _ _ _ _
      | exact LeO.none _
      | refine LeO.ite ?_ ?_
      | refine LeO.bind ?_ (fun _ => ?_)
theorem lombardlaw16_to.mono : ∀ a0 k, LeO (lombardlaw16_to.f k a0) (lombardlaw16_to.f (k + 1) a0) := by
  intro a0 k
  have ih0 := lombardlaw16_to.mono_l k
  unfold lombardlaw16_to.f
  repeat' first
      | (with_reducible exact ih0 _ _ _ _)
      | (with_reducible exact LeO.refl _)
      | (with_reducible exact LeO.none _)
      | (with_reducible refine LeO.ite ?_ ?_)
      | (with_reducible refine LeO.bind ?_ (fun _ => ?_))
      | exact ih0 _ _ _ _
      | exact LeO.none _
      | refine LeO.ite ?_ ?_
      | refine LeO.bind ?_ (fun _ => ?_)
set_option maxHeartbeats 8000000 in
set_option maxRecDepth 100000 in
theorem lombardlaw16_to.calls (k : Nat) (A0 : Option Addr) (c0 : Nat) (l0 : List (S40)) (r : List (S50)) (w : World) (hr0 : Kd.C k40 w A0 l0.length l0) (hc0 : l0.length ≤ c0) (h : lombardlaw16_to.f k l0 = some r) :
    Calls Try.prog 11 #[.slice A0 l0.length c0] w fun e w' => ∃ v0_ : Value, e = .returned (v0_) ∧ Kd.R k50 50 w' w.heap.size (fun _ => True) v0_ r ∧ Below w.heap.size w w' := by
  have hu40 := Try.underlying40
  have HR0 := Aside0.mk hr0
  have HC0 := Aside0.mk hc0
  clear hr0 hc0
  have HB := Aside0.mk (Below.refl w.heap.size w)
  have H : (lombardlaw16_to.l0 k ([] : List (S50)) l0 (l0.length : Int) 0) = some r := h
  clear h
  have H' := Aside0.mk H
  clear H
  go_enter Try.func11, Try.ntmps11
  go_wp2
  go_loopg [3, 8] k (fun kq v3 v8 w' => ∃ (x3_1 : List (S50)) (x8_1 : Int), v8 = .int .i64 x8_1 ∧ Aside0 (lombardlaw16_to.l0 kq x3_1 l0 (l0.length : Int) x8_1 = some r) ∧ Aside0 (kq ≤ k) ∧ Aside0 (Kd.R k50 50 w' w.heap.size (fun _ => True) v3 x3_1) ∧ Aside0 (Below w.heap.size w w'))
  case atStart => exact ⟨(([] : List (S50))), (0), (by first | rfl | (simp; done) | (simp [*]; done)), H', ⟨Nat.le_refl _⟩, ⟨by first | exact Kd.R_nil _ _ _ _ _ | exact Kd.N_nil _ _ _ _ _ | exact Kd.V_nil _ _ _ _ _ | exact Kd.Q_nil _ _ _ _ _ | exact Kd.S_nil _ _ _ _ _⟩, ⟨by repeat (first | (with_reducible first | exact HB.out | apply below_alloc | apply pw_below_drewN | apply below_drew1) | exact HB.out)⟩⟩
  case round =>
    clear H'
    try clear c1
    obtain ⟨x3_1, x8_1, rfl, HA, HK1, HO_3, HB⟩ := hrel
    cases gk with
    | zero => exact absurd HA.out (by simp [lombardlaw16_to.l0])
    | succ k1 =>
      have H := HA.out
      clear HA
      simp only [lombardlaw16_to.l0] at H
      by_cases c2 : x8_1 < (l0.length : Int)
      · rw [if_pos c2] at H
        have c2b0 : decide (x8_1 < (l0.length : Int)) = true := decide_eq_true c2
        clear c2
        by_cases c3 : 0 ≤ x8_1
        · rw [if_pos c3] at H
          have c3b0 : decide (0 ≤ x8_1) = true := decide_eq_true c3
          clear c3
          by_cases c4 : x8_1 < (l0.length : Int)
          · rw [if_pos c4] at H
            have c4b0 : decide (x8_1 < (l0.length : Int)) = true := decide_eq_true c4
            clear c4
            by_cases c5 : x3_1.length < 3518437208883
            · rw [if_pos c5] at H
              have LMc5 := Aside0.mk c5
              clear c5
              obtain ⟨y116, hy116⟩ : ∃ y_ : List (S50), y_ = (x3_1 ++ [(⟨(rd_T40 l0 x8_1).f0, (rd_T40 l0 x8_1).f1, (rd_T40 l0 x8_1).f2, (rd_T40 l0 x8_1).f3, (rd_T40 l0 x8_1).f4⟩ : S50)]) := ⟨_, rfl⟩
              replace H : (lombardlaw16_to.l0 k1 y116 l0 (l0.length : Int) (wrap64 (x8_1 + 1))) = some r := by first | (rw [hy116]; with_reducible exact H) | (have H2_ := (Option.bind_some _ _).symm.trans H; rw [hy116]; with_reducible exact H2_) | (have H2_ := (Option.bind_some _ _).symm.trans H; with_reducible exact H2_) | with_reducible exact H | (rw [hy116]; exact H) | exact H
              have Ny116 := Aside0.mk hy116
              clear hy116
              have H' := Aside0.mk H
              clear H
              have p114 : 0 ≤ (x8_1 : Int) := of_decide_eq_true (by first | (with_reducible assumption) | assumption)
              have q114 : x8_1 < (l0.length : Int) := of_decide_eq_true (by first | (with_reducible assumption) | assumption)
              obtain ⟨ad114, e114, hx114_0, hx114_1, hx114_2, hx114_3, hx114_4⟩ := at_T40 HR0.out x8_1 p114 q114
              cases e114
              replace hx114_0 := (HB.out.cell (World.block_lt_of_cell? w _ hx114_0)).trans hx114_0
              replace hx114_1 := (HB.out.cell (World.block_lt_of_cell? w _ hx114_1)).trans hx114_1
              replace hx114_2 := (HB.out.cell (World.block_lt_of_cell? w _ hx114_2)).trans hx114_2
              replace hx114_3 := (HB.out.cell (World.block_lt_of_cell? w _ hx114_3)).trans hx114_3
              replace hx114_4 := (HB.out.cell (World.block_lt_of_cell? w _ hx114_4)).trans hx114_4
              replace p114 := eq_true p114
              replace q114 := eq_true q114
              go_wp2_with (first | ((with_reducible refine gate_dst (N := 5) rfl ?_); refine box_event ?hg (N := 5) ?hd (cs := #[.int .i64 0, .int .i64 0, .int .i64 0, .int .i64 0, .int .i64 0]) (t := 40) ?hr ?_; (case hd => rfl); (case hg => rfl); (case hr => first | (go_simp; done) | (go_simp; rfl)); intro gb115 hg w6 hbox hb; have n0_ := Aside0.mk (Kd.R_below (by (with_reducible repeat (first | apply Kd.R_alloc | apply Kd.R_drewN | apply Kd.R_drew)); exact HO_3.out) hb); have n1_ := Aside0.mk (below_step (by repeat (first | (with_reducible first | exact HB.out | apply below_alloc | apply pw_below_drewN | apply below_drew1) | exact HB.out)) hb); have n2_ := Aside0.mk (hbox); have n3_ := Aside0.mk ((by rw [hg]; exact (below_size (by repeat (first | (with_reducible first | exact HB.out | apply below_alloc | apply pw_below_drewN | apply below_drew1) | exact HB.out))) : w.heap.size ≤ gb115)); have n4_ := Aside0.mk ((by rw [hg]; exact (below_size (by repeat (first | (with_reducible first | exact HB.out | apply below_alloc | apply pw_below_drewN | apply below_drew1) | exact HB.out))) : w.heap.size ≤ gb115)); clear HO_3; clear HB; have HO_3 := n0_; have HB := n1_; have BK115 := n2_; have GW115 := n3_; have GE115 := n4_; clear n0_ n1_ n2_ n3_ n4_; clear hb hbox hg; have hcz7_0 : w6.cell? ⟨gb115, 0, none⟩ = some (.int .i64 0) := (blk_cell BK115.out 0).trans rfl; have hcz7_1 : w6.cell? ⟨gb115, 1, none⟩ = some (.int .i64 0) := (blk_cell BK115.out 1).trans rfl; have hcz7_2 : w6.cell? ⟨gb115, 2, none⟩ = some (.int .i64 0) := (blk_cell BK115.out 2).trans rfl; have hcz7_3 : w6.cell? ⟨gb115, 3, none⟩ = some (.int .i64 0) := (blk_cell BK115.out 3).trans rfl; have hcz7_4 : w6.cell? ⟨gb115, 4, none⟩ = some (.int .i64 0) := (blk_cell BK115.out 4).trans rfl; have hfz7_0 := blk_frozen BK115.out 0; have hfz7_1 := blk_frozen BK115.out 1; have hfz7_2 := blk_frozen BK115.out 2; have hfz7_3 := blk_frozen BK115.out 3; have hfz7_4 := blk_frozen BK115.out 4) | ((with_reducible refine gate_builtin (b := .append) (xs := #[.tmp 12, .tmp 14]) rfl ?_); at_builtin; refine Kd.R_append k50 (w0 := w) w.heap.size rfl (.tmp 12) (.tmp 14) 31 50 (.agg #[(.int .i64 0), (.int .i64 0), (.int .i64 0), (.int .i64 0), (.int .i64 0)]) 40 rfl Try.underlying31 info50 rfl (by decide) (by omega) u3 x3_1 (⟨(rd_T40 l0 x8_1).f0, (rd_T40 l0 x8_1).f1, (rd_T40 l0 x8_1).f2, (rd_T40 l0 x8_1).f3, (rd_T40 l0 x8_1).f4⟩ : S50) [.int .i64 ((rd_T40 l0 x8_1).f0), .int .i64 ((rd_T40 l0 x8_1).f1), .int .i64 ((rd_T40 l0 x8_1).f2), .int .i64 ((rd_T40 l0 x8_1).f3), .int .i64 ((rd_T40 l0 x8_1).f4)] (fun _ => True) (fun _ => False) rfl (by first | (go_simp; done) | (go_simp; rfl)) ?aP (fun _ hk => hk.elim) ?aF ?aO ?aB ?aS ?aL ?_; (case aP => exact k50_mkM _ _ _ (⟨(rd_T40 l0 x8_1).f0, (rd_T40 l0 x8_1).f1, (rd_T40 l0 x8_1).f2, (rd_T40 l0 x8_1).f3, (rd_T40 l0 x8_1).f4⟩ : S50)); (case aB => exact (by repeat (first | (with_reducible first | exact HB.out | apply below_alloc | apply pw_below_drewN | apply below_drew1 | refine below_set ?_ GE115.out) | exact HB.out))); (case aF => exact (fun _ _ => trivial)); (case aO => exact (by (with_reducible repeat (first | apply Kd.R_alloc | apply Kd.R_drewN | apply Kd.R_drew)); exact Kd.R_mono (Kd.R_far (p := ⟨gb115, 4, none⟩) (Kd.R_far (p := ⟨gb115, 3, none⟩) (Kd.R_far (p := ⟨gb115, 2, none⟩) (Kd.R_far (p := ⟨gb115, 1, none⟩) (Kd.R_far (p := ⟨gb115, 0, none⟩) (Kd.R_types HO_3.out BK115.out (by decide)) (fun _ hk => hk.2) (.int .i64 ((rd_T40 l0 x8_1).f0))) (fun _ hk => hk.2) (.int .i64 ((rd_T40 l0 x8_1).f1))) (fun _ hk => hk.2) (.int .i64 ((rd_T40 l0 x8_1).f2))) (fun _ hk => hk.2) (.int .i64 ((rd_T40 l0 x8_1).f3))) (fun _ hk => hk.2) (.int .i64 ((rd_T40 l0 x8_1).f4))) (fun _ hk => trivial))); (case aS => exact (below_size (by repeat (first | (with_reducible first | exact HB.out | apply below_alloc | apply pw_below_drewN | apply below_drew1 | refine below_set ?_ GE115.out) | exact HB.out)))); (case aL => have := LMc5.out; omega); intro v117 w8 ho hb hg hat; rw [← Ny116.out] at ho; have n0_ := Aside0.mk (blk_grown (g := gb115) (o := .cells #[.int .i64 ((rd_T40 l0 x8_1).f0), .int .i64 ((rd_T40 l0 x8_1).f1), .int .i64 ((rd_T40 l0 x8_1).f2), .int .i64 ((rd_T40 l0 x8_1).f3), .int .i64 ((rd_T40 l0 x8_1).f4)] 40 (0, 0)) (by (with_reducible repeat (first | refine blk_drewN ?_ _ | refine blk_drew ?_ | refine blk_alloc ?_ _)); refine blk_put (cs := #[.int .i64 ((rd_T40 l0 x8_1).f0), .int .i64 ((rd_T40 l0 x8_1).f1), .int .i64 ((rd_T40 l0 x8_1).f2), .int .i64 ((rd_T40 l0 x8_1).f3), .int .i64 0]) ?_ 4 _ rfl; (with_reducible repeat (first | refine blk_drewN ?_ _ | refine blk_drew ?_ | refine blk_alloc ?_ _)); refine blk_put (cs := #[.int .i64 ((rd_T40 l0 x8_1).f0), .int .i64 ((rd_T40 l0 x8_1).f1), .int .i64 ((rd_T40 l0 x8_1).f2), .int .i64 0, .int .i64 0]) ?_ 3 _ rfl; (with_reducible repeat (first | refine blk_drewN ?_ _ | refine blk_drew ?_ | refine blk_alloc ?_ _)); refine blk_put (cs := #[.int .i64 ((rd_T40 l0 x8_1).f0), .int .i64 ((rd_T40 l0 x8_1).f1), .int .i64 0, .int .i64 0, .int .i64 0]) ?_ 2 _ rfl; (with_reducible repeat (first | refine blk_drewN ?_ _ | refine blk_drew ?_ | refine blk_alloc ?_ _)); refine blk_put (cs := #[.int .i64 ((rd_T40 l0 x8_1).f0), .int .i64 0, .int .i64 0, .int .i64 0, .int .i64 0]) ?_ 1 _ rfl; (with_reducible repeat (first | refine blk_drewN ?_ _ | refine blk_drew ?_ | refine blk_alloc ?_ _)); refine blk_put (cs := #[.int .i64 0, .int .i64 0, .int .i64 0, .int .i64 0, .int .i64 0]) ?_ 0 _ rfl; (with_reducible repeat (first | refine blk_drewN ?_ _ | refine blk_drew ?_ | refine blk_alloc ?_ _)); exact BK115.out) hg (Kd.R_ne HO_3.out BK115.out (by decide))); have n1_ := Aside0.mk (hb); have n2_ := Aside0.mk (ho); clear BK115; clear HB; clear HO_3; have BK115 := n0_; have HB := n1_; have HO118 := n2_; clear n0_ n1_ n2_; clear ho hb hg hat))
              go_roundg k1
              case measure => have := HK1.out; omega
              case rel => exact ⟨(y116), (wrap64 (x8_1 + 1)), (by first | rfl | (simp; done) | (simp [*]; done)), H', ⟨by have := HK1.out; omega⟩, ⟨by (with_reducible repeat (first | apply Kd.R_alloc | apply Kd.R_drewN | apply Kd.R_drew)); exact HO118.out⟩, ⟨by repeat (first | (with_reducible first | exact HB.out | apply below_alloc | apply pw_below_drewN | apply below_drew1 | refine below_set ?_ GE115.out) | exact HB.out)⟩⟩
            · rw [if_neg c5] at H
              exact absurd H (by simp)
          · rw [if_neg c4] at H
            exact absurd H (by simp)
        · rw [if_neg c3] at H
          exact absurd H (by simp)
      · rw [if_neg c2] at H
        have c2b0 : decide (x8_1 < (l0.length : Int)) = false := decide_eq_false c2
        clear c2
        obtain rfl := Option.some.inj H
        go_wp2
        go_ret
        exact ⟨_, by first | rfl | (simp [errW_none, errW_some] <;> rfl) | (simp [*, errW_none, errW_some] <;> rfl), by (with_reducible repeat (first | apply Kd.R_alloc | apply Kd.R_drewN | apply Kd.R_drew)); exact HO_3.out, by repeat (first | (with_reducible first | exact HB.out | apply below_alloc | apply pw_below_drewN | apply below_drew1) | exact HB.out)⟩

theorem eqA26 (d : Nat) (w : World) (x0 y0 : Int) (x1 y1 : Int) (x2 y2 : Int) (x3 y3 : Int) (x4 y4 : Int) (x5 y5 : Int) :
    (Op.equalIn (d + 2) 26 (.agg #[.int .i64 x0, .int .i64 x1, .int .i64 x2, .int .i64 x3, .int .i64 x4, .int .i64 x5]) (.agg #[.int .i64 y0, .int .i64 y1, .int .i64 y2, .int .i64 y3, .int .i64 y4, .int .i64 y5])).run Try.prog w = .ok (x0 == y0 && (x1 == y1 && (x2 == y2 && (x3 == y3 && (x4 == y4 && (x5 == y5)))))) w := by
  refine eqA_of Try.underlying26 (by kernel_rfl) ?_
  refine eqf_cons (by rfl) (by go_simp; rfl) (by go_simp; rfl) (by go_simp) ?_
  refine eqf_cons (by rfl) (by go_simp; rfl) (by go_simp; rfl) (by go_simp) ?_
  refine eqf_cons (by rfl) (by go_simp; rfl) (by go_simp; rfl) (by go_simp) ?_
  refine eqf_cons (by rfl) (by go_simp; rfl) (by go_simp; rfl) (by go_simp) ?_
  refine eqf_cons (by rfl) (by go_simp; rfl) (by go_simp; rfl) (by go_simp) ?_
  exact eqf_last (by rfl) (by go_simp; rfl) (by go_simp; rfl) (by go_simp)
/-- A change, told to the program. -/
def cv (x : S40) : S50 := ⟨x.f0, x.f1, x.f2, x.f3, x.f4⟩
theorem to_l0 : ∀ (n : Nat) (k i : Nat) (l : List S40) (acc : List S50), l.length ≤ 100000 → i ≤ l.length → l.length - i = n → n < k → acc.length ≤ i → lombardlaw16_to.l0 k acc l (l.length : Int) (i : Int) = some (acc ++ (l.drop i).map cv) := by
  intro n
  induction n with
  | zero =>
    intro k i l acc hm hi hn hk ha
    obtain ⟨k, rfl⟩ : ∃ m, k = m + 1 := ⟨k - 1, by omega⟩
    obtain rfl : i = l.length := by omega
    simp only [lombardlaw16_to.l0]
    rw [if_neg (by omega), List.drop_length]
    simp
  | succ n ih =>
    intro k i l acc hm hi hn hk ha
    obtain ⟨k, rfl⟩ : ∃ m, k = m + 1 := ⟨k - 1, by omega⟩
    have hlt : i < l.length := by omega
    have ew : wrap64 ((i : Int) + 1) = ((i + 1 : Nat) : Int) := by unfold wrap64; omega
    have e : rd_T40 l (i : Int) = l[i] := by simp [rd_T40, List.getElem?_eq_getElem hlt]
    simp only [lombardlaw16_to.l0]
    rw [if_pos (by omega), if_pos (by omega), if_pos (by omega), if_pos (by omega), ew, ih k (i + 1) l _ hm (by omega) (by omega) (by omega) (by simp; omega), e, List.drop_eq_getElem_cons hlt, List.map_cons, List.append_assoc]
    rfl
theorem to_f (l : List S40) (hm : l.length ≤ 100000) : lombardlaw16_to.f (l.length + 1) l = some (l.map cv) := by
  have := to_l0 l.length (l.length + 1) 0 l [] hm (by omega) (by omega) (by omega) (by simp)
  simpa [lombardlaw16_to.f] using this
theorem to_pl (A : Option Addr) (c : Nat) (l : List S40) (w : World) (hr : Kd.C k40 w A l.length l) (hc : l.length ≤ c) (hm : l.length ≤ 100000) :
    Calls Try.prog 11 #[.slice A l.length c] w fun e w' => ∃ v0_ : Value, e = .returned (v0_) ∧ Kd.R k50 50 w' w.heap.size (fun _ => True) v0_ (l.map cv) ∧ Below w.heap.size w w' :=
  lombardlaw16_to.calls (l.length + 1) A c l (l.map cv) w hr hc (to_f l hm)
theorem roll_eq {ra rb rc : Row6} {re : Int} {l : List S50} {o0 o1 o2 : Int} (h : allow_Roll.g o0 o1 o2 l = (ra, rb, rc, re)) (A : Option Addr) (c : Nat) (w : World) (hr : Kd.C k50 w A l.length l) (hc : l.length ≤ c) :
    Calls Try.prog 10 #[.agg #[.int .i64 o0, .int .i64 o1, .int .i64 o2], .slice A l.length c] w fun e w' => e = .returned (.tuple #[.agg (row18 ra rb rc), .int .i64 re]) ∧ Below w.heap.size w w' := by
  have := allow_Roll.go_ A c l o0 o1 o2 w hr hc
  rw [h] at this
  exact this
def eqRow (a b : Row6) : Bool := a.o == b.o && (a.i == b.i && (a.u == b.u && (a.n == b.n && (a.w == b.w && (a.c == b.c)))))
def eqRows (a b c a' b' c' : Row6) : Bool := eqRow a a' && (eqRow b b' && eqRow c c')
theorem run_eqRows (d : Nat) (w : World) (a b c a' b' c' : Row6) : (Op.equalIn (d + 3) 27 (.agg (row18 a b c)) (.agg (row18 a' b' c'))).run Try.prog w = .ok (eqRows a b c a' b' c') w := by
  unfold row18 eqRows eqRow
  refine eqA_arr Try.underlying27 (by kernel_rfl) (c := 6) (by kernel_rfl) ?_
  refine eqi_cons (by go_simp) (by go_simp) (eqA26 (d + 0) w _ _ _ _ _ _ _ _ _ _ _ _) ?_
  refine eqi_cons (by go_simp) (by go_simp) (eqA26 (d + 0) w _ _ _ _ _ _ _ _ _ _ _ _) ?_
  exact eqi_last (by go_simp) (by go_simp) (eqA26 (d + 0) w _ _ _ _ _ _ _ _ _ _ _ _)
theorem add_ok (a b : Int) (h : -9223372036854775808 ≤ a + b ∧ a + b ≤ 9223372036854775807) : money_Add.f a b = some (a + b, 0) := by
  have e : wrap64 (a + b) = a + b := by unfold wrap64; omega
  unfold money_Add.f money_sum_int64.f
  rw [e]
  by_cases c1 : a < 0
  · by_cases c2 : b < 0
    · rw [decide_eq_true c1, decide_eq_true c2, decide_eq_true (show a + b < 0 by omega)]; rfl
    · rw [decide_eq_true c1, decide_eq_false c2]; rfl
  · by_cases c2 : b < 0
    · rw [decide_eq_false c1, decide_eq_true c2]; rfl
    · rw [decide_eq_false c1, decide_eq_false c2, decide_eq_false (show ¬ a + b < 0 by omega)]; rfl
theorem sub_ok (a b : Int) (h : -9223372036854775808 ≤ a - b ∧ a - b ≤ 9223372036854775807) : money_Sub.f a b = some (a - b, 0) := by
  have e : wrap64 (a - b) = a - b := by unfold wrap64; omega
  unfold money_Sub.f
  rw [e]
  by_cases c1 : a < 0
  · by_cases c2 : b < 0
    · rw [decide_eq_true c1, decide_eq_true c2]; rfl
    · rw [decide_eq_true c1, decide_eq_false c2, decide_eq_true (show a - b < 0 by omega)]; rfl
  · by_cases c2 : b < 0
    · rw [decide_eq_false c1, decide_eq_true c2, decide_eq_false (show ¬ a - b < 0 by omega)]; rfl
    · rw [decide_eq_false c1, decide_eq_false c2]; rfl
def okW (x : Int) : Prop := -1152921504606846976 ≤ x ∧ x ≤ 1152921504606846976
theorem close_ok (o i u n w c : Int) (ho : okW o) (hi : okW i) (hu : okW u) (hn : okW n) (hw : okW w) : allow_Row_close.f o i u n w c = some (o + i + n - u - w, 0) := by
  unfold okW at *
  unfold allow_Row_close.f
  rw [add_ok o i (by omega)]
  simp only [Option.bind_some, if_true]
  rw [add_ok (o + i) n (by omega)]
  simp only [Option.bind_some, if_true]
  rw [sub_ok (o + i + n) u (by omega)]
  simp only [Option.bind_some, if_true]
  rw [sub_ok (o + i + n - u) w (by omega)]
  simp only [Option.bind_some, if_true]
theorem sums_bd (key amt : S50 → Int) (l : List S50) (k : Int) (h : ∀ x ∈ l, -1125899906842624 ≤ amt x ∧ amt x ≤ 1125899906842624) :
    -(1125899906842624 * (l.length : Int)) ≤ allow_Change.sums key amt l k ∧ allow_Change.sums key amt l k ≤ 1125899906842624 * (l.length : Int) := by
  induction l with
  | nil => simp [allow_Change.sums]
  | cons x t ih =>
    have h1 := h x List.mem_cons_self
    have h2 := ih (fun y hy => h y (List.mem_cons_of_mem _ hy))
    simp only [allow_Change.sums, List.length_cons]
    split <;> omega
theorem amt_bd {x : S50} (h : allow_Change.ok x) : (-1125899906842624 ≤ allow_Change.amt21 x ∧ allow_Change.amt21 x ≤ 1125899906842624) ∧ (-1125899906842624 ≤ allow_Change.amt23 x ∧ allow_Change.amt23 x ≤ 1125899906842624) ∧ (-1125899906842624 ≤ allow_Change.amt24 x ∧ allow_Change.amt24 x ≤ 1125899906842624) ∧ (-1125899906842624 ≤ allow_Change.amt25 x ∧ allow_Change.amt25 x ≤ 1125899906842624) := by
  unfold allow_Change.ok at h
  refine ⟨?_, ?_, ?_, ?_⟩
  · unfold allow_Change.amt21 allow_Change.moved; split <;> omega
  · unfold allow_Change.amt23 allow_Change.moved; split <;> omega
  · unfold allow_Change.amt24; omega
  · unfold allow_Change.amt25; omega
theorem sums_app2 (key amt : S50 → Int) (a b : List S50) (k : Int) : allow_Change.sums key amt (a ++ b) k = allow_Change.sums key amt a k + allow_Change.sums key amt b k := by
  induction a with
  | nil => simp [allow_Change.sums]
  | cons x t ih => simp only [List.cons_append, allow_Change.sums, ih]; omega
/-- What a row of few good changes is. -/
theorem row_ok (l : List S50) (o k : Int) (h : ∀ x ∈ l, allow_Change.ok x) (hl : l.length ≤ 1000) (ho : okW o) : allow_Roll.row l o k = ⟨o, allow_Change.sums allow_Change.key21 allow_Change.amt21 l k, allow_Change.sums allow_Change.key23 allow_Change.amt23 l k, allow_Change.sums allow_Change.key24 allow_Change.amt24 l k, allow_Change.sums allow_Change.key25 allow_Change.amt25 l k,
    o + allow_Change.sums allow_Change.key21 allow_Change.amt21 l k + allow_Change.sums allow_Change.key24 allow_Change.amt24 l k - allow_Change.sums allow_Change.key23 allow_Change.amt23 l k - allow_Change.sums allow_Change.key25 allow_Change.amt25 l k⟩ := by
  have h1 := sums_bd allow_Change.key21 allow_Change.amt21 l k (fun x hx => (amt_bd (h x hx)).1)
  have h2 := sums_bd allow_Change.key23 allow_Change.amt23 l k (fun x hx => (amt_bd (h x hx)).2.1)
  have h3 := sums_bd allow_Change.key24 allow_Change.amt24 l k (fun x hx => (amt_bd (h x hx)).2.2.1)
  have h4 := sums_bd allow_Change.key25 allow_Change.amt25 l k (fun x hx => (amt_bd (h x hx)).2.2.2)
  have hl' : (l.length : Int) ≤ 1000 := by omega
  unfold allow_Roll.row
  rw [close_ok o _ _ _ _ 0 ho (by unfold okW; omega) (by unfold okW; omega) (by unfold okW; omega) (by unfold okW; omega)]
  rfl
/-- What Roll says where it says no error. -/
theorem g_ok {o0 o1 o2 : Int} {l : List S50} {a b c : Row6} (h : allow_Roll.g o0 o1 o2 l = (a, b, c, 0)) : (∀ x ∈ l, allow_Change.ok x) ∧ allow_Roll.okO o0 o1 o2 ∧ a = allow_Roll.row l o0 1 ∧ b = allow_Roll.row l o1 2 ∧ c = allow_Roll.row l o2 3 := by
  unfold allow_Roll.g at h
  split at h
  · simp at h
  · split at h
    · simp at h
    · rename_i hx
      split at h
      · simp at h
      · rename_i hy
        simp only [Prod.mk.injEq] at h
        exact ⟨by simpa using hx, by simpa using hy, h.1.symm, h.2.1.symm, h.2.2.1.symm⟩


end Go.Proofs.Ytgeeffnokedllaa.Print
