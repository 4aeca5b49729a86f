-- written by this session's program wip/hybrid.py over the kit's printer, and by hand. Not trusted: Lean checks it.
import Derived.Test.YtpolkjmdkeengaaPrint0
import Derived.Test.YtpolkjmdkeengaaPrint7
import Derived.Test.YtpolkjmdkeengaaPrint14
namespace Go.Proofs.Ytpolkjmdkeengaa.Print
open Go.RowKit Go.Proofs.YtpolkjmdkeengaaW.PrintWords Go.Proofs.YtpolkjmdkeengaaW.PrintLast Go.Proofs.YtpolkjmdkeengaaW.PrintMore
attribute [local go_sem] max2_int min2_int max_two min_two max_three min_three max_four min_four   -- for this text's walks alone
set_option linter.unusedVariables false
set_option linter.unusedSimpArgs false

/-! ### lombardref07_Merge: function 10 -/
def lombardref07_Merge.rise : Int → List S40 → Int
  | _, [] => 0
  | last, x :: t => if x.f0 ≤ last then 5 else if 3652059 < x.f0 then 5 else if -10000000000000 ≤ x.f1 ∧ x.f1 ≤ 10000000000000 then lombardref07_Merge.rise x.f0 t else 2
def lombardref07_Merge.e (l : List S40) : Int := if 600 < l.length then 10 else lombardref07_Merge.rise 0 l
def lombardref07_Merge.on (l : List S40) (day : Int) : Int := match l with | [] => 0 | x :: t => if x.f0 = day then x.f1 else lombardref07_Merge.on t day
def lombardref07_Merge.nx (day : Int) : List S40 → Int → Int
  | [], n => n
  | x :: t, n => lombardref07_Merge.nx day t (if day < x.f0 ∧ (n = 0 ∨ x.f0 < n) then x.f0 else n)
def lombardref07_Merge.go (a b : List S40) : Nat → Int → List S40 → Option (List S40 × Int)
  | 0, _, _ => none
  | k + 1, day, acc =>
    if lombardref07_Merge.nx day b (lombardref07_Merge.nx day a 0) = 0 then (if 600 < acc.length then some ([], 10) else some (acc, 0)) else
    if flow_Flow_22.may (lombardref07_Merge.on a (lombardref07_Merge.nx day b (lombardref07_Merge.nx day a 0)) + lombardref07_Merge.on b (lombardref07_Merge.nx day b (lombardref07_Merge.nx day a 0))) = true then
      lombardref07_Merge.go a b k (lombardref07_Merge.nx day b (lombardref07_Merge.nx day a 0)) (if lombardref07_Merge.on a (lombardref07_Merge.nx day b (lombardref07_Merge.nx day a 0)) + lombardref07_Merge.on b (lombardref07_Merge.nx day b (lombardref07_Merge.nx day a 0)) = 0 then acc else acc ++ [⟨lombardref07_Merge.nx day b (lombardref07_Merge.nx day a 0), lombardref07_Merge.on a (lombardref07_Merge.nx day b (lombardref07_Merge.nx day a 0)) + lombardref07_Merge.on b (lombardref07_Merge.nx day b (lombardref07_Merge.nx day a 0))⟩])
    else some ([], 3)
def lombardref07_Merge.f (l0 l1 : List S40) : Option (List S40 × Int) := if lombardref07_Merge.e l0 ≠ 0 then some ([], lombardref07_Merge.e l0) else if lombardref07_Merge.e l1 ≠ 0 then some ([], lombardref07_Merge.e l1) else lombardref07_Merge.go l0 l1 1300 0 []
theorem lombardref07_Merge.may_eq (n : Int) : lombardref01_May.f n = some (flow_Flow_22.may n) := by
  unfold lombardref01_May.f flow_Flow_22.may
  by_cases c : n ≥ -10000000000000
  · rw [if_pos c, decide_eq_true (show -10000000000000 ≤ n from c), Bool.true_and]
  · rw [if_neg c, decide_eq_false (show ¬ -10000000000000 ≤ n from c), Bool.false_and]
theorem lombardref07_Merge.rd_eq (l : List S40) (i : Nat) (h : i < l.length) : rd_T40 l (i : Int) = l[i] := by simp [rd_T40, List.getElem?_eq_getElem h]
theorem lombardref07_Merge.on_l (day : Int) (l : List S40) (hl : l.length ≤ 1000000) : ∀ n (i k : Nat), l.length - i = n → i ≤ l.length → n < k → lombardref07_on.l0 k day l (l.length : Int) (i : Int) = some (lombardref07_Merge.on (l.drop i) day) := by
  intro n
  induction n with
  | zero =>
    intro i k hn hi hk
    obtain ⟨k, rfl⟩ : ∃ m, k = m + 1 := ⟨k - 1, by omega⟩
    obtain rfl : i = l.length := by omega
    simp only [lombardref07_on.l0]
    rw [if_neg (by omega), List.drop_length, lombardref07_Merge.on]
  | succ n ih =>
    intro i k hn hi hk
    obtain ⟨k, rfl⟩ : ∃ m, k = m + 1 := ⟨k - 1, by omega⟩
    have hlt : i < l.length := by omega
    have ew : wrap64 ((i : Int) + 1) = ((i + 1 : Nat) : Int) := by unfold wrap64; omega
    simp only [lombardref07_on.l0]
    rw [if_pos (by omega), if_pos (by omega), if_pos (by omega), lombardref07_Merge.rd_eq l i hlt, List.drop_eq_getElem_cons hlt, lombardref07_Merge.on]
    by_cases c : (l[i]).f0 = day
    · rw [if_pos c, if_pos c]
    · rw [if_neg c, if_neg c, ew, ih (i + 1) k (by omega) (by omega) (by omega)]
theorem lombardref07_Merge.on_eq (l : List S40) (day : Int) (hl : l.length ≤ 1000000) : lombardref07_on.f (l.length + 1) l day = some (lombardref07_Merge.on l day) := by
  have := lombardref07_Merge.on_l day l hl l.length 0 (l.length + 1) (by omega) (by omega) (by omega)
  simpa [lombardref07_on.f] using this
theorem lombardref07_Merge.ck_l (l : List S40) (hl : l.length ≤ 1000000) : ∀ n (i k : Nat) (last : Int), l.length - i = n → i ≤ l.length → 2 * n < k → lombardref07_Check.l0 k last l (l.length : Int) (i : Int) = some (lombardref07_Merge.rise last (l.drop i)) := by
  intro n
  induction n with
  | zero =>
    intro i k last hn hi hk
    obtain ⟨k, rfl⟩ : ∃ m, k = m + 1 := ⟨k - 1, by omega⟩
    obtain rfl : i = l.length := by omega
    simp only [lombardref07_Check.l0]
    rw [if_neg (by omega), List.drop_length, lombardref07_Merge.rise]
  | succ n ih =>
    intro i k last hn hi hk
    obtain ⟨k, rfl⟩ : ∃ m, k = m + 2 := ⟨k - 2, by omega⟩
    have hlt : i < l.length := by omega
    have ew : wrap64 ((i : Int) + 1) = ((i + 1 : Nat) : Int) := by unfold wrap64; omega
    simp only [lombardref07_Check.l0, lombardref07_Check.j1]
    rw [if_pos (by omega), if_pos (by omega), if_pos (by omega), lombardref07_Merge.rd_eq l i hlt, List.drop_eq_getElem_cons hlt, lombardref07_Merge.rise]
    by_cases c : (l[i]).f0 ≤ last
    · rw [if_pos c, if_pos c, if_pos trivial]
    · rw [if_neg c, if_neg c]
      by_cases c2 : 3652059 < (l[i]).f0
      · rw [if_pos c2, if_pos (decide_eq_true c2)]
      · rw [if_neg c2, if_neg (by simpa using c2), lombardref07_Merge.may_eq, Option.bind_some, ew, ih (i + 1) k _ (by omega) (by omega) (by omega)]
        by_cases c3 : -10000000000000 ≤ (l[i]).f1 ∧ (l[i]).f1 ≤ 10000000000000
        · rw [if_pos c3, if_pos (by simpa [flow_Flow_22.may] using c3)]
        · rw [if_neg c3, if_neg (by simpa [flow_Flow_22.may] using c3)]
theorem lombardref07_Merge.ck_eq (l : List S40) (hl : l.length ≤ 1000000) : lombardref07_Check.f (2 * l.length + 1) l = some (lombardref07_Merge.e l) := by
  unfold lombardref07_Check.f lombardref07_Merge.e
  by_cases c : 600 < l.length
  · rw [if_pos (by omega), if_pos c]
  · rw [if_neg (by omega), if_neg c]
    exact lombardref07_Merge.ck_l l hl l.length 0 _ 0 (by omega) (by omega) (by omega)
theorem lombardref07_Merge.ck_any (l : List S40) : ∃ k, lombardref07_Check.f k l = some (lombardref07_Merge.e l) := by
  by_cases c : 600 < l.length
  · refine ⟨0, ?_⟩
    unfold lombardref07_Check.f lombardref07_Merge.e
    rw [if_pos (by omega), if_pos c]
  · exact ⟨_, lombardref07_Merge.ck_eq l (by omega)⟩
def lombardref07_Merge.amt (l : List S40) : Prop := ∀ f ∈ l, -10000000000000 ≤ f.f1 ∧ f.f1 ≤ 10000000000000
theorem lombardref07_Merge.rise_amt (last : Int) (l : List S40) (h : lombardref07_Merge.rise last l = 0) : lombardref07_Merge.amt l := by
  induction l generalizing last with
  | nil => intro f hf; cases hf
  | cons x t ih =>
    rw [lombardref07_Merge.rise] at h
    split at h
    · cases h
    · split at h
      · cases h
      · split at h
        · rename_i hx
          intro f hf
          rcases List.mem_cons.1 hf with rfl | hf
          · exact hx
          · exact ih _ h f hf
        · cases h
theorem lombardref07_Merge.on_amt (l : List S40) (day : Int) (h : lombardref07_Merge.amt l) : -10000000000000 ≤ lombardref07_Merge.on l day ∧ lombardref07_Merge.on l day ≤ 10000000000000 := by
  induction l with
  | nil => simp [lombardref07_Merge.on]
  | cons x t ih =>
    rw [lombardref07_Merge.on]
    split
    · exact h x List.mem_cons_self
    · exact ih (fun f hf => h f (List.mem_cons_of_mem _ hf))
theorem lombardref07_Merge.e_len {l : List S40} (h : lombardref07_Merge.e l = 0) : l.length ≤ 600 ∧ lombardref07_Merge.amt l := by
  unfold lombardref07_Merge.e at h
  split at h
  · cases h
  · exact ⟨by omega, lombardref07_Merge.rise_amt 0 l h⟩
/-- Where the round's two inner loops stand. -/
def lombardref07_Merge.P (w : World) (r1 : List S40) (r2 : Int) (e : Ending) (w' : World) : Prop := ∃ v0_ : Value, e = .returned (.tuple #[v0_, .int .i64 r2]) ∧ Kd.R k40 40 w' w.heap.size (fun _ => True) v0_ r1 ∧ Below w.heap.size w w'
set_option maxHeartbeats 8000000 in
set_option maxRecDepth 100000 in
theorem lombardref07_Merge.walk (A0 : Option Addr) (c0 : Nat) (l0 : List S40) (A1 : Option Addr) (c1 : Nat) (l1 : List S40) (r1 : List S40) (r2 : Int) (w : World) (hr0 : Kd.C k40 w A0 l0.length l0) (hc0 : l0.length ≤ c0) (hr1 : Kd.C k40 w A1 l1.length l1) (hc1 : l1.length ≤ c1)
    (e0 : lombardref07_Merge.e l0 = 0) (e1 : lombardref07_Merge.e l1 = 0) (hh : lombardref07_Merge.go l0 l1 1300 0 [] = some (r1, r2)) :
    Calls Try.prog 10 #[.slice A0 l0.length c0, .slice A1 l1.length c1] w (lombardref07_Merge.P w r1 r2) := by
  have HR0 := Aside0.mk hr0
  have HR1 := Aside0.mk hr1
  obtain ⟨hl0, hm0⟩ := lombardref07_Merge.e_len e0
  obtain ⟨hl1, hm1⟩ := lombardref07_Merge.e_len e1
  have HM0 := Aside0.mk hm0
  have HM1 := Aside0.mk hm1
  have HF0 := Aside0.mk (show lombardref07_Check.f (2 * l0.length + 1) l0 = some 0 by rw [lombardref07_Merge.ck_eq l0 (by omega), e0])
  have HF1 := Aside0.mk (show lombardref07_Check.f (2 * l1.length + 1) l1 = some 0 by rw [lombardref07_Merge.ck_eq l1 (by omega), e1])
  have HH := Aside0.mk hh
  clear hr0 hr1 hm0 hm1 e0 e1 hh
  have hi0 : ∀ w, (Instr.index 58 (.agg #[.slice A0 l0.length c0, .slice A1 l1.length c1]) (.int .i64 0)).run Try.prog w = .ok (.slice A0 l0.length c0) w := fun _ => by kernel_rfl
  have hi1 : ∀ w, (Instr.index 58 (.agg #[.slice A0 l0.length c0, .slice A1 l1.length c1]) (.int .i64 1)).run Try.prog w = .ok (.slice A1 l1.length c1) w := fun _ => by kernel_rfl
  go_enter Try.func10, Try.ntmps10
  go_wp2_with fail
  with_reducible refine (lombardref07_Check.calls _ A0 c0 l0 0 w HR0.out hc0 HF0.out).mono ?_
  rintro e w1 ⟨rfl, hb⟩
  have HB1 := Aside0.mk hb
  clear hb
  go_wp2_with fail
  with_reducible refine (lombardref07_Check.calls _ A1 c1 l1 0 w1 (Kd.C_below HR1.out HB1.out) hc1 HF1.out).mono ?_
  rintro e w2 ⟨rfl, hb⟩
  have HB2 := Aside0.mk (below_step HB1.out hb)
  clear hb HB1
  go_wp2
  go_loopg [8, 9] 1300 (fun kq v8 v9 w' => ∃ (day : Int) (acc : List S40), v9 = .int .i64 day ∧ Aside0 (lombardref07_Merge.go l0 l1 kq day acc = some (r1, r2)) ∧ Aside0 (kq ≤ 1300) ∧ Aside0 (acc.length + kq ≤ 1300) ∧ Aside0 (Kd.R k40 40 w' w.heap.size (fun _ => True) v8 acc) ∧ Aside0 (Below w.heap.size w w'))
  case atStart => exact ⟨0, [], rfl, HH, ⟨Nat.le_refl _⟩, ⟨by simp⟩, ⟨Kd.R_nil _ _ _ _ _⟩, HB2⟩
  case round =>
    clear HH HB2
    obtain ⟨day, acc, rfl, HG, HK, HAL, HO, HB⟩ := hrel
    cases gk with
    | zero => exact absurd HG.out (by simp [lombardref07_Merge.go])
    | succ k1 =>
      have hg := HG.out
      rw [lombardref07_Merge.go] at hg
      obtain ⟨na, hna⟩ : ∃ na, lombardref07_Merge.nx day l0 0 = na := ⟨_, rfl⟩
      obtain ⟨nb, hnb⟩ : ∃ nb, lombardref07_Merge.nx day l1 na = nb := ⟨_, rfl⟩
      rw [hna, hnb] at hg
      have HN0 := Aside0.mk hna
      have HN1 := Aside0.mk hnb
      have HG2 := Aside0.mk hg
      clear hna hnb hg HG
      go_wp2
      refine wp_loop_rounds 3 ?_
      rw [rounds_succ]
      go_wp2
      obtain ⟨wa, rfl⟩ : ∃ W_ : World, W_ = wr := ⟨_, rfl⟩
      go_loopw [10, 34] (fun v10 i wr => ∃ (j : Nat) (n : Int), j ≤ l0.length ∧ v10 = .int .i64 n ∧ i = .int .i64 j ∧ Aside0 (lombardref07_Merge.nx day (l0.drop j) n = na) ∧ Aside0 (Below w.heap.size w wr) ∧ Aside0 (Below wa.heap.size wa wr)) (fun _ i _ => l0.length - (intOf i).toNat)
      case atStart => exact ⟨0, 0, Nat.zero_le _, rfl, rfl, HN0, HB, ⟨Below.refl _ _⟩⟩
      case round =>
        clear HN0
        obtain ⟨j, n, hj, rfl, rfl, HN0, HBi, HBa⟩ := hrel
        by_cases hlt : j < l0.length
        · obtain ⟨ad, rfl, hx0, hx1⟩ := at_T40 HR0.out (j : Int) (by omega) (by omega)
          replace hx0 := (HBi.out.cell (World.block_lt_of_cell? w _ hx0)).trans hx0
          replace hx1 := (HBi.out.cell (World.block_lt_of_cell? w _ hx1)).trans hx1
          rw [Int.toNat_natCast] at hx0 hx1
          have hn := HN0.out
          rw [List.drop_eq_getElem_cons hlt, lombardref07_Merge.nx] at hn
          rw [lombardref07_Merge.rd_eq _ _ hlt] at hx0 hx1
          generalize l0[j] = x at hx0 hx1 hn
          clear HN0
          by_cases q1 : day < x.f0
          · have q1b : decide (day < x.f0) = true := decide_eq_true q1
            by_cases q2 : n = 0
            · rw [if_pos ⟨q1, Or.inl q2⟩] at hn
              subst q2
              clear q1
              have HNX := Aside0.mk hn
              clear hn
              go_wp2_with fail
              go_roundw
              case rel => exact ⟨j + 1, x.f0, by omega, rfl, by go_num, HNX, ⟨by repeat (first | exact HBi.out | apply below_alloc | apply pw_below_drewN | apply below_drew1 | refine below_set ?_ (by first | omega | exact HBi.out.size | (simp; have := HBi.out.size; omega)))⟩, ⟨by repeat (first | exact HBa.out | apply below_alloc | apply pw_below_drewN | apply below_drew1 | refine below_set ?_ (by first | omega | exact HBa.out.size | (simp; have := HBa.out.size; omega)))⟩⟩
              case measure => simp [intOf]; omega
            · have q2b : (n == 0) = false := by simpa using q2
              by_cases q3 : x.f0 < n
              · rw [if_pos ⟨q1, Or.inr q3⟩] at hn
                have q3b : decide (x.f0 < n) = true := decide_eq_true q3
                clear q1 q2 q3
                have HNX := Aside0.mk hn
                clear hn
                go_wp2_with fail
                go_roundw
                case rel => exact ⟨j + 1, x.f0, by omega, rfl, by go_num, HNX, ⟨by repeat (first | exact HBi.out | apply below_alloc | apply pw_below_drewN | apply below_drew1 | refine below_set ?_ (by first | omega | exact HBi.out.size | (simp; have := HBi.out.size; omega)))⟩, ⟨by repeat (first | exact HBa.out | apply below_alloc | apply pw_below_drewN | apply below_drew1 | refine below_set ?_ (by first | omega | exact HBa.out.size | (simp; have := HBa.out.size; omega)))⟩⟩
                case measure => simp [intOf]; omega
              · rw [if_neg (fun h => h.2.elim q2 q3)] at hn
                have q3b : decide (x.f0 < n) = false := decide_eq_false q3
                clear q1 q2 q3
                have HNX := Aside0.mk hn
                clear hn
                go_wp2_with fail
                go_roundw
                case rel => exact ⟨j + 1, n, by omega, rfl, by go_num, HNX, ⟨by repeat (first | exact HBi.out | apply below_alloc | apply pw_below_drewN | apply below_drew1 | refine below_set ?_ (by first | omega | exact HBi.out.size | (simp; have := HBi.out.size; omega)))⟩, ⟨by repeat (first | exact HBa.out | apply below_alloc | apply pw_below_drewN | apply below_drew1 | refine below_set ?_ (by first | omega | exact HBa.out.size | (simp; have := HBa.out.size; omega)))⟩⟩
                case measure => simp [intOf]; omega
          · have q1b : decide (day < x.f0) = false := decide_eq_false q1
            rw [if_neg (fun h => q1 h.1)] at hn
            clear q1
            have HNX := Aside0.mk hn
            clear hn
            go_wp2_with fail
            go_roundw
            case rel => exact ⟨j + 1, n, by omega, rfl, by go_num, HNX, ⟨by repeat (first | exact HBi.out | apply below_alloc | apply pw_below_drewN | apply below_drew1 | refine below_set ?_ (by first | omega | exact HBi.out.size | (simp; have := HBi.out.size; omega)))⟩, ⟨by repeat (first | exact HBa.out | apply below_alloc | apply pw_below_drewN | apply below_drew1 | refine below_set ?_ (by first | omega | exact HBa.out.size | (simp; have := HBa.out.size; omega)))⟩⟩
            case measure => simp [intOf]; omega
        · obtain rfl : j = l0.length := by omega
          have hn := HN0.out
          rw [List.drop_length, lombardref07_Merge.nx] at hn
          subst hn
          clear HN0
          go_wp2_with fail
          rw [rounds_succ]
          go_wp2_with fail
          have HBi1 := HBi
          clear HBi
          obtain ⟨wb, rfl⟩ : ∃ W_ : World, W_ = wr := ⟨_, rfl⟩
          go_loopw [10, 34] (fun v10 i wr => ∃ (j : Nat) (n : Int), j ≤ l1.length ∧ v10 = .int .i64 n ∧ i = .int .i64 j ∧ Aside0 (lombardref07_Merge.nx day (l1.drop j) n = nb) ∧ Aside0 (Below w.heap.size w wr) ∧ Aside0 (Below wb.heap.size wb wr)) (fun _ i _ => l1.length - (intOf i).toNat)
          case atStart => exact ⟨0, n, Nat.zero_le _, rfl, rfl, HN1, HBi1, ⟨Below.refl _ _⟩⟩
          case round =>
            clear HN1
            obtain ⟨j, n, hj, rfl, rfl, HN1, HBi, HBb⟩ := hrel
            by_cases hlt : j < l1.length
            · obtain ⟨ad, rfl, hx0, hx1⟩ := at_T40 HR1.out (j : Int) (by omega) (by omega)
              replace hx0 := (HBi.out.cell (World.block_lt_of_cell? w _ hx0)).trans hx0
              replace hx1 := (HBi.out.cell (World.block_lt_of_cell? w _ hx1)).trans hx1
              rw [Int.toNat_natCast] at hx0 hx1
              have hn := HN1.out
              rw [List.drop_eq_getElem_cons hlt, lombardref07_Merge.nx] at hn
              rw [lombardref07_Merge.rd_eq _ _ hlt] at hx0 hx1
              generalize l1[j] = x at hx0 hx1 hn
              clear HN1
              by_cases q1 : day < x.f0
              · have q1b : decide (day < x.f0) = true := decide_eq_true q1
                by_cases q2 : n = 0
                · rw [if_pos ⟨q1, Or.inl q2⟩] at hn
                  subst q2
                  clear q1
                  have HNX := Aside0.mk hn
                  clear hn
                  go_wp2_with fail
                  go_roundw
                  case rel => exact ⟨j + 1, x.f0, by omega, rfl, by go_num, HNX, ⟨by repeat (first | exact HBi.out | apply below_alloc | apply pw_below_drewN | apply below_drew1 | refine below_set ?_ (by first | omega | exact HBi.out.size | (simp; have := HBi.out.size; omega)))⟩, ⟨by repeat (first | exact HBb.out | apply below_alloc | apply pw_below_drewN | apply below_drew1 | refine below_set ?_ (by first | omega | exact HBb.out.size | (simp; have := HBb.out.size; omega)))⟩⟩
                  case measure => simp [intOf]; omega
                · have q2b : (n == 0) = false := by simpa using q2
                  by_cases q3 : x.f0 < n
                  · rw [if_pos ⟨q1, Or.inr q3⟩] at hn
                    have q3b : decide (x.f0 < n) = true := decide_eq_true q3
                    clear q1 q2 q3
                    have HNX := Aside0.mk hn
                    clear hn
                    go_wp2_with fail
                    go_roundw
                    case rel => exact ⟨j + 1, x.f0, by omega, rfl, by go_num, HNX, ⟨by repeat (first | exact HBi.out | apply below_alloc | apply pw_below_drewN | apply below_drew1 | refine below_set ?_ (by first | omega | exact HBi.out.size | (simp; have := HBi.out.size; omega)))⟩, ⟨by repeat (first | exact HBb.out | apply below_alloc | apply pw_below_drewN | apply below_drew1 | refine below_set ?_ (by first | omega | exact HBb.out.size | (simp; have := HBb.out.size; omega)))⟩⟩
                    case measure => simp [intOf]; omega
                  · rw [if_neg (fun h => h.2.elim q2 q3)] at hn
                    have q3b : decide (x.f0 < n) = false := decide_eq_false q3
                    clear q1 q2 q3
                    have HNX := Aside0.mk hn
                    clear hn
                    go_wp2_with fail
                    go_roundw
                    case rel => exact ⟨j + 1, n, by omega, rfl, by go_num, HNX, ⟨by repeat (first | exact HBi.out | apply below_alloc | apply pw_below_drewN | apply below_drew1 | refine below_set ?_ (by first | omega | exact HBi.out.size | (simp; have := HBi.out.size; omega)))⟩, ⟨by repeat (first | exact HBb.out | apply below_alloc | apply pw_below_drewN | apply below_drew1 | refine below_set ?_ (by first | omega | exact HBb.out.size | (simp; have := HBb.out.size; omega)))⟩⟩
                    case measure => simp [intOf]; omega
              · have q1b : decide (day < x.f0) = false := decide_eq_false q1
                rw [if_neg (fun h => q1 h.1)] at hn
                clear q1
                have HNX := Aside0.mk hn
                clear hn
                go_wp2_with fail
                go_roundw
                case rel => exact ⟨j + 1, n, by omega, rfl, by go_num, HNX, ⟨by repeat (first | exact HBi.out | apply below_alloc | apply pw_below_drewN | apply below_drew1 | refine below_set ?_ (by first | omega | exact HBi.out.size | (simp; have := HBi.out.size; omega)))⟩, ⟨by repeat (first | exact HBb.out | apply below_alloc | apply pw_below_drewN | apply below_drew1 | refine below_set ?_ (by first | omega | exact HBb.out.size | (simp; have := HBb.out.size; omega)))⟩⟩
                case measure => simp [intOf]; omega
            · obtain rfl : j = l1.length := by omega
              have hn := HN1.out
              rw [List.drop_length, lombardref07_Merge.nx] at hn
              subst hn
              clear HN1
              go_wp2_with fail
              rw [rounds_succ]
              obtain ⟨A8, c8, rfl⟩ := Kd.R_slice HO.out
              have HOb := Aside0.mk (Kd.R_below (Kd.R_below HO.out HBa.out) HBb.out)
              by_cases hz : n = 0
              · subst hz
                have hg := HG2.out
                rw [if_pos rfl] at hg
                by_cases hc : 600 < acc.length
                · rw [if_pos hc] at hg
                  simp only [Option.some.injEq, Prod.mk.injEq] at hg
                  obtain ⟨rfl, rfl⟩ := hg
                  have hb : decide ((600 : Int) < (acc.length : Int)) = true := decide_eq_true (by omega)
                  go_wp2_with fail
                  go_ret2
                  exact ⟨_, rfl, Kd.R_nil _ _ _ _ _, HBi.out⟩
                · rw [if_neg hc] at hg
                  simp only [Option.some.injEq, Prod.mk.injEq] at hg
                  obtain ⟨rfl, rfl⟩ := hg
                  have hb : decide ((600 : Int) < (acc.length : Int)) = false := decide_eq_false (by omega)
                  go_wp2_with fail
                  go_ret2
                  exact ⟨_, rfl, HOb.out, HBi.out⟩
              · have hzb : (n == 0) = false := by simpa using hz
                have hg := HG2.out
                rw [if_neg hz] at hg
                obtain ⟨ya, hya⟩ : ∃ ya, lombardref07_Merge.on l0 n = ya := ⟨_, rfl⟩
                obtain ⟨yb, hyb⟩ : ∃ yb, lombardref07_Merge.on l1 n = yb := ⟨_, rfl⟩
                have b0 := lombardref07_Merge.on_amt l0 n HM0.out
                have b1 := lombardref07_Merge.on_amt l1 n HM1.out
                rw [hya] at b0
                rw [hyb] at b1
                have HY0 := Aside0.mk (show lombardref07_on.f (l0.length + 1) l0 n = some ya by rw [lombardref07_Merge.on_eq l0 n (by omega), hya])
                have HY1 := Aside0.mk (show lombardref07_on.f (l1.length + 1) l1 n = some yb by rw [lombardref07_Merge.on_eq l1 n (by omega), hyb])
                rw [hya, hyb] at hg
                clear hya hyb hz
                obtain ⟨p1, p2⟩ := b0
                obtain ⟨p3, p4⟩ := b1
                have HMY := Aside0.mk (lombardref07_Merge.may_eq (ya + yb))
                have hal := HAL.out
                have HG3 := Aside0.mk hg
                clear hg HG2
                go_wp2_with fail
                with_reducible refine (lombardref07_on.calls _ A0 c0 l0 n ya wr (Kd.C_below HR0.out HBi.out) hc0 HY0.out).mono ?_
                rintro e w5 ⟨rfl, hb⟩
                have HB5 := Aside0.mk hb
                clear hb
                go_wp2_with fail
                with_reducible refine (lombardref07_on.calls _ A1 c1 l1 n yb w5 (Kd.C_below (Kd.C_below HR1.out HBi.out) HB5.out) hc1 HY1.out).mono ?_
                rintro e w6 ⟨rfl, hb⟩
                have HB6 := Aside0.mk (below_step HB5.out hb)
                clear hb HB5
                cases hm : flow_Flow_22.may (ya + yb)
                · rw [hm] at HMY HG3
                  have hg := HG3.out
                  rw [if_neg (by decide)] at hg
                  simp only [Option.some.injEq, Prod.mk.injEq] at hg
                  obtain ⟨rfl, rfl⟩ := hg
                  go_wp2_with (go_at_call 20; (with_reducible refine (lombardref01_May.calls (ya + yb) false w6 HMY.out).mono ?_); rintro e w7 ⟨rfl, hd⟩; have HB7 := Aside0.mk (below_step HB6.out hd.below); clear hd)
                  go_ret2
                  exact ⟨_, rfl, Kd.R_nil _ _ _ _ _, below_step HBi.out HB7.out⟩
                · rw [hm] at HMY HG3
                  have hg := HG3.out
                  rw [if_pos rfl] at hg
                  go_wp2_with fail
                  with_reducible refine (lombardref01_May.calls (ya + yb) true w6 HMY.out).mono ?_
                  rintro e w7 ⟨rfl, hd⟩
                  have HB7 := Aside0.mk (below_step HB6.out hd.below)
                  have HO7 := Aside0.mk (Kd.R_below HOb.out HB7.out)
                  have HBB := Aside0.mk (below_step HBi.out HB7.out)
                  have hsz := HBB.out.size
                  clear hd
                  by_cases hs : ya + yb = 0
                  · rw [if_pos hs] at hg
                    have hsb : (ya + yb == 0) = true := by simpa using hs
                    have hsc : (ya + yb != 0) = false := by simpa using hs
                    have HG4 := Aside0.mk hg
                    clear hg hs
                    go_wp2_with fail
                    go_roundg k1
                    case measure => have := HK.out; omega
                    case rel => exact ⟨n, acc, rfl, HG4, ⟨by have := HK.out; omega⟩, ⟨by omega⟩, HO7, HBB⟩
                  · rw [if_neg hs] at hg
                    have hsb : (ya + yb == 0) = false := by simpa using hs
                    have hsc : (ya + yb != 0) = true := by simpa using hs
                    have HG4 := Aside0.mk hg
                    clear hg hs
                    go_wp2_with ((with_reducible refine gate_builtin (b := .append) (xs := #[.tmp 71, .tmp 75]) rfl ?_); at_builtin; refine Kd.R_append k40 (w0 := w) w.heap.size rfl (.tmp 71) (.tmp 75) 22 40 (.agg #[(.int .i64 0), (.int .i64 0)]) 16 rfl Try.underlying22 info40 rfl (by decide) (by omega) (.slice A8 acc.length c8) acc (⟨n, ya + yb⟩ : S40) [.int .i64 n, .int .i64 (ya + yb)] (fun _ => True) (fun _ => False) rfl (by first | (go_simp; done) | (go_simp; rfl)) ?aP (fun _ hk => hk.elim) ?aF ?aO ?aB ?aS ?aL ?_; (case aP => exact k40_mkM _ _ _ (⟨n, ya + yb⟩ : S40)); (case aB => exact HBB.out); (case aF => exact (fun _ _ => trivial)); (case aO => exact HO7.out); (case aS => exact hsz); (case aL => omega); intro v8 w8 ho hb hg hat; have HO8 := Aside0.mk ho; have HB8 := Aside0.mk hb; clear ho hb hg hat)
                    go_roundg k1
                    case measure => have := HK.out; omega
                    case rel => exact ⟨n, acc ++ [⟨n, ya + yb⟩], rfl, HG4, ⟨by have := HK.out; omega⟩, ⟨by simp; omega⟩, HO8, HB8⟩
set_option maxHeartbeats 4000000 in
set_option maxRecDepth 100000 in
theorem lombardref07_Merge.calls (A0 : Option Addr) (c0 : Nat) (l0 : List (S40)) (A1 : Option Addr) (c1 : Nat) (l1 : List (S40)) (r1 : List (S40)) (r2 : Int) (w : World) (hr0 : Kd.C k40 w A0 l0.length l0) (hc0 : l0.length ≤ c0) (hr1 : Kd.C k40 w A1 l1.length l1) (hc1 : l1.length ≤ c1) (h : lombardref07_Merge.f l0 l1 = some (r1, r2)) :
    Calls Try.prog 10 #[.slice A0 l0.length c0, .slice A1 l1.length c1] w fun e w' => ∃ v0_ : Value, e = .returned (.tuple #[v0_, .int .i64 r2]) ∧ Kd.R k40 40 w' w.heap.size (fun _ => True) v0_ r1 ∧ Below w.heap.size w w' := by
  unfold lombardref07_Merge.f at h
  by_cases e0 : lombardref07_Merge.e l0 = 0
  · rw [if_neg (by simpa using e0)] at h
    by_cases e1 : lombardref07_Merge.e l1 = 0
    · rw [if_neg (by simpa using e1)] at h
      exact lombardref07_Merge.walk A0 c0 l0 A1 c1 l1 r1 r2 w hr0 hc0 hr1 hc1 e0 e1 h
    · rw [if_pos e1] at h
      simp only [Option.some.injEq, Prod.mk.injEq] at h
      obtain ⟨rfl, rfl⟩ := h
      obtain ⟨hl0, hm0⟩ := lombardref07_Merge.e_len e0
      have HR0 := Aside0.mk hr0
      have HR1 := Aside0.mk hr1
      have HF0 := Aside0.mk (show lombardref07_Check.f (2 * l0.length + 1) l0 = some 0 by rw [lombardref07_Merge.ck_eq l0 (by omega), e0])
      have HF1 : Aside0 (∃ k, lombardref07_Check.f k l1 = some (lombardref07_Merge.e l1)) := ⟨lombardref07_Merge.ck_any l1⟩
      have eb : (lombardref07_Merge.e l1 == 0) = false := by simpa using e1
      clear hr0 hr1 e0 e1 hm0
      obtain ⟨k1, hk1⟩ := HF1.out
      have HF2 := Aside0.mk hk1
      clear hk1
      go_enter Try.func10, Try.ntmps10
      go_wp2_with fail
      with_reducible refine (lombardref07_Check.calls _ A0 c0 l0 0 w HR0.out hc0 HF0.out).mono ?_
      rintro e w1 ⟨rfl, hb⟩
      have HB1 := Aside0.mk hb
      clear hb
      go_wp2_with fail
      with_reducible refine (lombardref07_Check.calls k1 A1 c1 l1 _ w1 (Kd.C_below HR1.out HB1.out) hc1 HF2.out).mono ?_
      rintro e w2 ⟨rfl, hb⟩
      have HB2 := Aside0.mk (below_step HB1.out hb)
      clear hb
      go_wp2_with fail
      go_ret2
      exact ⟨_, rfl, Kd.R_nil _ _ _ _ _, HB2.out⟩
  · rw [if_pos e0] at h
    simp only [Option.some.injEq, Prod.mk.injEq] at h
    obtain ⟨rfl, rfl⟩ := h
    have HR0 := Aside0.mk hr0
    obtain ⟨k1, hk1⟩ := lombardref07_Merge.ck_any l0
    have HF2 := Aside0.mk hk1
    have eb : (lombardref07_Merge.e l0 == 0) = false := by simpa using e0
    clear hr0 e0 hk1
    go_enter Try.func10, Try.ntmps10
    go_wp2_with fail
    with_reducible refine (lombardref07_Check.calls k1 A0 c0 l0 _ w HR0.out hc0 HF2.out).mono ?_
    rintro e w1 ⟨rfl, hb⟩
    have HB1 := Aside0.mk hb
    clear hb
    go_wp2_with fail
    go_ret2
    exact ⟨_, rfl, Kd.R_nil _ _ _ _ _, HB1.out⟩


end Go.Proofs.Ytpolkjmdkeengaa.Print
