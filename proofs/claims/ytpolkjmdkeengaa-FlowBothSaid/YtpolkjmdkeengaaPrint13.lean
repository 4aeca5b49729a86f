-- written by this session's program wip/hybrid.py over the kit's printer, and by hand. Not trusted: Lean checks it.
import Derived.Test.YtpolkjmdkeengaaPrint0
import Derived.Test.YtpolkjmdkeengaaPrint5
import Derived.Test.YtpolkjmdkeengaaPrint6
import Derived.Test.YtpolkjmdkeengaaPrint7
import Derived.Test.YtpolkjmdkeengaaPrint8
import Derived.Test.YtpolkjmdkeengaaPrint9
import Derived.Test.YtpolkjmdkeengaaPrint11
import Derived.Test.YtpolkjmdkeengaaPrint12
namespace Go.Proofs.Ytpolkjmdkeengaa.Print
open Go.RowKit Go.Proofs.YtpolkjmdkeengaaW.PrintWords Go.Proofs.YtpolkjmdkeengaaW.PrintLast Go.Proofs.YtpolkjmdkeengaaW.PrintMore
attribute [local go_sem] max2_int min2_int max_two min_two max_three min_three max_four min_four   -- for this text's walks alone
set_option linter.unusedVariables false
set_option linter.unusedSimpArgs false

/-! ### flow_Spread: function 19 -/
def flow_Spread.go : List Int → List S39 → List Int → Option (List Int × List S39 × Int)
  | [], left, acc => some (acc, left, 0)
  | d :: ds, left, acc => (flow_Total.f (left.filter fun x => decide (x.f0 ≤ d))).bind fun t => if t.2 = 0 then flow_Spread.go ds (left.filter fun x => !decide (x.f0 ≤ d)) (acc ++ [t.1]) else some ([], [], t.2)
def flow_Spread.g (l : List S39) (days : List Int) : Option (List Int × Int) :=
  if flow_Merge.e l ≠ 0 then some ([], flow_Merge.e l) else if 600 < days.length then some ([], 10) else if flow_rising_int.rise 0 days ≠ 0 then some ([], flow_rising_int.rise 0 days) else
  (flow_Spread.go days l []).bind fun t => if t.2.2 = 0 then (if 0 < t.2.1.length then some ([], 2) else if t.1.all flow_Flow_22.may = true then some (t.1, 0) else some ([], 3)) else some ([], t.2.2)
def flow_Spread.f (l0 : List S39) (l1 : List Int) : Option (List Int × Int) := flow_Spread.g l0 l1
theorem flow_Spread.part_l (d : Int) (l : List S39) (hl : l.length ≤ 1000000) : ∀ n (i : Nat) (a b : List S39) k, l.length - i = n → i ≤ l.length → n < k → a.length ≤ i → b.length ≤ i →
    flow_Parted.l0 k d a b l (l.length : Int) (i : Int) = some (a ++ (l.drop i).filter (fun x => decide (x.f0 ≤ d)), b ++ (l.drop i).filter (fun x => !decide (x.f0 ≤ d))) := by
  intro n
  induction n with
  | zero =>
    intro i a b k hn hi hk ha hb
    obtain ⟨k, rfl⟩ : ∃ m, k = m + 1 := ⟨k - 1, by omega⟩
    have : i = l.length := by omega
    subst this
    simp only [flow_Parted.l0]
    rw [if_neg (by omega), List.drop_length]
    simp
  | succ n ih =>
    intro i a b k hn hi hk ha hb
    obtain ⟨k, rfl⟩ : ∃ m, k = m + 1 := ⟨k - 1, by omega⟩
    have hlt : i < l.length := by omega
    have e : rd_T39 l (i : Int) = l[i] := by simp [rd_T39, List.getElem?_eq_getElem hlt]
    simp only [flow_Parted.l0]
    rw [if_pos (by omega), if_pos (by omega), if_pos (by omega), e, List.drop_eq_getElem_cons hlt]
    have ew : wrap64 ((i : Int) + 1) = ((i + 1 : Nat) : Int) := by unfold wrap64; omega
    by_cases c : (l[i]).f0 ≤ d
    · rw [if_pos c, if_pos (by omega), ew, ih (i + 1) _ _ k (by omega) (by omega) (by omega) (by simp; omega) (by omega), List.filter_cons, List.filter_cons, if_pos (decide_eq_true c), if_neg (by simp [c])]
      simp
    · rw [if_neg c, if_pos (by omega), ew, ih (i + 1) _ _ k (by omega) (by omega) (by omega) (by omega) (by simp; omega), List.filter_cons, List.filter_cons, if_neg (by simp [c]), if_pos (by simp [c])]
      simp
theorem flow_Spread.part (d : Int) (l : List S39) (hl : l.length ≤ 1000000) : flow_Parted.f (l.length + 1) l d = some (l.filter (fun x => decide (x.f0 ≤ d)), l.filter (fun x => !decide (x.f0 ≤ d))) := by
  have := flow_Spread.part_l d l hl l.length 0 [] [] (l.length + 1) (by omega) (by omega) (by omega) (by simp) (by simp)
  simpa [flow_Parted.f] using this
theorem heap_39 : Kd.Heap k39 := Kd.heap_iso _ (Kd.heap_pair (Kd.heap_int _) (Kd.heap_int _))
def flow_Spread.P (w : World) (r1 : List Int) (r2 : Int) (e : Ending) (w' : World) : Prop := ∃ v0_ : Value, e = .returned (.tuple #[v0_, .int .i64 r2]) ∧ Kd.R (Kd.int .i64) 2 w' w.heap.size (fun _ => True) v0_ r1 ∧ Below w.heap.size w w'
set_option maxHeartbeats 4000000 in
set_option maxRecDepth 100000 in
theorem flow_Spread.walk (A0 : Option Addr) (c0 : Nat) (l0 : List S39) (A1 : Option Addr) (c1 : Nat) (l1 : List Int) (r1 : List Int) (r2 : Int) (w : World) (hr0 : Kd.C k39 w A0 l0.length l0) (hc0 : l0.length ≤ c0) (hr1 : Kd.C (Kd.int .i64) w A1 l1.length l1) (hc1 : l1.length ≤ c1)
    (e0 : flow_Merge.e l0 = 0) (hl1 : l1.length ≤ 600) (e1 : flow_rising_int.rise 0 l1 = 0)
    (hh : ((flow_Spread.go l1 l0 []).bind fun t => if t.2.2 = 0 then (if 0 < t.2.1.length then some ([], 2) else if t.1.all flow_Flow_22.may = true then some (t.1, 0) else some ([], 3)) else some ([], t.2.2)) = some (r1, r2)) :
    Calls Try.prog 19 #[.slice A0 l0.length c0, .slice A1 l1.length c1] w (flow_Spread.P w r1 r2) := by
  have HR0 := Aside0.mk hr0
  have HR1 := Aside0.mk hr1
  have hl0 : l0.length ≤ 600 := by
    unfold flow_Merge.e at e0
    by_cases c : 600 < l0.length
    · rw [if_pos c] at e0; cases e0
    · omega
  have HF0 := Aside0.mk (show flow_Check.f l0 = some 0 by rw [flow_Merge.e_eq, e0])
  have HE1 := Aside0.mk e1
  have HH := Aside0.mk hh
  clear hr0 hr1 e0 e1 hh
  obtain ⟨i0, hi, hz0, hz1, hz2⟩ := info_parts info2'
  have hmk0 := fun (W : World) => run_make_own (P := Try.prog) W W.heap.size 46 2 i0 (.int .i64 0) 1 Try.underlying46 hi hz0 hz1 .i64 .i64 l1.length (by rw [hz2]; omega) (by unfold maxLen; omega) (Nat.le_refl _)
  have HMK := Aside0.mk hmk0
  clear hmk0 hi hz0 hz1 hz2
  have hd1 : decide ((600 : Int) < (l1.length : Int)) = false := by simpa using (by omega : ¬ (600 : Int) < (l1.length : Int))
  go_enter Try.func19, Try.ntmps19
  go_wp2_with (go_at_call 17; (with_reducible refine (flow_Check.calls A0 c0 l0 0 w HR0.out hc0 HF0.out).mono ?_); rintro e w1 ⟨rfl, hb⟩; have HB1 := Aside0.mk hb; clear hb)
  have hrs := flow_rising_int.go_ A1 c1 l1 w1 (Kd.C_below HR1.out HB1.out) hc1 (by omega)
  rw [HE1.out] at hrs
  with_reducible refine hrs.mono ?_
  clear hrs
  rintro e w2 ⟨rfl, hb⟩
  have HB2 := Aside0.mk (below_step HB1.out hb)
  clear hb
  obtain ⟨w3, hmk, hown, hgrow⟩ := HMK.out w2
  have HO := Aside0.mk (show Kd.R (Kd.int .i64) 2 w3 w2.heap.size (fun _ => True) (.slice (some ⟨w2.heap.size, 0, none⟩) 0 l1.length) [] from Kd.R_of_own (enc := Value.int .i64) (h1 := fun _ => rfl) hown (fun _ _ => trivial))
  have HB3 := Aside0.mk (show Below w2.heap.size w2 w3 from (Below.refl _ _).grown hgrow (Nat.le_refl _) (fun k hk => by cases hk))
  have HFL : Aside0 (Kd.F k39 w3 (fun k => some k ≠ (Value.slice (some ⟨w2.heap.size, 0, none⟩) 0 l1.length).ownBlock) A0 l0.length l0) :=
    ⟨Kd.F_mono (Kd.F_below (Kd.F_bound (Kd.C_F (heap_39) (Kd.C_below HR0.out HB2.out))) HB3.out) (fun k hk he => by have h1 := hk.2; simp [Value.ownBlock] at he; omega)⟩
  clear hown hgrow HMK
  go_wp2_with fail
  clear hmk
  go_loopw [8, 9, 36] (fun v8 v9 i wr => ∃ (k : Nat) (acc : List Int) (left : List S39) (A9 : Option Addr) (n9 c9 : Nat), k ≤ l1.length ∧ i = .int .i64 k ∧ v9 = .slice A9 n9 c9 ∧ n9 ≤ 600 ∧ Aside0 (acc.length = k) ∧ Aside0 (left.length = n9 ∧ n9 ≤ c9) ∧
    Aside0 (((flow_Spread.go (l1.drop k) left acc).bind fun t => if t.2.2 = 0 then (if 0 < t.2.1.length then some ([], 2) else if t.1.all flow_Flow_22.may = true then some (t.1, 0) else some ([], 3)) else some ([], t.2.2)) = some (r1, r2)) ∧
    Aside0 (Kd.R (Kd.int .i64) 2 wr w2.heap.size (fun _ => True) v8 acc) ∧ Aside0 (Kd.F k39 wr (fun k => some k ≠ v8.ownBlock) A9 n9 left) ∧ Aside0 (Below w2.heap.size w2 wr)) (fun _ _ i _ => l1.length - (intOf i).toNat)
  case atStart => exact ⟨0, [], l0, A0, l0.length, c0, Nat.zero_le _, rfl, rfl, hl0, ⟨rfl⟩, ⟨⟨rfl, hc0⟩⟩, HH, HO, HFL, HB3⟩
  case round =>
    clear HH HO HFL HB3 w3
    obtain ⟨k, acc, left, A9, n9, c9, hk, rfl, rfl, hn9, HAL, HLN, HG, HO, HFL, HB3⟩ := hrel
    by_cases hlt : k < l1.length
    · obtain ⟨ad, rfl, hx0⟩ := Kd.at_int HR1.out (k : Int) (by omega) (by omega)
      have HBw := Aside0.mk (below_step HB2.out HB3.out)
      replace hx0 := (HBw.out.cell (World.block_lt_of_cell? w _ hx0)).trans hx0
      rw [Int.toNat_natCast] at hx0
      have hg := HG.out
      have hdr : l1.drop k = rd l1 (k : Int) :: l1.drop (k + 1) := by
        rw [List.drop_eq_getElem_cons hlt]; simp [rd, List.getElem?_eq_getElem hlt]
      rw [hdr, flow_Spread.go] at hg
      clear HG hdr
      generalize rd l1 (k : Int) = d at hx0 hg
      obtain ⟨rfl, hc9⟩ := HLN.out
      obtain ⟨due, hdue⟩ : ∃ due, due = left.filter (fun x => decide (x.f0 ≤ d)) := ⟨_, rfl⟩
      obtain ⟨rest, hrest⟩ : ∃ rest, rest = left.filter (fun x => !decide (x.f0 ≤ d)) := ⟨_, rfl⟩
      have HPT := Aside0.mk (show flow_Parted.f (left.length + 1) left d = some (due, rest) by rw [hdue, hrest]; exact flow_Spread.part d left (by omega))
      have hrl : rest.length ≤ 600 := by rw [hrest]; exact Nat.le_trans (List.length_filter_le _ _) hn9
      rw [← hdue, ← hrest] at hg
      clear hdue hrest
      have HG := Aside0.mk hg
      clear hg
      go_wp2_with fail
      with_reducible refine (flow_Parted.calls (left.length + 1) A9 c9 left d due rest wr (Kd.F_now HFL.out) hc9 HPT.out).mono ?_
      rintro e w4 ⟨v0, v1, rfl, hR0, hR1, hb⟩
      have HB4 := Aside0.mk hb
      obtain ⟨inner, hown⟩ := Kd.R_own HO.out
      have HR1n := Aside0.mk (Kd.R_new hR1 hown)
      clear hb hown
      obtain ⟨Ad, cd, rfl, hcd, hCd⟩ := Kd.R_reads hR0
      obtain ⟨Ar, cr, rfl, hcr, _⟩ := Kd.R_reads hR1
      have HCD := Aside0.mk hCd
      clear hCd hR0 hR1
      obtain ⟨⟨n, e⟩, ht, hrest⟩ := Option.bind_eq_some_iff.mp (show _ = _ from (Option.bind_assoc _ _ _).symm.trans HG.out)
      have HT := Aside0.mk ht
      clear HG ht
      have hO4 := Aside0.mk (Kd.R_below HO.out HB4.out)
      go_wp2_with fail
      with_reducible refine (flow_Total.calls Ad cd due n e w4 HCD.out hcd HT.out).mono ?_
      rintro e1 w5 ⟨rfl, hb⟩
      have HB5 := Aside0.mk hb
      clear hb
      have HO5 := Aside0.mk (Kd.R_below hO4.out HB5.out)
      have HF5 : Aside0 (Kd.F k39 w5 (fun k => True ∧ some k ≠ u8.ownBlock) Ar rest.length rest) := ⟨Kd.F_below (Kd.F_mono (Kd.R_F HR1n.out) (fun k hk => ⟨trivial, hk.2⟩)) HB5.out⟩
      have HBB := Aside0.mk (below_step (below_step HB3.out HB4.out) HB5.out)
      have hsz := HBB.out.size
      clear HR1n hO4 HCD HFL HO
      by_cases he : e = 0
      · subst he
        have HG := Aside0.mk (show ((flow_Spread.go (l1.drop (k + 1)) rest (acc ++ [n])).bind fun t => if t.2.2 = 0 then (if 0 < t.2.1.length then some ([], 2) else if t.1.all flow_Flow_22.may = true then some (t.1, 0) else some ([], 3)) else some ([], t.2.2)) = some (r1, r2) by
          have h := hrest
          rw [if_pos rfl] at h
          exact h)
        clear hrest
        have hal := HAL.out
        go_wp2_with ((with_reducible refine gate_builtin (b := .append) (xs := #[.tmp 54, .tmp 56]) rfl ?_); at_builtin; refine Kd.R_append (Kd.int .i64) (w0 := w2) w2.heap.size rfl (.tmp 54) (.tmp 56) 46 2 (.int .i64 0) 8 rfl Try.underlying46 info2' rfl (by decide) (by omega) u8 acc n [.int .i64 n] (fun _ => True) (fun _ => False) rfl (by first | (go_simp; done) | (go_simp; rfl)) ?aP (fun _ hk => hk.elim) ?aF ?aO ?aB ?aS ?aL ?_; (case aP => rfl); (case aB => exact HBB.out); (case aF => exact (fun _ _ => trivial)); (case aO => exact HO5.out); (case aS => exact hsz); (case aL => omega); intro v8 w8 ho hb hg hat; have HO8 := Aside0.mk ho; have HB8 := Aside0.mk hb; have HF8 := Aside0.mk (Kd.F_after HF5.out hg hat); clear ho hb hg hat)
        go_roundw
        case rel => exact ⟨k + 1, acc ++ [n], rest, Ar, rest.length, cr, by omega, by go_num, rfl, hrl, ⟨by simp; omega⟩, ⟨⟨rfl, hcr⟩⟩, HG, HO8, ⟨Kd.F_mono HF8.out (fun _ hk => hk.2)⟩, HB8⟩
        case measure => simp [intOf]; omega
      · have hr := hrest
        rw [if_neg he, Option.bind_some] at hr
        rw [if_neg he] at hr
        simp only [Option.some.injEq, Prod.mk.injEq] at hr
        obtain ⟨rfl, rfl⟩ := hr
        have heb : (e == 0) = false := by simpa using he
        clear he hrest
        go_wp2
        go_ret2
        exact ⟨_, rfl, Kd.R_nil _ _ _ _ _, below_step HB2.out HBB.out⟩
    · obtain rfl : k = l1.length := by omega
      obtain ⟨rfl, hc9⟩ := HLN.out
      have hg := HG.out
      rw [List.drop_length, flow_Spread.go, Option.bind_some] at hg
      dsimp only at hg
      rw [if_pos rfl] at hg
      obtain ⟨A8, c8, rfl, hc8, hC8⟩ := Kd.R_reads HO.out
      have HC8 := Aside0.mk hC8
      clear hC8 HG
      by_cases hlf : 0 < left.length
      · rw [if_pos hlf] at hg
        simp only [Option.some.injEq, Prod.mk.injEq] at hg
        obtain ⟨rfl, rfl⟩ := hg
        have hb : decide ((0 : Int) < (left.length : Int)) = true := by simpa using hlf
        go_wp2
        go_ret2
        exact ⟨_, rfl, Kd.R_nil _ _ _ _ _, below_step HB2.out HB3.out⟩
      · rw [if_neg hlf] at hg
        have HG := Aside0.mk hg
        clear hg
        have hb : decide ((0 : Int) < (left.length : Int)) = false := by simpa using (by omega : ¬ (0 : Int) < (left.length : Int))
        have hal : acc.length ≤ 600 := by rw [HAL.out]; exact hl1
        go_wp2
        obtain ⟨wo, rfl⟩ : ∃ wo : World, wo = wr := ⟨_, rfl⟩
        go_loopw [64] (fun i wr => ∃ j : Nat, j ≤ acc.length ∧ i = .int .i64 j ∧ Aside0 ((acc.take j).all flow_Flow_22.may = true) ∧ Aside0 (Below wo.heap.size wo wr)) (fun i _ => acc.length - (intOf i).toNat)
        case atStart => exact ⟨0, Nat.zero_le _, rfl, ⟨rfl⟩, ⟨Below.refl _ _⟩⟩
        case round =>
          obtain ⟨j, hj, rfl, HM, HB6⟩ := hrel
          by_cases hlt2 : j < acc.length
          · obtain ⟨ad, rfl, hx0⟩ := Kd.at_int HC8.out (j : Int) (by omega) (by omega)
            replace hx0 := (HB6.out.cell (World.block_lt_of_cell? wo _ hx0)).trans hx0
            rw [Int.toNat_natCast] at hx0
            have hrd : rd acc (j : Int) = acc[j] := by simp [rd, List.getElem?_eq_getElem hlt2]
            rw [hrd] at hx0
            have HT : Aside0 ((acc.take (j + 1)).all flow_Flow_22.may = ((acc.take j).all flow_Flow_22.may && flow_Flow_22.may acc[j])) := ⟨by rw [List.take_succ_eq_append_getElem hlt2, List.all_append]; simp only [List.all_cons, List.all_nil, Bool.and_true]⟩
            have HIN : Aside0 (acc[j] ∈ acc) := ⟨List.getElem_mem hlt2⟩
            clear hrd
            generalize acc[j] = x at hx0 HT HIN
            have HMY := Aside0.mk (flow_Flow_22.may_eq x)
            cases hm : flow_Flow_22.may x
            · rw [hm] at HMY
              go_wp2_with (go_at_call 25; (with_reducible refine (money_May.calls x false wr HMY.out).mono ?_); rintro e w7 ⟨rfl, hd⟩; have HB7 := Aside0.mk (below_step HB6.out hd.below); clear hd)
              have hg := HG.out
              rw [if_neg (show ¬ acc.all flow_Flow_22.may = true from fun h => by rw [List.all_eq_true] at h; rw [h x HIN.out] at hm; cases hm)] at hg
              simp only [Option.some.injEq, Prod.mk.injEq] at hg
              obtain ⟨rfl, rfl⟩ := hg
              go_ret2
              exact ⟨_, rfl, Kd.R_nil _ _ _ _ _, below_step (below_step HB2.out HB3.out) HB7.out⟩
            · rw [hm] at HMY HT
              go_wp2_with (go_at_call 25; (with_reducible refine (money_May.calls x true wr HMY.out).mono ?_); rintro e w7 ⟨rfl, hd⟩; have HB7 := Aside0.mk (below_step HB6.out hd.below); clear hd)
              go_roundw
              case rel => exact ⟨j + 1, by omega, by go_num, ⟨by rw [HT.out, HM.out]; rfl⟩, HB7⟩
              case measure => simp [intOf]; omega
          · obtain rfl : j = acc.length := by omega
            rw [List.take_length] at HM
            have hg := HG.out
            rw [if_pos HM.out] at hg
            simp only [Option.some.injEq, Prod.mk.injEq] at hg
            obtain ⟨rfl, rfl⟩ := hg
            go_wp2
            go_ret2
            exact ⟨_, rfl, Kd.R_below (Kd.R_lower HO.out HB2.out.size) HB6.out, below_step (below_step HB2.out HB3.out) HB6.out⟩
set_option maxHeartbeats 4000000 in
set_option maxRecDepth 100000 in
theorem flow_Spread.calls (A0 : Option Addr) (c0 : Nat) (l0 : List (S39)) (A1 : Option Addr) (c1 : Nat) (l1 : List Int) (r1 : List Int) (r2 : Int) (w : World) (hr0 : Kd.C k39 w A0 l0.length l0) (hc0 : l0.length ≤ c0) (hr1 : Kd.C (Kd.int .i64) w A1 l1.length l1) (hc1 : l1.length ≤ c1) (h : flow_Spread.f l0 l1 = some (r1, r2)) :
    Calls Try.prog 19 #[.slice A0 l0.length c0, .slice A1 l1.length c1] w fun e w' => ∃ v0_ : Value, e = .returned (.tuple #[v0_, .int .i64 r2]) ∧ Kd.R (Kd.int .i64) 2 w' w.heap.size (fun _ => True) v0_ r1 ∧ Below w.heap.size w w' := by
  unfold flow_Spread.f flow_Spread.g at h
  by_cases e0 : flow_Merge.e l0 = 0
  · rw [if_neg (by simpa using e0)] at h
    by_cases hl1 : 600 < l1.length
    · rw [if_pos hl1] at h
      simp only [Option.some.injEq, Prod.mk.injEq] at h
      obtain ⟨rfl, rfl⟩ := h
      have HR0 := Aside0.mk hr0
      have HF0 := Aside0.mk (show flow_Check.f l0 = some 0 by rw [flow_Merge.e_eq, e0])
      have hb : decide ((600 : Int) < (l1.length : Int)) = true := decide_eq_true (by omega)
      clear hr0 hr1 e0
      go_enter Try.func19, Try.ntmps19
      go_wp2_with (go_at_call 17; (with_reducible refine (flow_Check.calls A0 c0 l0 0 w HR0.out hc0 HF0.out).mono ?_); rintro e w1 ⟨rfl, hb⟩; have HB1 := Aside0.mk hb; clear hb)
      go_ret2
      exact ⟨_, rfl, Kd.R_nil _ _ _ _ _, HB1.out⟩
    · rw [if_neg hl1] at h
      by_cases e1 : flow_rising_int.rise 0 l1 = 0
      · rw [if_neg (by simpa using e1)] at h
        exact flow_Spread.walk A0 c0 l0 A1 c1 l1 r1 r2 w hr0 hc0 hr1 hc1 e0 (by omega) e1 h
      · rw [if_pos e1] at h
        simp only [Option.some.injEq, Prod.mk.injEq] at h
        obtain ⟨rfl, rfl⟩ := h
        have HR0 := Aside0.mk hr0
        have HR1 := Aside0.mk hr1
        have HF0 := Aside0.mk (show flow_Check.f l0 = some 0 by rw [flow_Merge.e_eq, e0])
        have hb : decide ((600 : Int) < (l1.length : Int)) = false := by simpa using (by omega : ¬ (600 : Int) < (l1.length : Int))
        have eb : (flow_rising_int.rise 0 l1 == 0) = false := by simpa using e1
        clear hr0 hr1 e0 e1
        go_enter Try.func19, Try.ntmps19
        go_wp2_with (first | (go_at_call 17; (with_reducible refine (flow_Check.calls A0 c0 l0 0 w HR0.out hc0 HF0.out).mono ?_); rintro e w1 ⟨rfl, hb⟩; have HB1 := Aside0.mk hb; clear hb) | (go_at_call 31; (with_reducible refine (flow_rising_int.go_ A1 c1 l1 w1 (Kd.C_below HR1.out HB1.out) hc1 (by omega)).mono ?_); rintro e w2 ⟨rfl, hb⟩; have HB2 := Aside0.mk (below_step HB1.out hb); clear hb))
        go_ret2
        exact ⟨_, rfl, Kd.R_nil _ _ _ _ _, HB2.out⟩
  · rw [if_pos e0] at h
    simp only [Option.some.injEq, Prod.mk.injEq] at h
    obtain ⟨rfl, rfl⟩ := h
    have HR0 := Aside0.mk hr0
    have HF0 := Aside0.mk (flow_Merge.e_eq l0)
    have eb : (flow_Merge.e l0 == 0) = false := by simpa using e0
    clear hr0 hr1 e0
    go_enter Try.func19, Try.ntmps19
    go_wp2_with (go_at_call 17; (with_reducible refine (flow_Check.calls A0 c0 l0 _ w HR0.out hc0 HF0.out).mono ?_); rintro e w1 ⟨rfl, hb⟩; have HB1 := Aside0.mk hb; clear hb)
    go_ret2
    exact ⟨_, rfl, Kd.R_nil _ _ _ _ _, HB1.out⟩


end Go.Proofs.Ytpolkjmdkeengaa.Print
