-- written by this session's program wip/hybrid.py over the kit's printer, and by hand. Not trusted: Lean checks it.
import Derived.Test.YtpcllhhbaockfaaPrint0
import Derived.Test.YtpcllhhbaockfaaPrint1
import Derived.Test.YtpcllhhbaockfaaPrint9
import Derived.Test.YtpcllhhbaockfaaPrint11
import Derived.Test.YtpcllhhbaockfaaPrint12
import Derived.Test.YtpcllhhbaockfaaPrint13
namespace Go.Proofs.Ytpcllhhbaockfaa.Print
open Go.RowKit Go.Proofs.YtpcllhhbaockfaaW.PrintWords Go.Proofs.YtpcllhhbaockfaaW.PrintLast Go.Proofs.YtpcllhhbaockfaaW.PrintMore
attribute [local go_sem] max2_int min2_int max_two min_two max_three min_three max_four min_four   -- for this text's walks alone
set_option linter.unusedVariables false
set_option linter.unusedSimpArgs false

/-! ### close_Closer_Take: function 9 -/
def inF (n : Int) : Prop := -1125899906842624 ≤ n ∧ n ≤ 1125899906842624
def farD (d : D6) : Prop := inF d.a ∧ inF d.i ∧ inF d.e ∧ inF d.r ∧ inF d.w ∧ inF d.v
instance (n : Int) : Decidable (inF n) := by unfold inF; infer_instance
instance (d : D6) : Decidable (farD d) := by unfold farD; infer_instance
/-- What taking answers, and leaves: the report, how many were taken, all changes. -/
def takeR (x : Rep) (t : Nat) (ch : List S64) (d : D6) (dc : List S64) : Int × Rep × Nat × List S64 :=
  if farD d ∧ (allow_Roll.g 0 0 0 dc).2.2.2 = 0 then
    if 4096 ≤ t then (10, x, t, ch)
    else if (withR x d (ch ++ dc)).2 = 0 then (0, (withR x d (ch ++ dc)).1, t + 1, ch ++ dc) else ((withR x d (ch ++ dc)).2, x, t, ch)
  else (2, x, t, ch)
/-- A closer: its struct, its closed reports, the changes taken. -/
structure CA (B : Nat) (w : World) (p : Nat) (pv : Value) (past : List Rep) (x : Rep) (t : Nat) (cv : Value) (ch : List S64) : Prop where
  hp : w.heap[p]? = some (.cells (ccells pv x t cv) 57 (0, 0))
  hw : Kd.R (Kd.raw 27) 41 w B (fun _ => True) pv (past.map (fun r => r.cs.toList))
  hc : Kd.R k64 64 w B (fun _ => True) cv ch
  hB : B ≤ p
variable {B : Nat} {w w' : World} {p t : Nat} {pv cv : Value} {past : List Rep} {x : Rep} {ch : List S64}
theorem CA.below (h : CA B w p pv past x t cv ch) (hb : Below w.heap.size w w') : CA B w' p pv past x t cv ch := ⟨blk_below h.hp hb, Kd.R_below h.hw hb, Kd.R_below h.hc hb, h.hB⟩
theorem R_row {α : Type} {d : Kd α} {e base t g : Nat} {w : World} {ok : Nat → Prop} {v : Value} {xs : List α} {cells : Array Value} (h : d.R e w base ok v xs) (hb : w.heap[g]? = some (.cells cells t (0, 0))) (ht : ∀ q, q ∈ e :: d.E → q ≠ t) (cs : Array Value) : d.R e (w.setRow g cs) base ok v xs :=
  Kd.R_mono (Kd.R_step (Kd.R_types h hb ht) (fun k hk _ => setRow_other w g k cs hk.2)) (fun _ hk => hk.1)
theorem CA.put_row {g : Nat} {cells : Array Value} (h : CA B w p pv past x t cv ch) (hg : w.heap[g]? = some (.cells cells 57 (0, 0))) {cs : Array Value} {x2 : Rep} {t2 : Nat} {cv2 : Value} {ch2 : List S64} (hpg : p = g) (hcs : cs = ccells pv x2 t2 cv2) (hc2 : Kd.R k64 64 w B (fun _ => True) cv2 ch2) : CA B (w.setRow g cs) p pv past x2 t2 cv2 ch2 := by
  subst hpg hcs
  exact ⟨setRow_heap _ _ _ _ _ _ h.hp, R_row h.hw hg (by decide) _, R_row hc2 hg (by decide) _, h.hB⟩
theorem slit_step {P : Program} {ops : Array Oper} {o : Oper} {a : Act} {Kc : Act → World → Prop} {Q : Exit → Act → World → Prop} {W : World} (hw : Region.wanted o (yielded ops a.tmps) = true) {N : Tmp} (_hd : o.dst = some N) {n : Nat} {cs : Array Value} {t : TypeId}
    (hrun : (execOp a.eval o).run P W = .ok (.value (.slice (some ⟨W.heap.size, 0, none⟩) n n)) (W.alloc (.cells cs t)))
    (h : ∀ g, W.heap.size ≤ g → ∀ w1, w1.heap[g]? = some (.cells cs t (0, 0)) → Below W.heap.size W w1 → Kc (a.put o.dst (.slice (some ⟨g, 0, none⟩) n n)) w1) : if Region.wanted o (yielded ops a.tmps) = true then Oper.wp P o a W Kc Q else Kc (a.put o.dst undef) W :=
  event_step hw hrun (h _ (Nat.le_refl _) _ (blk_new W _) (below_alloc (Below.refl _ _) _))
theorem two_C {w : World} {g : Nat} {A0 A1 : Option Addr} {c0 c1 : Nat} {l0 l1 : List S64} (hg : w.heap[g]? = some (.cells #[.slice A0 l0.length c0, .slice A1 l1.length c1] 49 (0, 0))) (h0 : k64.C w A0 l0.length l0) (n0 : l0.length ≤ c0) (h1 : k64.C w A1 l1.length l1) (n1 : l1.length ≤ c1) : Kd.C (Kd.slice 64 k64) w (some ⟨g, 0, none⟩) [l0, l1].length [l0, l1] := by
  refine ⟨rfl, by simp, fun _ => ⟨⟨g, 0, none⟩, rfl, fun j q hj => ?_⟩⟩
  have hlt := (List.getElem?_eq_some_iff.1 hj).1
  have : j = 0 ∨ j = 1 := by simp at hlt; omega
  rcases this with rfl | rfl
  · obtain rfl : l0 = q := by simpa using hj
    refine ⟨[.slice A0 l0.length c0], rfl, ⟨A0, c0, rfl, n0, h0⟩, fun i u hu => ?_⟩
    have hi : i = 0 := by have := (List.getElem?_eq_some_iff.1 hu).1; simpa using this
    subst hi
    exact (blk_cell hg 0).trans hu
  · obtain rfl : l1 = q := by simpa using hj
    refine ⟨[.slice A1 l1.length c1], rfl, ⟨A1, c1, rfl, n1, h1⟩, fun i u hu => ?_⟩
    have hi : i = 0 := by have := (List.getElem?_eq_some_iff.1 hu).1; simpa using this
    subst hi
    exact (blk_cell hg 1).trans hu
theorem chg_Concat2 {w : World} {g : Nat} {A0 A1 : Option Addr} {c0 c1 : Nat} {l0 l1 : List S64} (hg : w.heap[g]? = some (.cells #[.slice A0 l0.length c0, .slice A1 l1.length c1] 49 (0, 0))) (h0 : k64.C w A0 l0.length l0) (n0 : l0.length ≤ c0) (h1 : k64.C w A1 l1.length l1) (n1 : l1.length ≤ c1) (hl : l0.length + l1.length ≤ 1000000000) {l2 : List S64} (e2 : l0 ++ l1 = l2) :
    Calls Try.prog 16 #[.slice (some ⟨g, 0, none⟩) 2 2] w fun e w' => ∃ A' c', e = .returned (.slice A' l2.length c') ∧ Kd.R k64 64 w' w.heap.size (fun _ => True) (.slice A' l2.length c') l2 ∧ Below w.heap.size w w' := by
  refine (chg_Concat (c := 2) (two_C hg h0 n0 h1 n1) (by simp) (by simp [ctot]; omega) (by simp)).mono ?_
  rintro e w1 ⟨v, rfl, hR, hb⟩
  have e3 : [l0, l1].flatten = l2 := by rw [← e2]; simp
  rw [e3] at hR
  obtain ⟨A', c', hv⟩ := Kd.R_slice hR
  subst hv
  exact ⟨A', c', rfl, hR, hb⟩
theorem close_Closer_Take.nil {b0 b1 : Int} {lv dv : Value} {d : D6} : Calls Try.prog 9 #[.pointer none, .agg (dcs b0 b1 lv d dv)] w fun e w' => e = .returned (.int .i64 1) ∧ Below w.heap.size w w' := by
  have hb := below_alloc (Below.refl w.heap.size w) (.cells (dcs b0 b1 lv d dv) 51)
  go_enter Try.func9, Try.ntmps9
  go_wp2_with fail
  go_ret
  exact ⟨rfl, hb⟩
set_option maxHeartbeats 16000000 in
set_option maxRecDepth 100000 in
theorem close_Closer_Take.calls (h : CA B w p pv past x t cv ch) (hl : ch.length ≤ 100000000) (d : D6) {b0 b1 : Int} {lv : Value} {A : Option Addr} {c : Nat} {dc : List S64} (hC : Kd.C k64 w A dc.length dc) (hcd : dc.length ≤ c) (hld : dc.length ≤ 100000000) {er : Int} {x2 : Rep} {t2 : Nat} {ch2 : List S64} (hq : takeR x t ch d dc = (er, x2, t2, ch2)) :
    Calls Try.prog 9 #[.pointer (some ⟨p, 0, none⟩), .agg (dcs b0 b1 lv d (.slice A dc.length c))] w fun e w' => ∃ cv2, e = .returned (.int .i64 er) ∧ CA B w' p pv past x2 t2 cv2 ch2 ∧ Mv (fun k => k = p) (fun k => k = p) w w' := by
  obtain ⟨Ac, cc, hcv⟩ := Kd.R_slice h.hc
  subst hcv
  have hb := below_alloc (Below.refl w.heap.size w) (.cells (dcs b0 b1 lv d (.slice A dc.length c)) 51)
  have k0 := blk_new w (.cells (dcs b0 b1 lv d (.slice A dc.length c)) 51)
  have HB := Aside0.mk hb
  have H3 := Aside0.mk k0
  have HA := Aside0.mk (h.below hb)
  have HC := Aside0.mk hC
  replace hq := Aside0.mk hq
  clear hb k0 h hC
  go_enter Try.func9, Try.ntmps9
  go_upto_region 1 with fail
  obtain ⟨g3, hg3⟩ : ∃ g, g = w.heap.size := ⟨_, rfl⟩
  rw [← hg3] at H3 ⊢
  generalize w.alloc (.cells (dcs b0 b1 lv d (.slice A dc.length c)) 51) = w1 at HB H3 HA ⊢
  clear hg3
  have d0 : w1.cell? ⟨g3, 3, none⟩ = some (.int .i64 d.a) := (blk_cell H3.out 3).trans rfl
  have d1 : w1.cell? ⟨g3, 4, none⟩ = some (.int .i64 d.i) := (blk_cell H3.out 4).trans rfl
  have d2 : w1.cell? ⟨g3, 5, none⟩ = some (.int .i64 d.e) := (blk_cell H3.out 5).trans rfl
  have d3 : w1.cell? ⟨g3, 6, none⟩ = some (.int .i64 d.r) := (blk_cell H3.out 6).trans rfl
  have d4 : w1.cell? ⟨g3, 7, none⟩ = some (.int .i64 d.w) := (blk_cell H3.out 7).trans rfl
  have d5 : w1.cell? ⟨g3, 8, none⟩ = some (.int .i64 d.v) := (blk_cell H3.out 8).trans rfl
  have hba := below_alloc (Below.refl w1.heap.size w1) (.cells #[.int .i64 d.a, .int .i64 d.i, .int .i64 d.e, .int .i64 d.r, .int .i64 d.w, .int .i64 d.v] 2)
  by_cases hf : farD d
  case neg =>
    have hq' := hq.out
    rw [takeR, if_neg (fun h => hf h.1)] at hq'
    obtain ⟨rfl, rfl, rfl, rfl⟩ : (2 : Int) = er ∧ x = x2 ∧ t = t2 ∧ ch = ch2 := by simpa using hq'
    clear hq' hq
    go_wp2_with fail
    refine (close_within.lit (-1125899906842624) 1125899906842624 [d.a, d.i, d.e, d.r, d.w, d.v] (b := false) (decide_eq_false (fun h => hf ⟨h _ (by simp), h _ (by simp), h _ (by simp), h _ (by simp), h _ (by simp), h _ (by simp)⟩)) (by simp) rfl (blk_new w1 _) rfl).mono ?_
    rintro e w2 ⟨rfl, hb⟩
    have hb2 := below_step hba hb
    have HM := Aside0.mk (Mv.of_below (F := fun k => k = p) (below_step HB.out hb2))
    have HA2 := Aside0.mk (HA.out.below hb2)
    clear hb hb2 hba HB HA H3 d0 d1 d2 d3 d4 d5
    go_wp2_with fail
    go_ret
    first | exact ⟨_, rfl, HA2.out, HM.out⟩ | exact ⟨rfl, _, HA2.out, HM.out⟩
  go_wp2_with fail
  refine (close_within.lit (-1125899906842624) 1125899906842624 [d.a, d.i, d.e, d.r, d.w, d.v] (b := true) (decide_eq_true (fun y hy => by simp only [List.mem_cons, List.not_mem_nil, or_false] at hy; obtain ⟨f0, f1, f2, f3, f4, f5⟩ := hf; rcases hy with rfl | rfl | rfl | rfl | rfl | rfl <;> first | exact f0 | exact f1 | exact f2 | exact f3 | exact f4 | exact f5)) (by simp) rfl (blk_new w1 _) rfl).mono ?_
  rintro e w2 ⟨rfl, hb⟩
  have hb2 := below_step hba hb
  have HB2 := Aside0.mk (below_step HB.out hb2)
  have HA2 := Aside0.mk (HA.out.below hb2)
  have H32 := Aside0.mk (blk_below H3.out hb2)
  clear hb hb2 hba HB HA H3 d0 d1 d2 d3 d4 d5
  have c9 : w2.cell? ⟨g3, 9, none⟩ = some (.slice A dc.length c) := (blk_cell H32.out 9).trans rfl
  obtain ⟨⟨r0, r1, r2, e0⟩, hroll⟩ : ∃ R, allow_Roll.g 0 0 0 dc = R := ⟨_, rfl⟩
  have CR := Aside0.mk (allow_Roll.go_ A c dc 0 0 0 w2 (Kd.C_below HC.out HB2.out) hcd)
  rw [hroll] at CR
  go_wp2_with fail
  refine CR.out.mono ?_
  rintro e w3 ⟨rfl, hb⟩
  have HB := Aside0.mk (below_step HB2.out hb)
  have HA := Aside0.mk (HA2.out.below hb)
  have H3 := Aside0.mk (blk_below H32.out hb)
  clear hb HB2 HA2 H32 CR c9
  go_wp2_with ((with_reducible refine gate_store (t := 39) (p := 5) (v := .tmp 32) rfl ?_); refine Shut.out ?_)
  unfold Shut
  change wpList _ _ _ _ _ (w3.alloc (.cells (row18 Row6.z Row6.z Row6.z) 39))
  obtain ⟨hnb, hnk⟩ := newbk w3 (row18 Row6.z Row6.z Row6.z) (row18 r0 r1 r2) 39
  refine store_rowTo rfl 39 (.tmp 5) (.tmp 32) rfl rfl w3.heap.size (row18 r0 r1 r2) rfl rfl 39 _ (blk_new w3 _) (by kernel_rfl) rfl (row18_all _ _ _) ?_
  have HB2 := Aside0.mk (below_step HB.out hnb)
  have HA2 := Aside0.mk (HA.out.below hnb)
  have H32 := Aside0.mk (blk_below H3.out hnb)
  clear HB HA H3 hnb hnk
  generalize (w3.alloc (.cells (row18 Row6.z Row6.z Row6.z) 39)).setRow w3.heap.size (row18 r0 r1 r2) = w4 at HB2 HA2 H32 ⊢
  generalize w3.heap.size = g5
  by_cases he : e0 = 0
  case neg =>
    have e1 : (e0 != 0) = true := by simpa using he
    have hq' := hq.out
    rw [takeR, hroll, if_neg (fun h => he h.2)] at hq'
    obtain ⟨rfl, rfl, rfl, rfl⟩ : (2 : Int) = er ∧ x = x2 ∧ t = t2 ∧ ch = ch2 := by simpa using hq'
    clear hq' hq
    have HM := Aside0.mk (Mv.of_below (F := fun k => k = p) HB2.out)
    go_wp2_with fail
    go_ret
    first | exact ⟨_, rfl, HA2.out, HM.out⟩ | exact ⟨rfl, _, HA2.out, HM.out⟩
  subst he
  have hq' := hq.out
  rw [takeR, hroll, if_pos ⟨hf, rfl⟩] at hq'
  have e1 : ((0 : Int) != 0) = false := rfl
  have c28 : w4.cell? ⟨p, 28, none⟩ = some (.int .i64 (t : Int)) := (blk_cell HA2.out.hp 28).trans rfl
  by_cases ht : 4096 ≤ t
  case pos =>
    rw [if_pos ht] at hq'
    obtain ⟨rfl, rfl, rfl, rfl⟩ : (10 : Int) = er ∧ x = x2 ∧ t = t2 ∧ ch = ch2 := by simpa using hq'
    clear hq' hq
    have HM := Aside0.mk (Mv.of_below (F := fun k => k = p) HB2.out)
    have ht2 : (4096 : Int) ≤ (t : Int) := by omega
    go_wp2_with fail
    go_ret
    first | exact ⟨_, rfl, HA2.out, HM.out⟩ | exact ⟨rfl, _, HA2.out, HM.out⟩
  rw [if_neg ht] at hq'
  have ht2 : ¬ (4096 : Int) ≤ (t : Int) := by omega
  replace hq := Aside0.mk hq'
  have HB := HB2
  have HA := HA2
  have H3 := H32
  obtain ⟨cn, hcn⟩ : ∃ cn, ch ++ dc = cn := ⟨_, rfl⟩
  rw [hcn] at hq
  replace hcn := Aside0.mk hcn
  clear hq' HB2 HA2 H32 hroll
  go_wp2_with fail
  clear c28
  have n_HB := Aside0.mk (below_step HB.out (below_drew (Below.refl _ _)))
  have n_HA := Aside0.mk (HA.out.below (below_drew (Below.refl _ _)))
  have n_H3 := Aside0.mk (blk_below H3.out (below_drew (Below.refl _ _)))
  clear HB
  have HB := n_HB
  clear n_HB
  clear HA
  have HA := n_HA
  clear n_HA
  clear H3
  have H3 := n_H3
  clear n_H3
  refine start_ (n := 9) (S := fun w' => w'.cell? ⟨p, 29, none⟩ = some (.slice Ac ch.length cc) ∧ w'.cell? ⟨g3, 9, none⟩ = some (.slice A dc.length c)) (ds := []) #[false, false, false, false, false, false, false, false, false] (by kernel_rfl) rfl rfl ⟨(blk_cell HA.out.hp 29).trans rfl, (blk_cell H3.out 9).trans rfl⟩ (fun hHeld => ?_)
  generalize w4.drew = w5 at HB HA H3 hHeld ⊢
  refine pure_ (i := 0) (N := some 41) (v := ?_) (a' := ?_) #[true, false, false, false, false, false, false, false, false] rfl rfl (by kernel_rfl) (fun _ _ _ h => h) (Or.inl ⟨by rfl, ?_⟩) ?_ ?_
  rotate_left
  · intro w'
    go_simp
    with_reducible rfl
  rotate_left
  · simp only [Act.put, List.setIfInBounds_toArray, List.set_cons_zero, List.set_cons_succ, i64_w, i32_w]
    rfl
  refine pure_ (i := 1) (N := some 42) (v := ?_) (a' := ?_) #[true, true, false, false, false, false, false, false, false] rfl rfl (by kernel_rfl) (fun _ _ _ h => h) (Or.inl ⟨by rfl, ?_⟩) ?_ ?_
  rotate_left
  · intro w'
    go_simp
    with_reducible rfl
  rotate_left
  · simp only [Act.put, List.setIfInBounds_toArray, List.set_cons_zero, List.set_cons_succ, i64_w, i32_w]
    rfl
  refine pure_ (i := 2) (N := some 43) (v := ?_) (a' := ?_) #[true, true, true, false, false, false, false, false, false] rfl rfl (by kernel_rfl) (fun _ _ _ h => h) (Or.inl ⟨by rfl, ?_⟩) ?_ ?_
  rotate_left
  · intro w'
    go_simp
    with_reducible rfl
  rotate_left
  · simp only [Act.put, List.setIfInBounds_toArray, List.set_cons_zero, List.set_cons_succ, i64_w, i32_w]
    rfl
  refine pure_ (i := 4) (N := some 45) (v := ?_) (a' := ?_) #[true, true, true, false, true, false, false, false, false] rfl rfl (by kernel_rfl) (fun _ _ _ h => h) (Or.inl ⟨by rfl, ?_⟩) ?_ ?_
  rotate_left
  · intro w'
    go_simp
    with_reducible rfl
  rotate_left
  · simp only [Act.put, List.setIfInBounds_toArray, List.set_cons_zero, List.set_cons_succ, i64_w, i32_w]
    rfl
  refine take_ (i := 3) (N := some 44) (v := ?_) (a' := ?_) #[true, true, true, true, true, false, false, false, false] rfl rfl (by kernel_rfl) (fun _ _ _ h => h) (Or.inl ⟨by rfl, ?_⟩) hHeld ?_ ?_
  rotate_left
  · rintro w' ⟨s0, s1⟩
    go_simp
    with_reducible rfl
  rotate_left
  · simp only [Act.put, List.setIfInBounds_toArray, List.set_cons_zero, List.set_cons_succ, i64_w, i32_w]
    rfl
  refine take_ (i := 5) (N := some 46) (v := ?_) (a' := ?_) #[true, true, true, true, true, true, false, false, false] rfl rfl (by kernel_rfl) (fun _ _ _ h => h) (Or.inl ⟨by rfl, ?_⟩) hHeld ?_ ?_
  rotate_left
  · rintro w' ⟨s0, s1⟩
    go_simp
    with_reducible rfl
  rotate_left
  · simp only [Act.put, List.setIfInBounds_toArray, List.set_cons_zero, List.set_cons_succ, i64_w, i32_w]
    rfl
  refine one_ (i := 6) (N := some 47) #[true, true, true, true, true, true, true, false, false] rfl rfl (by kernel_rfl) (by decide) (fun K hK => ?_)
  refine slit_step (n := 2) (N := 47) ?hg ?hd (cs := #[.slice Ac ch.length cc, .slice A dc.length c]) (t := 49) ?hr ?_; (case hd => rfl); (case hg => rfl); (case hr => first | (go_simp; done) | (go_simp; rfl))
  intro g47 hgg y1_ hbox hb
  have m_ := Aside0.mk hbox
  have n_HB := Aside0.mk (below_step HB.out hb)
  have n_HA := Aside0.mk (HA.out.below hb)
  have n_H3 := Aside0.mk (blk_below H3.out hb)
  clear HB
  have HB := n_HB
  clear n_HB
  clear HA
  have HA := n_HA
  clear n_HA
  clear H3
  have H3 := n_H3
  clear n_H3
  clear hb hbox hgg
  have BKg47 := m_
  clear m_
  refine hK.out _ _ ⟨(blk_cell HA.out.hp 29).trans rfl, (blk_cell H3.out 9).trans rfl⟩ (fun hHeld => ?_)
  clear hK K
  refine norm_ (a' := ?_) ?_ ?_
  rotate_left
  · show Act.put _ (some 47) _ = _
    simp only [Act.put, List.setIfInBounds_toArray, List.set_cons_zero, List.set_cons_succ, i64_w, i32_w]
    rfl
  refine one_ (i := 7) (N := some 48) #[true, true, true, true, true, true, true, true, false] rfl rfl (by kernel_rfl) (by decide) (fun K hK => ?_)
  refine goes_ Try.func16 (by kernel_rfl) rfl #[.slice (some ⟨g47, 0, none⟩) 2 2] (by rfl) rfl rfl (by (try simp only [List.map_toArray, List.map_cons, List.map_nil]); first | done | rfl) ?_
  with_reducible refine (chg_Concat2 BKg47.out (Kd.R_reads' HA.out.hc).2.2 (Kd.R_reads' HA.out.hc).2.1 (Kd.C_below HC.out HB.out) hcd (by omega) hcn.out).mono ?_
  rintro e y2_ ⟨A7, c7, rfl, hR, hb⟩
  refine ⟨_, rfl, ?_⟩
  have m_H7 := Aside0.mk (show Kd.R k64 64 _ B (fun _ => True) (.slice A7 cn.length c7) cn from Kd.R_lower hR (Nat.le_trans HA.out.hB (Nat.le_of_lt (blk_lt HA.out.hp))))
  have n_HB := Aside0.mk (below_step HB.out hb)
  have n_HA := Aside0.mk (HA.out.below hb)
  have n_H3 := Aside0.mk (blk_below H3.out hb)
  clear HB
  have HB := n_HB
  clear n_HB
  clear HA
  have HA := n_HA
  clear n_HA
  clear H3
  have H3 := n_H3
  clear n_H3
  clear hb
  clear BKg47
  have H7 := m_H7
  clear m_H7
  clear hR
  refine hK.out _ _ ⟨(blk_cell HA.out.hp 29).trans rfl, (blk_cell H3.out 9).trans rfl⟩ (fun hHeld => ?_)
  clear hK K
  refine norm_ (a' := ?_) ?_ ?_
  rotate_left
  · show Act.put _ (some 48) _ = _
    simp only [Act.put, List.setIfInBounds_toArray, List.set_cons_zero, List.set_cons_succ, i64_w, i32_w]
    rfl
  refine pure_ (i := 8) (N := some 7) (v := ?_) (a' := ?_) #[true, true, true, true, true, true, true, true, true] rfl rfl (by kernel_rfl) (fun _ _ _ h => h) (Or.inl ⟨by rfl, ?_⟩) ?_ ?_
  rotate_left
  · intro w'
    go_simp
    with_reducible rfl
  rotate_left
  · simp only [Act.put, List.setIfInBounds_toArray, List.set_cons_zero, List.set_cons_succ, i64_w, i32_w]
    rfl
  refine done_ (by kernel_rfl) ?_
  clear hHeld
  generalize y2_ = w6 at HB HA H3 H7 ⊢
  obtain ⟨⟨x3, e3⟩, hwr⟩ : ∃ R, withR x d cn = R := ⟨_, rfl⟩
  rw [hwr] at hq
  have CW := Aside0.mk (close_Closer_with.calls x d (b0 := b0) (b1 := b1) (lv := lv) (dv := .slice A dc.length c) HA.out.hp (Kd.R_reads' H7.out).2.2 (Kd.R_reads' H7.out).2.1 hwr)
  clear hwr
  go_wp2_with ((with_reducible refine gate_dst (N := 51) rfl ?_); refine wpList_load_row rfl 51 (.tmp 3) rfl g3 rfl 51 _ (0, 0) _ H3.out Try.underlying51 rfl (by kernel_rfl) ?_)
  refine CW.out.mono ?_
  rintro e w7 ⟨rfl, hb⟩
  have HB2 := Aside0.mk (below_step HB.out hb)
  have HA2 := Aside0.mk (HA.out.below hb)
  have H72 := Aside0.mk (Kd.R_below H7.out hb)
  clear hb HB HA H3 H7 CW
  go_wp2_with ((with_reducible refine gate_store (t := 41) (p := 8) (v := .tmp 54) rfl ?_); refine Shut.out ?_)
  unfold Shut
  change wpList _ _ _ _ _ (w7.alloc (.cells Rep.z.cs 41))
  obtain ⟨hnb, hnk⟩ := newbk w7 Rep.z.cs x3.cs 41
  refine store_rowTo rfl 41 (.tmp 8) (.tmp 54) rfl rfl w7.heap.size x3.cs rfl rfl 41 _ (blk_new w7 _) (by kernel_rfl) rfl (Rep.all _) ?_
  have HB := Aside0.mk (below_step HB2.out hnb)
  have HA := Aside0.mk (HA2.out.below hnb)
  have H7 := Aside0.mk (Kd.R_below H72.out hnb)
  have H8 := Aside0.mk hnk
  clear HB2 HA2 H72 hnb hnk
  generalize (w7.alloc (.cells Rep.z.cs 41)).setRow w7.heap.size x3.cs = w8 at HB HA H7 H8 ⊢
  generalize w7.heap.size = g8 at H8 ⊢
  have hq' := hq.out
  by_cases he3 : e3 = 0
  case neg =>
    have e4 : (e3 != 0) = true := by simpa using he3
    rw [if_neg he3] at hq'
    obtain ⟨rfl, rfl, rfl, rfl⟩ : e3 = er ∧ x = x2 ∧ t = t2 ∧ ch = ch2 := by simpa using hq'
    clear hq' hq
    have HM := Aside0.mk (Mv.of_below (F := fun k => k = p) HB.out)
    go_wp2_with fail
    go_ret
    first | exact ⟨_, rfl, HA.out, HM.out⟩ | exact ⟨rfl, _, HA.out, HM.out⟩
  subst he3
  rw [if_pos rfl] at hq'
  obtain ⟨rfl, rfl, rfl, rfl⟩ : (0 : Int) = er ∧ x3 = x2 ∧ t + 1 = t2 ∧ cn = ch2 := by simpa using hq'
  clear hq' hq
  go_wp2_with (first | ((with_reducible refine gate_dst (N := 61) rfl ?_); refine wpList_load_row rfl 41 (.tmp 8) rfl g8 rfl 41 _ (0, 0) _ H8.out Try.underlying41 rfl (by kernel_rfl) ?_) | ((with_reducible refine gate_store (t := 41) (p := 64) (v := .tmp 61) rfl ?_); refine Shut.out ?_))
  unfold Shut
  refine wpl_skip rfl rfl (store_run_mid 41 (.tmp 64) (.tmp 61) rfl p 1 x3.cs rfl rfl 57 _ HA.out.hp (by kernel_rfl) (by show 1 + 27 ≤ 30; omega) (Rep.all _)) ?_
  rw [show ((ccells pv x t (.slice Ac ch.length cc)).toList.take 1 ++ x3.cs.toList ++ (ccells pv x t (.slice Ac ch.length cc)).toList.drop (1 + x3.cs.size)).toArray = ccells pv x3 t (.slice Ac ch.length cc) from rfl]
  have HA2 := Aside0.mk (HA.out.put_row HA.out.hp (x2 := x3) (t2 := t) rfl rfl HA.out.hc)
  have HM2 := Aside0.mk ((Mv.of_below (F := fun k => k = p) HB.out).trans (Mv.row (F := fun k => k = p) w8 p rfl (ccells pv x3 t (.slice Ac ch.length cc))))
  have H72 := Aside0.mk (show Kd.R k64 64 (w8.setRow p (ccells pv x3 t (.slice Ac ch.length cc))) B (fun _ => True) (.slice A7 cn.length c7) cn from R_row H7.out HA.out.hp (by decide) _)
  clear HA HB H7 H8
  generalize w8.setRow p (ccells pv x3 t (.slice Ac ch.length cc)) = w9 at HA2 HM2 H72 ⊢
  have c29 : w9.cell? ⟨p, 29, none⟩ = some (.slice Ac ch.length cc) := (blk_cell HA2.out.hp 29).trans rfl
  have f29 := blk_frozen HA2.out.hp 29
  go_upto_region 15 with fail
  clear c29 f29
  rw [put_step HA2.out.hp]
  rw [show (ccells pv x3 t (.slice Ac ch.length cc)).setIfInBounds 29 (.slice A7 cn.length c7) = ccells pv x3 t (.slice A7 cn.length c7) from rfl]
  have HA3 := Aside0.mk (HA2.out.put_row HA2.out.hp (x2 := x3) (t2 := t) (cv2 := .slice A7 cn.length c7) rfl rfl H72.out)
  have HM3 := Aside0.mk (HM2.out.trans (Mv.row (F := fun k => k = p) w9 p rfl (ccells pv x3 t (.slice A7 cn.length c7))))
  clear HA2 HM2 H72
  generalize w9.setRow p (ccells pv x3 t (.slice A7 cn.length c7)) = w10 at HA3 HM3 ⊢
  have c28 : w10.cell? ⟨p, 28, none⟩ = some (.int .i64 (t : Int)) := (blk_cell HA3.out.hp 28).trans rfl
  have f28 := blk_frozen HA3.out.hp 28
  go_wp2_with fail
  go_ret
  rw [put_step HA3.out.hp]
  rw [show (ccells pv x3 t (.slice A7 cn.length c7)).setIfInBounds 28 (.int .i64 ((t : Int) + 1)) = ccells pv x3 ((t + 1 : Nat) : Int) (.slice A7 cn.length c7) from rfl]
  have HA4 := HA3.out.put_row HA3.out.hp (x2 := x3) (t2 := t + 1) (cv2 := .slice A7 cn.length c7) rfl rfl HA3.out.hc
  have HM4 := HM3.out.trans (Mv.row (F := fun k => k = p) w10 p rfl (ccells pv x3 ((t + 1 : Nat) : Int) (.slice A7 cn.length c7)))
  first | exact ⟨_, rfl, HA4, HM4⟩ | exact ⟨rfl, _, HA4, HM4⟩


end Go.Proofs.Ytpcllhhbaockfaa.Print
