-- written by this session's program wip/hybrid.py over the kit's printer, and by hand. Not trusted: Lean checks it.
import Derived.Test.YtpcllhhbaockfaaPrint0
import Derived.Test.YtpcllhhbaockfaaPrint1
import Derived.Test.YtpcllhhbaockfaaPrint2
import Derived.Test.YtpcllhhbaockfaaPrint9
import Derived.Test.YtpcllhhbaockfaaPrint12
import Derived.Test.YtpcllhhbaockfaaPrint13
import Derived.Test.YtpcllhhbaockfaaPrint14
import Derived.Test.YtpcllhhbaockfaaPrint15
import Derived.Test.YtpcllhhbaockfaaPrint20
import Derived.Test.YtpcllhhbaockfaaPrint21
import Derived.Test.YtpcllhhbaockfaaPrint22
import Derived.Test.YtpcllhhbaockfaaPrint23
import Derived.Test.YtpcllhhbaockfaaPrint26
namespace Go.Proofs.Ytpcllhhbaockfaa.Print
open Go.RowKit Go.Proofs.YtpcllhhbaockfaaW.PrintWords Go.Proofs.YtpcllhhbaockfaaW.PrintLast Go.Proofs.YtpcllhhbaockfaaW.PrintMore
attribute [local go_sem] max2_int min2_int max_two min_two max_three min_three max_four min_four   -- for this text's walks alone
set_option linter.unusedVariables false
set_option linter.unusedSimpArgs false

/-! ### lombardlaw23_CloseStays: function 4 -/
def lombardlaw23_CloseStays.f (l : List S34) : Option Bool := some true
theorem stA36 (d : Nat) (w : World) (x0 y0 x1 y1 x2 y2 x3 y3 x4 y4 x5 y5 x6 y6 : Int) :
    (Op.equalIn (d + 2) 36 (.agg #[.int .i64 x0, .int .i64 x1, .int .i64 x2, .int .i64 x3, .int .i64 x4, .int .i64 x5, .int .i64 x6]) (.agg #[.int .i64 y0, .int .i64 y1, .int .i64 y2, .int .i64 y3, .int .i64 y4, .int .i64 y5, .int .i64 y6])).run Try.prog w = .ok (x0 == y0 && (x1 == y1 && (x2 == y2 && (x3 == y3 && (x4 == y4 && (x5 == y5 && (x6 == y6))))))) w := by
  refine eqA_of Try.underlying36 (by kernel_rfl) ?_
  refine eqf_cons (by rfl) (by go_simp; rfl) (by go_simp; rfl) (by go_simp) ?_
  refine eqf_cons (by rfl) (by go_simp; rfl) (by go_simp; rfl) (by go_simp) ?_
  refine eqf_cons (by rfl) (by go_simp; rfl) (by go_simp; rfl) (by go_simp) ?_
  refine eqf_cons (by rfl) (by go_simp; rfl) (by go_simp; rfl) (by go_simp) ?_
  refine eqf_cons (by rfl) (by go_simp; rfl) (by go_simp; rfl) (by go_simp) ?_
  refine eqf_cons (by rfl) (by go_simp; rfl) (by go_simp; rfl) (by go_simp) ?_
  exact eqf_last (by rfl) (by go_simp; rfl) (by go_simp; rfl) (by go_simp)
theorem stA38 (d : Nat) (w : World) (x0 y0 x1 y1 x2 y2 x3 y3 x4 y4 x5 y5 : Int) :
    (Op.equalIn (d + 2) 38 (.agg #[.int .i64 x0, .int .i64 x1, .int .i64 x2, .int .i64 x3, .int .i64 x4, .int .i64 x5]) (.agg #[.int .i64 y0, .int .i64 y1, .int .i64 y2, .int .i64 y3, .int .i64 y4, .int .i64 y5])).run Try.prog w = .ok (x0 == y0 && (x1 == y1 && (x2 == y2 && (x3 == y3 && (x4 == y4 && (x5 == y5)))))) w := by
  refine eqA_of Try.underlying38 (by kernel_rfl) ?_
  refine eqf_cons (by rfl) (by go_simp; rfl) (by go_simp; rfl) (by go_simp) ?_
  refine eqf_cons (by rfl) (by go_simp; rfl) (by go_simp; rfl) (by go_simp) ?_
  refine eqf_cons (by rfl) (by go_simp; rfl) (by go_simp; rfl) (by go_simp) ?_
  refine eqf_cons (by rfl) (by go_simp; rfl) (by go_simp; rfl) (by go_simp) ?_
  refine eqf_cons (by rfl) (by go_simp; rfl) (by go_simp; rfl) (by go_simp) ?_
  exact eqf_last (by rfl) (by go_simp; rfl) (by go_simp; rfl) (by go_simp)
theorem stR38 (d : Nat) (w : World) (a : Row6) : (Op.equalIn (d + 2) 38 (.agg #[.int .i64 a.o, .int .i64 a.i, .int .i64 a.u, .int .i64 a.n, .int .i64 a.w, .int .i64 a.c]) (.agg #[.int .i64 a.o, .int .i64 a.i, .int .i64 a.u, .int .i64 a.n, .int .i64 a.w, .int .i64 a.c])).run Try.prog w = .ok true w := by
  rw [stA38]; simp
theorem stR39 (d : Nat) (w : World) (a b c : Row6) : (Op.equalIn (d + 3) 39 (.agg (row18 a b c)) (.agg (row18 a b c))).run Try.prog w = .ok true w := by
  unfold row18
  refine eqA_arr Try.underlying39 (by kernel_rfl) (c := 6) (by kernel_rfl) ?_
  refine eqi_cons (r := true) (s := true) (by go_simp) (by go_simp) (stR38 (d + 0) w a) ?_
  refine eqi_cons (r := true) (s := true) (by go_simp) (by go_simp) (stR38 (d + 0) w b) ?_
  exact eqi_last (by go_simp) (by go_simp) (stR38 (d + 0) w c)
theorem stR41 (d : Nat) (w : World) (x : Rep) : (Op.equalIn (d + 4) 41 (.agg x.cs) (.agg x.cs)).run Try.prog w = .ok true w := by
  unfold Rep.cs
  refine eqA_of Try.underlying41 (by kernel_rfl) ?_
  refine eqf_cons (r := true) (s := true) (by rfl) (by go_simp; rfl) (by go_simp; rfl) (by go_simp) ?_
  refine eqf_cons (r := true) (s := true) (by rfl) (by go_simp; rfl) (by go_simp; rfl) (by rw [stA36]; simp) ?_
  refine eqf_cons (r := true) (s := true) (by rfl) (by go_simp; rfl) (by go_simp; rfl) (stR39 d w x.s0 x.s1 x.s2) ?_
  exact eqf_last (by rfl) (by go_simp; rfl) (by go_simp; rfl) (by go_simp)
/-- What has become of all periods so far. -/
structure Hist (past : List Rep) (x : Rep) : Prop where
  per : ∀ j (h : j < past.length), (past[j]).p = (j : Int) + 1
  good : ∀ r ∈ past, Good r
  px : x.p = (past.length : Int) + 1
  ch : ∀ i (h : i + 1 < (past ++ [x]).length), ((past ++ [x])[i + 1]).o = ((past ++ [x])[i]).c ∧ ((past ++ [x])[i + 1]).s1.o = ((past ++ [x])[i]).s1.c
theorem Hist.first : Hist [] rep1 := ⟨fun j h => absurd h (by simp), fun r h => absurd h (by simp), rfl, fun i h => absurd h (by simp)⟩
theorem Hist.take {past : List Rep} {x x2 : Rep} (h : Hist past x) (hp : x2.p = x.p) (ho : x2.o = x.o) (h1 : x2.s1.o = x.s1.o) : Hist past x2 := by
  refine ⟨h.per, h.good, by rw [hp]; exact h.px, fun i hi => ?_⟩
  have hi' : i + 1 < (past ++ [x]).length := by simpa using hi
  have hc := h.ch i hi'
  have hl : i < past.length := by simp at hi; omega
  by_cases hj : i + 1 < past.length
  · rw [List.getElem_append_left hj, List.getElem_append_left hl] at hc ⊢
    exact hc
  · have e : i + 1 = past.length := by omega
    have g1 : (past ++ [x])[i + 1] = x := by rw [List.getElem_append_right (by omega)]; simp [e]
    have g2 : (past ++ [x2])[i + 1] = x2 := by rw [List.getElem_append_right (by omega)]; simp [e]
    rw [List.getElem_append_left hl] at hc ⊢
    rw [g1] at hc
    rw [g2, ho, h1]
    exact hc
theorem Hist.close {past : List Rep} {x : Rep} (h : Hist past x) (hg : Good x) (hl : past.length ≤ 1000000) : Hist (past ++ [x]) (nextR x) := by
  have hpx := h.px
  refine ⟨fun j hj => ?_, fun r hr => ?_, ?_, fun i hi => ?_⟩
  · by_cases hlt : j < past.length
    · rw [List.getElem_append_left hlt]; exact h.per j hlt
    · have e : j = past.length := by simp at hj; omega
      subst e
      simpa using hpx
  · rcases List.mem_append.1 hr with hr | hr
    · exact h.good r hr
    · rw [List.mem_singleton.1 hr]; exact hg
  · change wrap64 (x.p + 1) = _
    rw [hpx, List.length_append, List.length_singleton]
    unfold wrap64; omega
  · by_cases hlt : i + 1 < (past ++ [x]).length
    · have := h.ch i hlt
      rw [List.getElem_append_left hlt, List.getElem_append_left (Nat.lt_of_succ_lt hlt)]
      exact this
    · have e : i = past.length := by simp at hi hlt; omega
      subst e
      have g1 : ((past ++ [x]) ++ [nextR x])[past.length + 1] = nextR x := by rw [List.getElem_append_right (by simp)]; simp
      have g2 : ((past ++ [x]) ++ [nextR x])[past.length] = x := by rw [List.getElem_append_left (by simp)]; simp
      rw [g1, g2]
      exact ⟨rfl, rfl⟩
section
variable {B : Nat} {w w' : World} {p t : Nat} {pv cv lv : Value} {past l : List Rep} {x : Rep} {ch : List S64} {F' : Nat → Prop}
/-- A closer, and a row of reports of one's own. -/
structure CL (B : Nat) (w : World) (p : Nat) (pv : Value) (past : List Rep) (x : Rep) (t : Nat) (cv : Value) (ch : List S64) (lv : Value) (l : List Rep) : Prop where
  c : CA B w p pv past x t cv ch
  r : Kd.R (Kd.raw 27) 41 w B (fun _ => True) lv (l.map (fun r => r.cs.toList))
  d : ∀ k, lv.ownBlock = some k → pv.ownBlock ≠ some k
theorem CL.below (h : CL B w p pv past x t cv ch lv l) (hb : Below w.heap.size w w') : CL B w' p pv past x t cv ch lv l := ⟨h.c.below hb, Kd.R_below h.r hb, h.d⟩
theorem CL.typed (h : CL B w p pv past x t cv ch lv l) {k : Nat} (hk : lv.ownBlock = some k) : ∃ cs, w.heap[k]? = some (.cells cs 41 (0, 0)) ∧ B ≤ k ∧ k < w.heap.size := by
  obtain ⟨inner, ho⟩ := Kd.R_own h.r
  obtain ⟨cs, hc⟩ := own_typed ho k hk
  exact ⟨cs, hc, own_base ho k hk, own_lt ho k hk⟩
variable {x2 : Rep} {t2 : Nat} {cv2 pv2 lv2 : Value} {ch2 : List S64} {past2 l2 : List Rep}
theorem CL.take (h : CL B w p pv past x t cv ch lv l) (hc : CA B w' p pv past x2 t2 cv2 ch2) (hm : Mv (fun k => k = p) F' w w') : CL B w' p pv past x2 t2 cv2 ch2 lv l :=
  ⟨hc, hm.R h.r (fun k hk e => by obtain ⟨cs, h1, _⟩ := h.typed hk; exact h.c.ne h1 (by decide) e), h.d⟩
theorem CL.close (h : CL B w p pv past x t cv ch lv l) (hc : CA B w' p pv2 past2 x2 t2 cv2 ch2) (hm : Mv (fun k => k = p ∨ pv.ownBlock = some k) (fun k => k = p ∨ pv2.ownBlock = some k) w w') : CL B w' p pv2 past2 x2 t2 cv2 ch2 lv l := by
  refine ⟨hc, hm.R h.r (fun k hk e => ?_), fun k hk e => ?_⟩
  · obtain ⟨cs, h1, _⟩ := h.typed hk
    rcases e with e | e
    · exact h.c.ne h1 (by decide) e
    · exact h.d k hk e
  · obtain ⟨cs, h1, _, h3⟩ := h.typed hk
    rcases hm.foot k (.inr e) with (e2 | e2) | e2
    · exact h.c.ne h1 (by decide) e2
    · exact h.d k hk e2
    · omega
theorem CL.app (h : CL B w p pv past x t cv ch lv l) (hr : Kd.R (Kd.raw 27) 41 w' B (fun _ => True) lv2 (l2.map (fun r => r.cs.toList))) (hg : w.grownBy w' lv.ownBlock) (hat : lv2.ownBlock = lv.ownBlock ∨ ∃ b, lv2.ownBlock = some b ∧ w.heap.size ≤ b) : CL B w' p pv past x t cv ch lv2 l2 := by
  have hm : Mv (fun k => lv.ownBlock = some k) (fun k => lv.ownBlock = some k) w w' := Mv.grown hg (fun k hk => hk) (fun k hk => .inl hk)
  refine ⟨h.c.mv hm (fun e => ?_) (fun k hk e => h.d k e hk) (fun k e => ?_), hr, fun k hk e => ?_⟩
  · obtain ⟨cs, h1, _⟩ := h.typed e
    exact h.c.ne h1 (by decide) rfl
  · obtain ⟨cs, h1, _⟩ := h.typed e
    exact cx_t41 h1
  · rcases hat with e2 | ⟨b, e2, hb⟩
    · exact h.d k (by rw [← e2]; exact hk) e
    · obtain ⟨inner, ho⟩ := Kd.R_own h.c.hw
      have := own_lt ho k e
      rw [e2] at hk
      cases hk
      omega
end
theorem st_none27 (W : World) : (Instr.buildSlice 54 0 #[]).run Try.prog W = .ok (.slice (some ⟨W.heap.size, 0, none⟩) 0 0) (W.alloc (.cells #[] 41)) := by kernel_rfl
theorem CL.reads {B : Nat} {w : World} {p t n c : Nat} {pv cv : Value} {A : Option Addr} {past l : List Rep} {x : Rep} {ch : List S64} (h : CL B w p pv past x t cv ch (.slice A n c) l) : ReadsRow (fun (y : List Value) cs => cs = y ∧ cs.length = 27 ∧ ∀ u ∈ cs, u.oneCell' = true) 27 w A n (l.map (fun r => r.cs.toList)) := by
  have h1 := (Kd.R_reads' h.r).1
  have := (Kd.R_reads' h.r).2.2
  rwa [← h1] at this
theorem st_cell {W : World} {a : Addr} {cs : List Value} {u : Value} (h : ∀ k u, cs[k]? = some u → W.cell? (a.add k) = some u) (k : Nat) (hk : cs[k + 1]? = some u) : W.cell? ⟨a.block, a.off + (k + 1), none⟩ = some u := by
  have := h (k + 1) u hk
  unfold Addr.add at this
  simpa using this
theorem cells_below {w w' : World} {a : Addr} {cs : List Value} (hb : Below w.heap.size w w') (h : ∀ k u, cs[k]? = some u → w.cell? (a.add k) = some u) : ∀ k u, cs[k]? = some u → w'.cell? (a.add k) = some u := fun k u hu => pw_cell_below hb (h k u hu)
set_option maxHeartbeats 32000000 in
set_option maxRecDepth 100000 in
theorem lombardlaw23_CloseStays.walk (A0 : Option Addr) (c0 : Nat) (l0 : List S34) (w : World) (hr0 : Kd.C k34 w A0 l0.length l0) (hc0 : l0.length ≤ c0) : Calls Try.prog 4 #[.slice A0 l0.length c0] w fun e w' => e = .returned (.bool true) ∧ Below w.heap.size w w' := by
  obtain ⟨rl0, hgl0, hgz⟩ := cx_great l0 hr0.2.1
  replace hgl0 := Aside0.mk hgl0
  have HR0 := Aside0.mk hr0
  clear hr0
  go_enter Try.func4, Try.ntmps4
  go_wp2_with fail
  refine lombardlaw23_alive.calls.mono ?_
  rintro e w1 ⟨rfl, hb⟩
  have HB := Aside0.mk hb
  clear hb
  go_wp2_with fail
  with_reducible refine (lombardlaw23_great.calls _ A0 c0 l0 rl0 w1 (Kd.C_below HR0.out HB.out) hc0 hgl0.out).mono ?_
  rintro e w2 ⟨rfl, hb⟩
  have HB' := Aside0.mk (below_step HB.out hb)
  clear hb HB
  have HB := HB'
  clear HB' hgl0
  cases rl0
  case true =>
    go_wp2_with fail
    go_ret
    exact ⟨rfl, HB.out⟩
  obtain ⟨hl100, hgx⟩ := hgz rfl
  clear hgz
  go_wp2_with fail
  refine close_New.calls.mono ?_
  rintro e w3 ⟨p, rfl, hca, hb⟩
  have HX : Aside0 (CL w.heap.size w3 p (.slice none 0 0) [] rep1 0 (.slice none 0 0) [] (.slice none ([] : List Rep).length 0) []) := ⟨⟨hca.lower HB.out.size, Kd.R_nil _ _ _ _ _, fun k hk => by simp [Value.ownBlock] at hk⟩⟩
  have HB' := Aside0.mk (below_step HB.out hb)
  clear hca hb HB
  have HB := HB'
  clear HB'
  go_wp2_with fail
  go_loopw [4, 26] (fun lv y wr => ∃ (i : Nat) (A : Option Addr) (c : Nat) (pv : Value) (past : List Rep) (x : Rep) (t : Nat) (cv : Value) (ch : List S64), i ≤ l0.length ∧ lv = .slice A past.length c ∧ y = .int .i64 i ∧ past.length ≤ i ∧ Aside0 (CL w.heap.size wr p pv past x t cv ch (.slice A past.length c) past) ∧ Aside0 (InvX x ch) ∧ Aside0 (Hist past x) ∧ Aside0 (Below w.heap.size w wr)) (fun _ y _ => l0.length - (intOf y).toNat)
  case atStart => exact ⟨0, none, 0, .slice none 0 0, [], rep1, 0, .slice none 0 0, [], Nat.zero_le _, rfl, rfl, Nat.zero_le _, HX, ⟨InvX.first⟩, ⟨Hist.first⟩, HB⟩
  case round =>
    clear HX HB
    obtain ⟨i, A, c, pv, past, x, t, cv, ch, hi, rfl, rfl, hpl, HX, IX, HH, HB⟩ := hrel
    by_cases hlt : i < l0.length
    case neg =>
      go_wp2_with fail
      go_ret
      exact ⟨rfl, HB.out⟩
    have hi1 : i + 1 ≤ l0.length := by omega
    obtain ⟨ad, A2, c2, A9, c9, hA, hk0, hk1, hk2, hk3, hk4, hk5, hk6, hk7, hk8, hk9, hk10, hc2, hC2, hc9, hC9⟩ := at_T34 HR0.out (i : Int) (by omega) (by omega)
    have hl9 := hgx (rd_T34 l0 (i : Int)) (by unfold rd_T34; rw [Int.toNat_natCast]; simp [List.getD, hlt])
    rw [Int.toNat_natCast] at hk0 hk1 hk2 hk3 hk4 hk5 hk6 hk7 hk8 hk9 hk10
    generalize rd_T34 l0 (i : Int) = o at hk0 hk1 hk2 hk3 hk4 hk5 hk6 hk7 hk8 hk9 hk10 hc2 hC2 hc9 hC9 hl9
    obtain ⟨cl, ⟨⟨a0, a1, l2⟩, da, di, de, dr, dw, dv, l9⟩⟩ := o
    simp only at hk0 hk1 hk2 hk3 hk4 hk5 hk6 hk7 hk8 hk9 hk10 hc2 hC2 hc9 hC9 hl9
    obtain ⟨d, hd⟩ : ∃ d : D6, d = ⟨da, di, de, dr, dw, dv⟩ := ⟨_, rfl⟩
    obtain ⟨e4, e5, e6, e7, e8, e9⟩ : da = d.a ∧ di = d.i ∧ de = d.e ∧ dr = d.r ∧ dw = d.w ∧ dv = d.v := by rw [hd]; exact ⟨rfl, rfl, rfl, rfl, rfl, rfl⟩
    clear hd
    subst e4 e5 e6 e7 e8 e9
    subst hA
    have CB2 := Aside0.mk hC2
    have CB9 := Aside0.mk hC9
    have HBr := HB.out
    replace hk0 := pw_cell_below HBr hk0
    replace hk1 := pw_cell_below HBr hk1
    replace hk2 := pw_cell_below HBr hk2
    replace hk3 := pw_cell_below HBr hk3
    replace hk4 := pw_cell_below HBr hk4
    replace hk5 := pw_cell_below HBr hk5
    replace hk6 := pw_cell_below HBr hk6
    replace hk7 := pw_cell_below HBr hk7
    replace hk8 := pw_cell_below HBr hk8
    replace hk9 := pw_cell_below HBr hk9
    replace hk10 := pw_cell_below HBr hk10
    clear hC2 hC9
    go_wp2_with ((with_reducible refine gate_store (t := 34) (p := 6) (v := .tmp 29) rfl ?_); refine Shut.out ?_)
    unfold Shut
    obtain ⟨hnb, hnk⟩ := newbk wr (opc false 0 0 (.slice none 0 0) ⟨0, 0, 0, 0, 0, 0⟩ (.slice none 0 0)) (opc cl a0 a1 (.slice A2 l2.length c2) d (.slice A9 l9.length c9)) 34
    change wpList _ _ _ _ _ (wr.alloc (.cells (opc false 0 0 (.slice none 0 0) ⟨0, 0, 0, 0, 0, 0⟩ (.slice none 0 0)) 34))
    refine store_rowTo rfl 34 (.tmp 6) (.tmp 29) rfl rfl wr.heap.size (opc cl a0 a1 (.slice A2 l2.length c2) d (.slice A9 l9.length c9)) rfl rfl 34 _ (blk_new wr _) (by kernel_rfl) rfl (opc_all _ _ _ _ _ _ _ _ _ _) ?_
    have n_HB := Aside0.mk (below_step HB.out hnb)
    have n_HX := Aside0.mk (HX.out.below hnb)
    have BKo := Aside0.mk hnk
    clear HB hnb hnk hk0 hk1 hk2 hk3 hk4 hk5 hk6 hk7 hk8 hk9 hk10 HBr HX
    have HB := n_HB
    have HX := n_HX
    clear n_HB n_HX
    generalize (wr.alloc (.cells (opc false 0 0 (.slice none 0 0) ⟨0, 0, 0, 0, 0, 0⟩ (.slice none 0 0)) 34)).setRow wr.heap.size (opc cl a0 a1 (.slice A2 l2.length c2) d (.slice A9 l9.length c9)) = w5 at HB BKo HX ⊢
    generalize wr.heap.size = go at BKo ⊢
    have hj0 : w5.cell? ⟨go, 0, none⟩ = some (.bool cl) := (blk_cell BKo.out 0).trans rfl
    go_upto_if 31 with fail
    go_cut [4] (fun s4 wx => ∃ (A : Option Addr) (c : Nat) (pv : Value) (past : List Rep) (x : Rep) (t : Nat) (cv : Value) (ch : List S64), s4 = .slice A past.length c ∧ past.length ≤ i + 1 ∧ Aside0 (CL w.heap.size wx p pv past x t cv ch (.slice A past.length c) past) ∧ Aside0 (InvX x ch) ∧ Aside0 (Hist past x) ∧ Aside0 (Below w.heap.size w wx))
    cases cl
    case true =>
      go_wp2_with fail
      refine (close_Closer_Close.calls HX.out.c (by omega)).mono ?_
      rintro e w6 ⟨pv2, rfl, hx, hm⟩
      have HX6 := Aside0.mk (HX.out.close hx hm)
      have HB6 := Aside0.mk (hm.below HB.out HB.out.size HX.out.c.base)
      clear hx hm HX HB BKo hj0 CB2 CB9
      have IX6 := Aside0.mk IX.out.next
      have HH6 := Aside0.mk (HH.out.close IX.out.good (by omega))
      go_wp2_with ((with_reducible refine gate_store (t := 41) (p := 7) (v := .tmp 35) rfl ?_); refine Shut.out ?_)
      unfold Shut
      change wpList _ _ _ _ _ (w6.alloc (.cells Rep.z.cs 41))
      obtain ⟨hnb, hnk⟩ := newbk w6 Rep.z.cs x.cs 41
      refine store_rowTo rfl 41 (.tmp 7) (.tmp 35) rfl rfl w6.heap.size x.cs rfl rfl 41 _ (blk_new w6 _) (by kernel_rfl) rfl (Rep.all _) ?_
      have HX7 := Aside0.mk (HX6.out.below hnb)
      have HB7 := Aside0.mk (below_step HB6.out hnb)
      have H7 := Aside0.mk hnk
      clear hnb hnk HX6 HB6 IX HH
      generalize (w6.alloc (.cells Rep.z.cs 41)).setRow w6.heap.size x.cs = w7 at HX7 HB7 H7 ⊢
      generalize w6.heap.size = g7 at H7 ⊢
      go_wp2_with (first | ((with_reducible refine gate_dst (N := 38) rfl ?_); refine wpList_load_row rfl 41 (.tmp 7) rfl g7 rfl 41 _ (0, 0) _ H7.out Try.underlying41 rfl (by kernel_rfl) ?_) | ((with_reducible refine gate_dst (N := 39) rfl ?_); refine wpl_value rfl (bslice_run 54 1 _ #[(0, .agg x.cs)] rfl (by simp only [List.map_toArray, List.map_cons, List.map_nil]; rfl) (run_one27 x _)) ?_; refine Shut.out ?_))
      unfold Shut
      have hb := below_alloc (Below.refl w7.heap.size w7) (.cells x.cs 41)
      have H39 := Aside0.mk (blk_new w7 (.cells x.cs 41))
      have HX8 := Aside0.mk (HX7.out.below hb)
      have HB8 := Aside0.mk (below_step HB7.out hb)
      clear hb HX7 HB7 H7
      generalize w7.alloc (.cells x.cs 41) = w8 at HX8 HB8 H39 ⊢
      generalize w7.heap.size = g39 at H39 ⊢
      go_wp2_with ((with_reducible refine gate_builtin (b := .append) (xs := #[.tmp 37, .tmp 39]) rfl ?_); refine Shut.out ?_)
      unfold Shut
      refine Kd.R_append_rows (Kd.raw 27) (w0 := w) w.heap.size rfl (.tmp 37) (.tmp 39) 54 41 (.agg Rep.z.cs) 216 rfl rep_und rep_info rfl (by decide) (by omega) (.slice A past.length c) (past.map (fun r => r.cs.toList)) [x.cs.toList] (some ⟨g39, 0, none⟩) 1 1 (fun _ => True) (fun _ => False) rfl rfl ?aO ?aR (fun _ _ h => h) (fun _ h => h.elim) (fun _ _ => trivial) ?aB ?aS ?aL ?_
      case aO => exact HX8.out.r
      case aR => exact raw_one27 x H39.out
      case aB => exact HB8.out
      case aS => exact HB8.out.size
      case aL => rw [List.length_map]; omega
      intro v9 w9 hR hb hg hat
      rw [show past.map (fun r => r.cs.toList) ++ [x.cs.toList] = (past ++ [x]).map (fun r => r.cs.toList) from by rw [List.map_append]; rfl] at hR
      have HX9 := HX8.out.app hR hg hat
      obtain ⟨A9, c9, e9⟩ := Kd.R_slice hR
      rw [List.length_map] at e9
      subst e9
      have HX9 := Aside0.mk HX9
      have HB9 := Aside0.mk hb
      have hpl9 : (past ++ [x]).length ≤ i + 1 := by rw [List.length_append, List.length_singleton]; omega
      clear hR hb hg hat HX8 HB8 H39
      generalize past ++ [x] = past9 at HX9 HH6 hpl9 ⊢
      go_wp2_with fail
      go_meet
      case rel => exact ⟨A9, c9, pv2, past9, nextR x, 0, _, _, rfl, hpl9, HX9, IX6, HH6, HB9⟩
    case false =>
      obtain ⟨dc, hdc0⟩ : ∃ dc, l9.map cx_cv = dc := ⟨_, rfl⟩
      have hdl : dc.length ≤ 100 := by rw [← hdc0]; simpa using hl9
      replace hdc0 := Aside0.mk hdc0
      obtain ⟨⟨er, x2, t2, ch2⟩, hq⟩ : ∃ R, takeR x t ch d dc = R := ⟨_, rfl⟩
      have LA : ch.length ≤ 100000000 := by have := IX.out.len; omega
      replace hq := Aside0.mk hq
      go_wp2_with ((with_reducible refine gate_dst (N := 43) rfl ?_); refine wpl_value rfl (load_run_at 32 (.tmp 42) rfl ⟨go, 1, none⟩ rfl (opd a0 a1 (.slice A2 l2.length c2) d (.slice A9 l9.length c9)).toList _ (op_st _ _ _ _ _ _ BKo.out) Try.underlying32 rfl (by kernel_rfl)) ?_)
      refine (cx_doneD a0 a1 d (Kd.C_below CB2.out HB.out) hc2 (Kd.C_below CB9.out HB.out) hc9 hl9 hdc0.out).mono ?_
      rintro e w6 ⟨lv, Ad, cd, rfl, hC, hn, hb⟩
      have HX6 := Aside0.mk (HX.out.below hb)
      have HB6 := Aside0.mk (below_step HB.out hb)
      have HC := Aside0.mk hC
      replace hn := Aside0.mk hn
      clear hb hC HX HB BKo hj0 CB2 CB9 hdc0
      go_wp2_with fail
      refine (close_Closer_Take.calls HX6.out.c LA d HC.out hn.out (by omega) hq.out).mono ?_
      rintro e w7 ⟨cv2, rfl, hx, hm⟩
      have HX7 := Aside0.mk (HX6.out.take hx hm)
      have HB7 := Aside0.mk (hm.below HB6.out HB6.out.size (fun k hk => by rw [hk]; exact HX6.out.c.hB))
      have IX7 := Aside0.mk (IX.out.take hq.out).1
      have HH7 := Aside0.mk (HH.out.take (IX.out.take hq.out).2.1 (IX.out.take hq.out).2.2.1 (IX.out.take hq.out).2.2.2.1)
      clear hx hm HX6 HB6 HC hn IX HH hq
      go_wp2_with fail
      go_meet
      case rel => exact ⟨A, c, pv, past, x2, t2, cv2, ch2, rfl, by omega, HX7, IX7, HH7, HB7⟩
    case rest =>
      clear HX IX HH HB BKo hj0 CB2 CB9 hpl
      obtain ⟨A, c, pv, past, x, t, cv, ch, rfl, hpl, HX, IX, HH, HB⟩ := hcut
      go_wp2_with fail
      go_loopw [48] (fun y wr => ∃ j : Nat, j ≤ past.length ∧ y = .int .i64 j ∧ Aside0 (CL w.heap.size wr p pv past x t cv ch (.slice A past.length c) past) ∧ Aside0 (Below w.heap.size w wr)) (fun y _ => past.length - (intOf y).toNat)
      case atStart => exact ⟨0, Nat.zero_le _, rfl, HX, HB⟩
      case round =>
        clear HX HB
        obtain ⟨j, hj, rfl, HX, HB⟩ := hrel
        by_cases hjl : j < past.length
        case pos =>
          obtain ⟨r, hr⟩ : ∃ r, past[j] = r := ⟨_, rfl⟩
          obtain ⟨ad, hA, hcell⟩ := row27_get HX.out.r j hjl
          rw [hr] at hcell
          replace hcell := Aside0.mk hcell
          have hrp : r.p = (j : Int) + 1 := by rw [← hr]; exact HH.out.per j hjl
          have hrg := Aside0.mk (HH.out.good r (by rw [← hr]; exact List.getElem_mem hjl))
          replace hr := Aside0.mk hr
          replace hrp := Aside0.mk hrp
          subst hA
          go_wp2_with (first | ((with_reducible refine gate_dst (N := 52) rfl ?_); refine wpl_value rfl (load_run_at 41 (.tmp 51) rfl (ad.add (j * 27)) rfl r.cs.toList _ hcell.out Try.underlying41 rfl (by kernel_rfl)) ?_) | ((with_reducible refine gate_store (t := 41) (p := 10) (v := .tmp 52) rfl ?_); refine Shut.out ?_))
          unfold Shut
          change wpList _ _ _ _ _ (wr.alloc (.cells Rep.z.cs 41))
          obtain ⟨hnb, hnk⟩ := newbk wr Rep.z.cs r.cs 41
          refine store_rowTo rfl 41 (.tmp 10) (.tmp 52) rfl rfl wr.heap.size r.cs rfl rfl 41 _ (blk_new wr _) (by kernel_rfl) rfl (Rep.all _) ?_
          have HX5 := Aside0.mk (HX.out.below hnb)
          have HB5 := Aside0.mk (below_step HB.out hnb)
          have H10 := Aside0.mk hnk
          clear hnb hnk HX HB hcell
          generalize (wr.alloc (.cells Rep.z.cs 41)).setRow wr.heap.size r.cs = u5 at HX5 HB5 H10 ⊢
          generalize wr.heap.size = g10 at H10 ⊢
          go_wp2_with fail
          refine (close_Closer_Past.calls HX5.out.c (by omega) j hjl ((j : Int) + 1) rfl hr.out).mono ?_
          rintro e u6 ⟨rfl, hb⟩
          have HX6 := Aside0.mk (HX5.out.below hb)
          have HB6 := Aside0.mk (below_step HB5.out hb)
          have H106 := Aside0.mk (blk_below H10.out hb)
          clear hb HX5 HB5 H10
          go_wp2_with ((with_reducible refine gate_store (t := 41) (p := 11) (v := .tmp 58) rfl ?_); refine Shut.out ?_)
          unfold Shut
          change wpList _ _ _ _ _ (u6.alloc (.cells Rep.z.cs 41))
          obtain ⟨hnb, hnk⟩ := newbk u6 Rep.z.cs r.cs 41
          refine store_rowTo rfl 41 (.tmp 11) (.tmp 58) rfl rfl u6.heap.size r.cs rfl rfl 41 _ (blk_new u6 _) (by kernel_rfl) rfl (Rep.all _) ?_
          have HX7 := Aside0.mk (HX6.out.below hnb)
          have HB7 := Aside0.mk (below_step HB6.out hnb)
          have H10 := Aside0.mk (blk_below H106.out hnb)
          have H11 := Aside0.mk hnk
          clear hnb hnk HX6 HB6 H106
          generalize (u6.alloc (.cells Rep.z.cs 41)).setRow u6.heap.size r.cs = u7 at HX7 HB7 H10 H11 ⊢
          generalize u6.heap.size = g11 at H11 ⊢
          have k10 : u7.cell? ⟨g10, 0, none⟩ = some (.int .i64 ((j : Int) + 1)) := (blk_cell H10.out 0).trans (by rw [← hrp.out]; rfl)
          have heq := fun d W => stR41 d W r
          have en : ∀ n : Int, (n != n) = false := fun n => by simp
          go_wp2_with (first | ((with_reducible refine gate_dst (N := 63) rfl ?_); refine gate_guard rfl ?_; refine wpList_load_row rfl 41 (.tmp 11) rfl g11 rfl 41 _ (0, 0) _ H11.out Try.underlying41 rfl (by kernel_rfl) ?_) | ((with_reducible refine gate_dst (N := 64) rfl ?_); refine gate_guard rfl ?_; refine wpList_load_row rfl 41 (.tmp 10) rfl g10 rfl 41 _ (0, 0) _ H10.out Try.underlying41 rfl (by kernel_rfl) ?_) | ((with_reducible refine gate_dst (N := 75) rfl ?_); refine gate_guard rfl ?_; refine wpList_load_row rfl 41 (.tmp 10) rfl g10 rfl 41 _ (0, 0) _ H10.out Try.underlying41 rfl (by kernel_rfl) ?_))
          refine (close_Ties.calls r hrg.out _).mono ?_
          rintro e u8 ⟨rfl, hb⟩
          have HX8 := Aside0.mk (HX7.out.below hb)
          have HB8 := Aside0.mk (below_step HB7.out hb)
          clear hb HX7 HB7 H10 H11 k10 heq en
          go_wp2_with fail
          go_roundw
          case rel => exact ⟨j + 1, by omega, by go_num, HX8, HB8⟩
          case measure => simp [intOf]; omega
        go_wp2_with fail
        clear hjl hj
        refine (close_Closer_Now.calls x HX.out.c.hp).mono ?_
        rintro e u6 ⟨rfl, hb⟩
        have HX6 := Aside0.mk (HX.out.below hb)
        have HB6 := Aside0.mk (below_step HB.out hb)
        clear hb HX HB
        go_wp2_with ((with_reducible refine gate_store (t := 41) (p := 13) (v := .tmp 83) rfl ?_); refine Shut.out ?_)
        unfold Shut
        change wpList _ _ _ _ _ (u6.alloc (.cells Rep.z.cs 41))
        obtain ⟨hnb, hnk⟩ := newbk u6 Rep.z.cs x.cs 41
        refine store_rowTo rfl 41 (.tmp 13) (.tmp 83) rfl rfl u6.heap.size x.cs rfl rfl 41 _ (blk_new u6 _) (by kernel_rfl) rfl (Rep.all _) ?_
        have HX := Aside0.mk (HX6.out.below hnb)
        have HB := Aside0.mk (below_step HB6.out hnb)
        have H13 := Aside0.mk hnk
        clear hnb hnk HX6 HB6
        generalize (u6.alloc (.cells Rep.z.cs 41)).setRow u6.heap.size x.cs = u7 at HX HB H13 ⊢
        generalize u6.heap.size = g13 at H13 ⊢
        go_upto_region 22 with fail
        have C0 := Aside0.mk (HX.out.below (below_drew (Below.refl _ _)))
        have K13 := Aside0.mk (blk_below H13.out (below_drew (Below.refl _ _)))
        have B0 := Aside0.mk (below_step HB.out (below_drew (Below.refl _ _)))
        clear HX HB H13
        have HB := Aside0.mk (Below.refl u7.drew.heap.size u7.drew)
        refine start_ (n := 7) (S := fun w' => w'.heap[g13]? = some (.cells x.cs 41 (0, 0))) (ds := []) #[false, false, false, false, false, false, false] (by kernel_rfl) rfl rfl (blk_below K13.out HB.out) (fun hHeld => ?_)
        generalize u7.drew = ws at HB C0 K13 B0 hHeld ⊢
        refine pure_ (i := 1) (N := some 86) (v := ?_) (a' := ?_) #[false, true, false, false, false, false, false] rfl rfl (by kernel_rfl) (fun _ _ _ h => h) (Or.inl ⟨by rfl, ?_⟩) ?_ ?_
        rotate_left
        · intro w'
          go_simp
          with_reducible rfl
        rotate_left
        · simp only [Act.put, List.setIfInBounds_toArray, List.set_cons_zero, List.set_cons_succ, i64_w, i32_w]
          rfl
        refine take_ (i := 3) (N := some 88) (v := ?_) (a' := ?_) #[false, true, false, true, false, false, false] rfl rfl (by kernel_rfl) (fun _ _ _ h => h) (Or.inl ⟨by rfl, ?_⟩) hHeld ?_ ?_
        rotate_left
        · intro w' s0
          refine load_run 41 (.tmp 13) ?_ g13 ?_ 41 _ (0, 0) _ s0 Try.underlying41 rfl (by kernel_rfl) <;> rfl
        rotate_left
        · simp only [Act.put, List.setIfInBounds_toArray, List.set_cons_zero, List.set_cons_succ, i64_w, i32_w]
          rfl
        refine join_ (σ := Value × Value × Nat) 2 #[true, true, true, true, true, false, false] (fun s_ => [(85, s_.1), (87, s_.2.1), (89, .slice (some ⟨s_.2.2, 0, none⟩) 1 1)]) (fun s_ w' => (w'.heap[g13]? = some (.cells x.cs 41 (0, 0))) ∧ (Below w.heap.size w ws) ∧ (w'.heap[s_.2.2]? = some (.cells x.cs 41 (0, 0))) ∧ (CL w.heap.size ws p pv past x t cv ch (.slice A past.length c) past) ∧ (Below ws.heap.size ws w') ∧ (ws.heap[g13]? = some (.cells x.cs 41 (0, 0))) ∧ (Kd.R (Kd.raw 27) 41 w' ws.heap.size (fun _ => True) s_.2.1 (past.map (fun r => r.cs.toList)))) ?_ ?_
        rotate_left
        · intro hCont
          refine two_ (i := 0) (j := 4) (Ni := some 85) (Nj := some 89) #[true, true, false, true, false, false, false] #[false, true, false, true, true, false, false] rfl rfl rfl rfl (by kernel_rfl) (by decide) (by decide) (fun K hK => ?_) (fun K hK => ?_)
          · skip
            refine Kd.R_lit_step (Kd.raw 27) (w0 := ws) ws.heap.size 41 (by rfl) (N := 85) rfl (xs := []) (inner := []) (ok := fun _ => True) (okp := fun _ => True) ?hr ?hp (fun _ _ => trivial) trivial HB.out HB.out.size (by simp) ?_
            (case hr => exact bslice_run 54 0 _ #[] rfl (by first | rfl | (simp only [List.map_toArray, List.map_cons, List.map_nil]; try rfl)) (st_none27 _))
            (case hp => exact ⟨rfl, fun j q hj => by simp at hj⟩)
            intro v85 y2_ hR hb hg hat
            have m_R85 := Aside0.mk hR
            have n_HB := Aside0.mk hb
            clear HB  hR hb hg hat
            have HB := n_HB
            clear n_HB
            have R85 := m_R85
            clear m_R85
            refine hK.out _ _ (blk_below K13.out HB.out) (fun hHeld => ?_)
            clear hK K
            refine norm_ (a' := ?_) ?_ ?_
            rotate_left
            · show Act.put _ (some 85) _ = _
              simp only [Act.put, List.setIfInBounds_toArray, List.set_cons_zero, List.set_cons_succ, i64_w, i32_w]
              rfl
            refine two_ (i := 2) (j := 4) (Ni := some 87) (Nj := some 89) #[true, true, true, true, false, false, false] #[true, true, false, true, true, false, false] rfl rfl rfl rfl (by kernel_rfl) (by decide) (by decide) (fun K hK => ?_) (fun K hK => ?_)
            · skip
              refine Kd.R_append_rows_step (Kd.raw 27) (w0 := ws) ws.heap.size (by rfl) (.tmp 85) (.tmp 86) 54 41 (.agg Rep.z.cs) 216 rfl rep_und rep_info ?aZ (by decide) (by omega) v85 ([] : List (List Value)) (past.map (fun r => r.cs.toList)) A past.length c (fun _ => True) (fun _ => False) rfl rfl ?aO ?aR (fun _ _ h => h) (fun _ h => h.elim) (fun _ _ => trivial) HB.out HB.out.size ?aL ?_
              (case aZ => rfl)
              (case aO => exact R85.out)
              (case aR => exact (C0.out.below HB.out).reads)
              (case aL => simp only [List.length_nil]; omega)
              intro v87 y3_ hR hb hg hat
              rw [List.nil_append] at hR
              have m_R87 := Aside0.mk hR
              have n_HB := Aside0.mk hb
              clear R85 HB hR hb hg hat
              have HB := n_HB
              clear n_HB
              have R87 := m_R87
              clear m_R87
              refine hK.out _ _ (blk_below K13.out HB.out) (fun hHeld => ?_)
              clear hK K
              refine norm_ (a' := ?_) ?_ ?_
              rotate_left
              · show Act.put _ (some 87) _ = _
                simp only [Act.put, List.setIfInBounds_toArray, List.set_cons_zero, List.set_cons_succ, i64_w, i32_w]
                rfl
              refine one_ (i := 4) (N := some 89) #[true, true, true, true, true, false, false] rfl rfl (by kernel_rfl) (by decide) (fun K hK => ?_)
              refine slit_step (n := 1) (N := 89) ?hg ?hd (cs := x.cs) (t := 41) ?hr ?_; (case hd => rfl); (case hg => rfl); (case hr => exact bslice_run 54 1 _ #[(0, .agg x.cs)] rfl (by first | rfl | (simp only [List.map_toArray, List.map_cons, List.map_nil]; try rfl)) (run_one27 x _))
              intro g89 hgg y4_ hbox hb
              have m_BKg89 := Aside0.mk hbox
              have n_HB := Aside0.mk (below_step HB.out hb)
              have n_C0 := Aside0.mk (C0.out)
              have n_K13 := Aside0.mk (K13.out)
              have n_B0 := Aside0.mk (B0.out)
              have n_R87 := Aside0.mk (Kd.R_below R87.out hb)
              clear HB
              have HB := n_HB
              clear n_HB
              clear C0
              have C0 := n_C0
              clear n_C0
              clear K13
              have K13 := n_K13
              clear n_K13
              clear B0
              have B0 := n_B0
              clear n_B0
              clear R87
              have R87 := n_R87
              clear n_R87
              clear hb hbox hgg
              have BKg89 := m_BKg89
              clear m_BKg89
              refine hK.out _ _ (blk_below K13.out HB.out) (fun hHeld => ?_)
              clear hK K
              refine norm_ (a' := ?_) ?_ ?_
              rotate_left
              · show Act.put _ (some 89) _ = _
                simp only [Act.put, List.setIfInBounds_toArray, List.set_cons_zero, List.set_cons_succ, i64_w, i32_w]
                rfl
              exact norm_ (by simp only [putAll, Act.put, List.setIfInBounds_toArray, List.set_cons_zero, List.set_cons_succ]) (hCont (v85, v87, g89) _ ⟨blk_below K13.out HB.out, B0.out, BKg89.out, C0.out, HB.out, K13.out, R87.out⟩)
            · skip
              refine slit_step (n := 1) (N := 89) ?hg ?hd (cs := x.cs) (t := 41) ?hr ?_; (case hd => rfl); (case hg => rfl); (case hr => exact bslice_run 54 1 _ #[(0, .agg x.cs)] rfl (by first | rfl | (simp only [List.map_toArray, List.map_cons, List.map_nil]; try rfl)) (run_one27 x _))
              intro g89 hgg y5_ hbox hb
              have m_BKg89 := Aside0.mk hbox
              have m_NE : Aside0 (∀ k, v85.ownBlock = some k → k ≠ g89) := ⟨fun k hk e => by obtain ⟨inner, ho⟩ := Kd.R_own R85.out; have := own_lt ho k hk; omega⟩
              have n_HB := Aside0.mk (below_step HB.out hb)
              have n_C0 := Aside0.mk (C0.out)
              have n_K13 := Aside0.mk (K13.out)
              have n_B0 := Aside0.mk (B0.out)
              have n_R85 := Aside0.mk (Kd.R_below R85.out hb)
              clear HB
              have HB := n_HB
              clear n_HB
              clear C0
              have C0 := n_C0
              clear n_C0
              clear K13
              have K13 := n_K13
              clear n_K13
              clear B0
              have B0 := n_B0
              clear n_B0
              clear R85
              have R85 := n_R85
              clear n_R85
              clear hb hbox hgg
              have BKg89 := m_BKg89
              clear m_BKg89
              have NE := m_NE
              clear m_NE
              refine hK.out _ _ (blk_below K13.out HB.out) (fun hHeld => ?_)
              clear hK K
              refine norm_ (a' := ?_) ?_ ?_
              rotate_left
              · show Act.put _ (some 89) _ = _
                simp only [Act.put, List.setIfInBounds_toArray, List.set_cons_zero, List.set_cons_succ, i64_w, i32_w]
                rfl
              refine one_ (i := 2) (N := some 87) #[true, true, true, true, true, false, false] rfl rfl (by kernel_rfl) (by decide) (fun K hK => ?_)
              refine Kd.R_append_rows_step (Kd.raw 27) (w0 := ws) ws.heap.size (by rfl) (.tmp 85) (.tmp 86) 54 41 (.agg Rep.z.cs) 216 rfl rep_und rep_info ?aZ (by decide) (by omega) v85 ([] : List (List Value)) (past.map (fun r => r.cs.toList)) A past.length c (fun _ => True) (fun _ => False) rfl rfl ?aO ?aR (fun _ _ h => h) (fun _ h => h.elim) (fun _ _ => trivial) HB.out HB.out.size ?aL ?_
              (case aZ => rfl)
              (case aO => exact R85.out)
              (case aR => exact (C0.out.below HB.out).reads)
              (case aL => simp only [List.length_nil]; omega)
              intro v87 y6_ hR hb hg hat
              rw [List.nil_append] at hR
              have m_R87 := Aside0.mk hR
              have n_HB := Aside0.mk hb
              have n_BKg89 := Aside0.mk (blk_grown BKg89.out hg (fun e => NE.out _ e.symm rfl))
              clear R85 NE BKg89 HB hR hb hg hat
              have HB := n_HB
              clear n_HB
              have R87 := m_R87
              clear m_R87
              have BKg89 := n_BKg89
              clear n_BKg89
              refine hK.out _ _ (blk_below K13.out HB.out) (fun hHeld => ?_)
              clear hK K
              refine norm_ (a' := ?_) ?_ ?_
              rotate_left
              · show Act.put _ (some 87) _ = _
                simp only [Act.put, List.setIfInBounds_toArray, List.set_cons_zero, List.set_cons_succ, i64_w, i32_w]
                rfl
              exact norm_ (by simp only [putAll, Act.put, List.setIfInBounds_toArray, List.set_cons_zero, List.set_cons_succ]) (hCont (v85, v87, g89) _ ⟨blk_below K13.out HB.out, B0.out, BKg89.out, C0.out, HB.out, K13.out, R87.out⟩)
          · skip
            refine slit_step (n := 1) (N := 89) ?hg ?hd (cs := x.cs) (t := 41) ?hr ?_; (case hd => rfl); (case hg => rfl); (case hr => exact bslice_run 54 1 _ #[(0, .agg x.cs)] rfl (by first | rfl | (simp only [List.map_toArray, List.map_cons, List.map_nil]; try rfl)) (run_one27 x _))
            intro g89 hgg y7_ hbox hb
            have m_BKg89 := Aside0.mk hbox
            have n_HB := Aside0.mk (below_step HB.out hb)
            have n_C0 := Aside0.mk (C0.out)
            have n_K13 := Aside0.mk (K13.out)
            have n_B0 := Aside0.mk (B0.out)
            clear HB
            have HB := n_HB
            clear n_HB
            clear C0
            have C0 := n_C0
            clear n_C0
            clear K13
            have K13 := n_K13
            clear n_K13
            clear B0
            have B0 := n_B0
            clear n_B0
            clear hb hbox hgg
            have BKg89 := m_BKg89
            clear m_BKg89
            refine hK.out _ _ (blk_below K13.out HB.out) (fun hHeld => ?_)
            clear hK K
            refine norm_ (a' := ?_) ?_ ?_
            rotate_left
            · show Act.put _ (some 89) _ = _
              simp only [Act.put, List.setIfInBounds_toArray, List.set_cons_zero, List.set_cons_succ, i64_w, i32_w]
              rfl
            refine one_ (i := 0) (N := some 85) #[true, true, false, true, true, false, false] rfl rfl (by kernel_rfl) (by decide) (fun K hK => ?_)
            refine Kd.R_lit_step (Kd.raw 27) (w0 := ws) ws.heap.size 41 (by rfl) (N := 85) rfl (xs := []) (inner := []) (ok := fun _ => True) (okp := fun _ => True) ?hr ?hp (fun _ _ => trivial) trivial HB.out HB.out.size (by simp) ?_
            (case hr => exact bslice_run 54 0 _ #[] rfl (by first | rfl | (simp only [List.map_toArray, List.map_cons, List.map_nil]; try rfl)) (st_none27 _))
            (case hp => exact ⟨rfl, fun j q hj => by simp at hj⟩)
            intro v85 y8_ hR hb hg hat
            have m_R85 := Aside0.mk hR
            have m_NE : Aside0 (∀ k, v85.ownBlock = some k → k ≠ g89) := ⟨fun k hk e => by obtain ⟨b, e2, hb2⟩ := hat; rw [e2] at hk; cases hk; have := blk_lt BKg89.out; omega⟩
            have n_HB := Aside0.mk hb
            have n_BKg89 := Aside0.mk (blk_grown BKg89.out hg (by simp))
            clear HB BKg89 hR hb hg hat
            have HB := n_HB
            clear n_HB
            have BKg89 := n_BKg89
            clear n_BKg89
            have R85 := m_R85
            clear m_R85
            have NE := m_NE
            clear m_NE
            refine hK.out _ _ (blk_below K13.out HB.out) (fun hHeld => ?_)
            clear hK K
            refine norm_ (a' := ?_) ?_ ?_
            rotate_left
            · show Act.put _ (some 85) _ = _
              simp only [Act.put, List.setIfInBounds_toArray, List.set_cons_zero, List.set_cons_succ, i64_w, i32_w]
              rfl
            refine one_ (i := 2) (N := some 87) #[true, true, true, true, true, false, false] rfl rfl (by kernel_rfl) (by decide) (fun K hK => ?_)
            refine Kd.R_append_rows_step (Kd.raw 27) (w0 := ws) ws.heap.size (by rfl) (.tmp 85) (.tmp 86) 54 41 (.agg Rep.z.cs) 216 rfl rep_und rep_info ?aZ (by decide) (by omega) v85 ([] : List (List Value)) (past.map (fun r => r.cs.toList)) A past.length c (fun _ => True) (fun _ => False) rfl rfl ?aO ?aR (fun _ _ h => h) (fun _ h => h.elim) (fun _ _ => trivial) HB.out HB.out.size ?aL ?_
            (case aZ => rfl)
            (case aO => exact R85.out)
            (case aR => exact (C0.out.below HB.out).reads)
            (case aL => simp only [List.length_nil]; omega)
            intro v87 y9_ hR hb hg hat
            rw [List.nil_append] at hR
            have m_R87 := Aside0.mk hR
            have n_HB := Aside0.mk hb
            have n_BKg89 := Aside0.mk (blk_grown BKg89.out hg (fun e => NE.out _ e.symm rfl))
            clear R85 NE BKg89 HB hR hb hg hat
            have HB := n_HB
            clear n_HB
            have R87 := m_R87
            clear m_R87
            have BKg89 := n_BKg89
            clear n_BKg89
            refine hK.out _ _ (blk_below K13.out HB.out) (fun hHeld => ?_)
            clear hK K
            refine norm_ (a' := ?_) ?_ ?_
            rotate_left
            · show Act.put _ (some 87) _ = _
              simp only [Act.put, List.setIfInBounds_toArray, List.set_cons_zero, List.set_cons_succ, i64_w, i32_w]
              rfl
            exact norm_ (by simp only [putAll, Act.put, List.setIfInBounds_toArray, List.set_cons_zero, List.set_cons_succ]) (hCont (v85, v87, g89) _ ⟨blk_below K13.out HB.out, B0.out, BKg89.out, C0.out, HB.out, K13.out, R87.out⟩)
        clear hHeld HB C0 K13 B0
        rintro ⟨v85, v87, g89⟩ y1_ ⟨hS0_, h_B0, h_BKg89, h_C0, h_HB, h_K13, h_R87⟩
        have B0 : Aside0 (Below w.heap.size w ws) := Aside0.mk (h_B0)
        clear h_B0
        have BKg89 : Aside0 (y1_.heap[g89]? = some (.cells x.cs 41 (0, 0))) := Aside0.mk (h_BKg89)
        clear h_BKg89
        have C0 : Aside0 (CL w.heap.size ws p pv past x t cv ch (.slice A past.length c) past) := Aside0.mk (h_C0)
        clear h_C0
        have HB : Aside0 (Below ws.heap.size ws y1_) := Aside0.mk (h_HB)
        clear h_HB
        have K13 : Aside0 (ws.heap[g13]? = some (.cells x.cs 41 (0, 0))) := Aside0.mk (h_K13)
        clear h_K13
        have R87 : Aside0 (Kd.R (Kd.raw 27) 41 y1_ ws.heap.size (fun _ => True) v87 (past.map (fun r => r.cs.toList))) := Aside0.mk (h_R87)
        clear h_R87
        have hHeld : y1_.heap[g13]? = some (.cells x.cs 41 (0, 0)) := hS0_
        clear hS0_
        refine norm_ (a' := ?_) ?_ ?_
        rotate_left
        · simp only [putAll, Act.put, List.setIfInBounds_toArray, List.set_cons_zero, List.set_cons_succ]
          rfl
        refine one_ (i := 5) (N := some 90) #[true, true, true, true, true, true, false] rfl rfl (by kernel_rfl) (by decide) (fun K hK => ?_)
        refine Kd.R_append_rows_step (Kd.raw 27) (w0 := ws) ws.heap.size (by rfl) (.tmp 87) (.tmp 89) 54 41 (.agg Rep.z.cs) 216 rfl rep_und rep_info ?aZ (by decide) (by omega) v87 (past.map (fun r => r.cs.toList)) [x.cs.toList] (some ⟨g89, 0, none⟩) 1 1 (fun _ => True) (fun _ => False) rfl rfl ?aO ?aR (fun _ _ h => h) (fun _ h => h.elim) (fun _ _ => trivial) HB.out HB.out.size ?aL ?_
        (case aZ => rfl)
        (case aO => exact R87.out)
        (case aR => exact raw_one27 x BKg89.out)
        (case aL => rw [List.length_map]; omega)
        intro v90 y10_ hR hb hg hat
        rw [show past.map (fun r => r.cs.toList) ++ [x.cs.toList] = (past ++ [x]).map (fun r => r.cs.toList) from by rw [List.map_append]; rfl] at hR
        have m_R90 := Aside0.mk hR
        have n_HB := Aside0.mk hb
        clear R87 HB hR hb hg hat
        have HB := n_HB
        clear n_HB
        have R90 := m_R90
        clear m_R90
        refine hK.out _ _ (blk_below K13.out HB.out) (fun hHeld => ?_)
        clear hK K
        refine norm_ (a' := ?_) ?_ ?_
        rotate_left
        · show Act.put _ (some 90) _ = _
          simp only [Act.put, List.setIfInBounds_toArray, List.set_cons_zero, List.set_cons_succ, i64_w, i32_w]
          rfl
        refine pure_ (i := 6) (N := some 15) (v := ?_) (a' := ?_) #[true, true, true, true, true, true, true] rfl rfl (by kernel_rfl) (fun _ _ _ h => h) (Or.inl ⟨by rfl, ?_⟩) ?_ ?_
        rotate_left
        · intro w'
          go_simp
          with_reducible rfl
        rotate_left
        · simp only [Act.put, List.setIfInBounds_toArray, List.set_cons_zero, List.set_cons_succ, i64_w, i32_w]
          rfl
        refine done_ (by kernel_rfl) ?_
        clear hHeld
        have HX := Aside0.mk (C0.out.below HB.out)
        have H13 := Aside0.mk (blk_below K13.out HB.out)
        have HB2 := Aside0.mk (below_step B0.out HB.out)
        clear C0 K13 B0 HB
        generalize y10_ = u8 at HX H13 HB2 R90 ⊢
        generalize ws.heap.size = b9 at R90
        have HB := HB2
        clear HB2
        obtain ⟨A9, c9, e9⟩ := Kd.R_slice R90.out
        rw [List.length_map, List.length_append, List.length_singleton] at e9
        subst e9
        go_wp2_with fail
        go_loopw [16] (fun y wr => ∃ j : Nat, j ≤ past.length ∧ y = .int .i64 ((j : Int) + 1) ∧ Aside0 (CL w.heap.size wr p pv past x t cv ch (.slice A past.length c) past) ∧ Aside0 (Kd.R (Kd.raw 27) 41 wr b9 (fun _ => True) (.slice A9 (past.length + 1) c9) ((past ++ [x]).map (fun r => r.cs.toList))) ∧ Aside0 (wr.heap[g13]? = some (.cells x.cs 41 (0, 0))) ∧ Aside0 (Below w.heap.size w wr)) (fun y _ => past.length + 1 - (intOf y).toNat)
        case atStart => exact ⟨0, Nat.zero_le _, by go_num, HX, R90, H13, HB⟩
        case round =>
          clear HX R90 H13 HB
          obtain ⟨j, hj, rfl, HX, R90, H13, HB⟩ := hrel
          by_cases hjl : j < past.length
          case pos =>
            obtain ⟨ad, hA, hcell⟩ := row27_get R90.out j (by simp; omega)
            obtain ⟨ad2, hA2, hcell2⟩ := row27_get R90.out (j + 1) (by simp; omega)
            rw [hA] at hA2
            cases hA2
            have hch := HH.out.ch j (by simp; omega)
            obtain ⟨r0, hr0⟩ : ∃ r, (past ++ [x])[j]'(by simp; omega) = r := ⟨_, rfl⟩
            obtain ⟨r1, hr1⟩ : ∃ r, (past ++ [x])[j + 1]'(by simp; omega) = r := ⟨_, rfl⟩
            rw [hr0, hr1] at hch
            rw [hr0] at hcell
            rw [hr1] at hcell2
            clear hr0 hr1
            obtain ⟨ho, hs⟩ := hch
            have hA' := hA
            subst hA
            have p0 : (0 : Int) ≤ (j : Int) + 1 := by omega
            go_upto_region 26 with fail
            have pj : (j : Int) < (past.length : Int) + 1 := by omega
            have en : ∀ n : Int, (n != n) = false := fun n => by simp
            have ewj : wrap64 (j : Int) = (j : Int) := by unfold wrap64; omega
            have C1 := Aside0.mk hcell
            have C2 := Aside0.mk hcell2
            clear hcell hcell2
            have n_HB := Aside0.mk (below_step HB.out (below_drew (Below.refl _ _)))
            have n_HX := Aside0.mk (HX.out.below (below_drew (Below.refl _ _)))
            have n_H13 := Aside0.mk (blk_below H13.out (below_drew (Below.refl _ _)))
            have n_R90 := Aside0.mk (Kd.R_below R90.out (below_drew (Below.refl _ _)))
            have n_C1 := Aside0.mk (cells_below (below_drew (Below.refl _ _)) C1.out)
            have n_C2 := Aside0.mk (cells_below (below_drew (Below.refl _ _)) C2.out)
            clear HB
            have HB := n_HB
            clear n_HB
            clear HX
            have HX := n_HX
            clear n_HX
            clear H13
            have H13 := n_H13
            clear n_H13
            clear R90
            have R90 := n_R90
            clear n_R90
            clear C1
            have C1 := n_C1
            clear n_C1
            clear C2
            have C2 := n_C2
            clear n_C2
            refine start_ (n := 32) (S := fun w' => w'.cell? ⟨(ad.add ((j + 1) * 27)).block, (ad.add ((j + 1) * 27)).off + 1, none⟩ = some (.int .i64 r0.c) ∧ w'.cell? ⟨(ad.add (j * 27)).block, (ad.add (j * 27)).off + 7, none⟩ = some (.int .i64 r0.c) ∧ w'.cell? ⟨(ad.add ((j + 1) * 27)).block, (ad.add ((j + 1) * 27)).off + 14, none⟩ = some (.int .i64 r0.s1.c) ∧ w'.cell? ⟨(ad.add (j * 27)).block, (ad.add (j * 27)).off + 19, none⟩ = some (.int .i64 r0.s1.c)) (ds := []) #[false, false, false, false, false, false, false, false, false, false, false, false, false, false, false, false, false, false, false, false, false, false, false, false, false, false, false, false, false, false, false, false] (by kernel_rfl) rfl rfl ⟨st_cell C2.out 0 (by rw [← ho]; rfl), st_cell C1.out 6 rfl, st_cell C2.out 13 (by rw [← hs]; rfl), st_cell C1.out 18 rfl⟩ (fun hHeld => ?_)
            generalize wr.drew = wd at HB HX H13 R90 C1 C2 hHeld ⊢
            refine pure_ (i := 0) (N := some 97) (v := ?_) (a' := ?_) #[true, false, false, false, false, false, false, false, false, false, false, false, false, false, false, false, false, false, false, false, false, false, false, false, false, false, false, false, false, false, false, false] rfl rfl (by kernel_rfl) (fun _ _ _ h => h) (Or.inl ⟨by rfl, ?_⟩) ?_ ?_
            rotate_left
            · intro w'
              go_simp
              with_reducible rfl
            rotate_left
            · simp only [Act.put, List.setIfInBounds_toArray, List.set_cons_zero, List.set_cons_succ, i64_w, i32_w]
              rfl
            refine pure_ (i := 1) (N := some 98) (v := ?_) (a' := ?_) #[true, true, false, false, false, false, false, false, false, false, false, false, false, false, false, false, false, false, false, false, false, false, false, false, false, false, false, false, false, false, false, false] rfl rfl (by kernel_rfl) (fun _ _ _ h => h) (Or.inl ⟨by rfl, ?_⟩) ?_ ?_
            rotate_left
            · intro w'
              go_simp
              with_reducible rfl
            rotate_left
            · simp only [Act.put, List.setIfInBounds_toArray, List.set_cons_zero, List.set_cons_succ, i64_w, i32_w]
              rfl
            refine pure_ (i := 2) (N := some 99) (v := ?_) (a' := ?_) #[true, true, true, false, false, false, false, false, false, false, false, false, false, false, false, false, false, false, false, false, false, false, false, false, false, false, false, false, false, false, false, false] rfl rfl (by kernel_rfl) (fun _ _ _ h => h) (Or.inl ⟨by rfl, ?_⟩) ?_ ?_
            rotate_left
            · intro w'
              go_simp
              with_reducible rfl
            rotate_left
            · simp only [Act.put, List.setIfInBounds_toArray, List.set_cons_zero, List.set_cons_succ, i64_w, i32_w]
              rfl
            refine pure_ (i := 3) (N := some 100) (v := ?_) (a' := ?_) #[true, true, true, true, false, false, false, false, false, false, false, false, false, false, false, false, false, false, false, false, false, false, false, false, false, false, false, false, false, false, false, false] rfl rfl (by kernel_rfl) (fun _ _ _ h => h) (Or.inl ⟨by rfl, ?_⟩) ?_ ?_
            rotate_left
            · intro w'
              go_simp
              with_reducible rfl
            rotate_left
            · simp only [Act.put, List.setIfInBounds_toArray, List.set_cons_zero, List.set_cons_succ, i64_w, i32_w]
              rfl
            refine pure_ (i := 4) (N := some 101) (v := ?_) (a' := ?_) #[true, true, true, true, true, false, false, false, false, false, false, false, false, false, false, false, false, false, false, false, false, false, false, false, false, false, false, false, false, false, false, false] rfl rfl (by kernel_rfl) (fun _ _ _ h => h) (Or.inl ⟨by rfl, ?_⟩) ?_ ?_
            rotate_left
            · intro w'
              go_simp
              with_reducible rfl
            rotate_left
            · simp only [Act.put, List.setIfInBounds_toArray, List.set_cons_zero, List.set_cons_succ, i64_w, i32_w]
              rfl
            refine pure_ (i := 6) (N := some 103) (v := ?_) (a' := ?_) #[true, true, true, true, true, false, true, false, false, false, false, false, false, false, false, false, false, false, false, false, false, false, false, false, false, false, false, false, false, false, false, false] rfl rfl (by kernel_rfl) (fun _ _ _ h => h) (Or.inl ⟨by rfl, ?_⟩) ?_ ?_
            rotate_left
            · intro w'
              go_simp
              with_reducible rfl
            rotate_left
            · simp only [Act.put, List.setIfInBounds_toArray, List.set_cons_zero, List.set_cons_succ, i64_w, i32_w]
              rfl
            refine pure_ (i := 7) (N := some 104) (v := ?_) (a' := ?_) #[true, true, true, true, true, false, true, true, false, false, false, false, false, false, false, false, false, false, false, false, false, false, false, false, false, false, false, false, false, false, false, false] rfl rfl (by kernel_rfl) (fun _ _ _ h => h) (Or.inl ⟨by rfl, ?_⟩) ?_ ?_
            rotate_left
            · intro w'
              go_simp
              with_reducible rfl
            rotate_left
            · simp only [Act.put, List.setIfInBounds_toArray, List.set_cons_zero, List.set_cons_succ, i64_w, i32_w]
              rfl
            refine pure_ (i := 8) (N := some 105) (v := ?_) (a' := ?_) #[true, true, true, true, true, false, true, true, true, false, false, false, false, false, false, false, false, false, false, false, false, false, false, false, false, false, false, false, false, false, false, false] rfl rfl (by kernel_rfl) (fun _ _ _ h => h) (Or.inl ⟨by rfl, ?_⟩) ?_ ?_
            rotate_left
            · intro w'
              go_simp
              with_reducible rfl
            rotate_left
            · simp only [Act.put, List.setIfInBounds_toArray, List.set_cons_zero, List.set_cons_succ, i64_w, i32_w]
              rfl
            refine pure_ (i := 9) (N := some 106) (v := ?_) (a' := ?_) #[true, true, true, true, true, false, true, true, true, true, false, false, false, false, false, false, false, false, false, false, false, false, false, false, false, false, false, false, false, false, false, false] rfl rfl (by kernel_rfl) (fun _ _ _ h => h) (Or.inl ⟨by rfl, ?_⟩) ?_ ?_
            rotate_left
            · intro w'
              go_simp
              with_reducible rfl
            rotate_left
            · simp only [Act.put, List.setIfInBounds_toArray, List.set_cons_zero, List.set_cons_succ, i64_w, i32_w]
              rfl
            refine pure_ (i := 10) (N := some 107) (v := ?_) (a' := ?_) #[true, true, true, true, true, false, true, true, true, true, true, false, false, false, false, false, false, false, false, false, false, false, false, false, false, false, false, false, false, false, false, false] rfl rfl (by kernel_rfl) (fun _ _ _ h => h) (Or.inl ⟨by rfl, ?_⟩) ?_ ?_
            rotate_left
            · intro w'
              go_simp
              with_reducible rfl
            rotate_left
            · simp only [Act.put, List.setIfInBounds_toArray, List.set_cons_zero, List.set_cons_succ, i64_w, i32_w]
              rfl
            refine pure_ (i := 11) (N := some 108) (v := ?_) (a' := ?_) #[true, true, true, true, true, false, true, true, true, true, true, true, false, false, false, false, false, false, false, false, false, false, false, false, false, false, false, false, false, false, false, false] rfl rfl (by kernel_rfl) (fun _ _ _ h => h) (Or.inl ⟨by rfl, ?_⟩) ?_ ?_
            rotate_left
            · intro w'
              go_simp
              with_reducible rfl
            rotate_left
            · simp only [Act.put, List.setIfInBounds_toArray, List.set_cons_zero, List.set_cons_succ, i64_w, i32_w]
              rfl
            refine take_ (i := 5) (N := some 102) (v := ?_) (a' := ?_) #[true, true, true, true, true, true, true, true, true, true, true, true, false, false, false, false, false, false, false, false, false, false, false, false, false, false, false, false, false, false, false, false] rfl rfl (by kernel_rfl) (fun _ _ _ h => h) (Or.inl ⟨by rfl, ?_⟩) hHeld ?_ ?_
            rotate_left
            · rintro w' ⟨s0, s1, s2, s3⟩
              go_simp
              with_reducible rfl
            rotate_left
            · simp only [Act.put, List.setIfInBounds_toArray, List.set_cons_zero, List.set_cons_succ, i64_w, i32_w]
              rfl
            refine take_ (i := 12) (N := some 109) (v := ?_) (a' := ?_) #[true, true, true, true, true, true, true, true, true, true, true, true, true, false, false, false, false, false, false, false, false, false, false, false, false, false, false, false, false, false, false, false] rfl rfl (by kernel_rfl) (fun _ _ _ h => h) (Or.inl ⟨by rfl, ?_⟩) hHeld ?_ ?_
            rotate_left
            · rintro w' ⟨s0, s1, s2, s3⟩
              go_simp
              with_reducible rfl
            rotate_left
            · simp only [Act.put, List.setIfInBounds_toArray, List.set_cons_zero, List.set_cons_succ, i64_w, i32_w]
              rfl
            refine pure_ (i := 13) (N := some 110) (v := ?_) (a' := ?_) #[true, true, true, true, true, true, true, true, true, true, true, true, true, true, false, false, false, false, false, false, false, false, false, false, false, false, false, false, false, false, false, false] rfl rfl (by kernel_rfl) (fun _ _ _ h => h) (Or.inl ⟨by rfl, ?_⟩) ?_ ?_
            rotate_left
            · intro w'
              go_simp
              with_reducible rfl
            rotate_left
            · simp only [Act.put, List.setIfInBounds_toArray, List.set_cons_zero, List.set_cons_succ, i64_w, i32_w]
              rfl
            refine pure_ (i := 14) (N := some 111) (v := ?_) (a' := ?_) #[true, true, true, true, true, true, true, true, true, true, true, true, true, true, true, false, false, false, false, false, false, false, false, false, false, false, false, false, false, false, false, false] rfl rfl (by kernel_rfl) (fun _ _ _ h => h) (Or.inl ⟨by rfl, ?_⟩) ?_ ?_
            rotate_left
            · intro w'
              go_simp
              with_reducible rfl
            rotate_left
            · simp only [Act.put, List.setIfInBounds_toArray, List.set_cons_zero, List.set_cons_succ, i64_w, i32_w]
              rfl
            refine pure_ (i := 15) (N := some 112) (v := ?_) (a' := ?_) #[true, true, true, true, true, true, true, true, true, true, true, true, true, true, true, true, false, false, false, false, false, false, false, false, false, false, false, false, false, false, false, false] rfl rfl (by kernel_rfl) (fun _ _ _ h => h) (Or.inl ⟨by rfl, ?_⟩) ?_ ?_
            rotate_left
            · intro w'
              go_simp
              with_reducible rfl
            rotate_left
            · simp only [Act.put, List.setIfInBounds_toArray, List.set_cons_zero, List.set_cons_succ, i64_w, i32_w]
              rfl
            refine pure_ (i := 16) (N := some 113) (v := ?_) (a' := ?_) #[true, true, true, true, true, true, true, true, true, true, true, true, true, true, true, true, true, false, false, false, false, false, false, false, false, false, false, false, false, false, false, false] rfl rfl (by kernel_rfl) (fun _ _ _ h => h) (Or.inl ⟨by rfl, ?_⟩) ?_ ?_
            rotate_left
            · intro w'
              go_simp
              with_reducible rfl
            rotate_left
            · simp only [Act.put, List.setIfInBounds_toArray, List.set_cons_zero, List.set_cons_succ, i64_w, i32_w]
              rfl
            refine pure_ (i := 17) (N := some 114) (v := ?_) (a' := ?_) #[true, true, true, true, true, true, true, true, true, true, true, true, true, true, true, true, true, true, false, false, false, false, false, false, false, false, false, false, false, false, false, false] rfl rfl (by kernel_rfl) (fun _ _ _ h => h) (Or.inl ⟨by rfl, ?_⟩) ?_ ?_
            rotate_left
            · intro w'
              go_simp
              with_reducible rfl
            rotate_left
            · simp only [Act.put, List.setIfInBounds_toArray, List.set_cons_zero, List.set_cons_succ, i64_w, i32_w]
              rfl
            refine pure_ (i := 18) (N := some 115) (v := ?_) (a' := ?_) #[true, true, true, true, true, true, true, true, true, true, true, true, true, true, true, true, true, true, true, false, false, false, false, false, false, false, false, false, false, false, false, false] rfl rfl (by kernel_rfl) (fun _ _ _ h => h) (Or.inl ⟨by rfl, ?_⟩) ?_ ?_
            rotate_left
            · intro w'
              go_simp
              with_reducible rfl
            rotate_left
            · simp only [Act.put, List.setIfInBounds_toArray, List.set_cons_zero, List.set_cons_succ, i64_w, i32_w]
              rfl
            refine pure_ (i := 19) (N := some 116) (v := ?_) (a' := ?_) #[true, true, true, true, true, true, true, true, true, true, true, true, true, true, true, true, true, true, true, true, false, false, false, false, false, false, false, false, false, false, false, false] rfl rfl (by kernel_rfl) (fun _ _ _ h => h) (Or.inl ⟨by rfl, ?_⟩) ?_ ?_
            rotate_left
            · intro w'
              go_simp
              with_reducible rfl
            rotate_left
            · simp only [Act.put, List.setIfInBounds_toArray, List.set_cons_zero, List.set_cons_succ, i64_w, i32_w]
              rfl
            refine pure_ (i := 20) (N := some 117) (v := ?_) (a' := ?_) #[true, true, true, true, true, true, true, true, true, true, true, true, true, true, true, true, true, true, true, true, true, false, false, false, false, false, false, false, false, false, false, false] rfl rfl (by kernel_rfl) (fun _ _ _ h => h) (Or.inl ⟨by rfl, ?_⟩) ?_ ?_
            rotate_left
            · intro w'
              go_simp
              with_reducible rfl
            rotate_left
            · simp only [Act.put, List.setIfInBounds_toArray, List.set_cons_zero, List.set_cons_succ, i64_w, i32_w]
              rfl
            refine pure_ (i := 22) (N := some 119) (v := ?_) (a' := ?_) #[true, true, true, true, true, true, true, true, true, true, true, true, true, true, true, true, true, true, true, true, true, false, true, false, false, false, false, false, false, false, false, false] rfl rfl (by kernel_rfl) (fun _ _ _ h => h) (Or.inl ⟨by rfl, ?_⟩) ?_ ?_
            rotate_left
            · intro w'
              go_simp
              with_reducible rfl
            rotate_left
            · simp only [Act.put, List.setIfInBounds_toArray, List.set_cons_zero, List.set_cons_succ, i64_w, i32_w]
              rfl
            refine pure_ (i := 23) (N := some 120) (v := ?_) (a' := ?_) #[true, true, true, true, true, true, true, true, true, true, true, true, true, true, true, true, true, true, true, true, true, false, true, true, false, false, false, false, false, false, false, false] rfl rfl (by kernel_rfl) (fun _ _ _ h => h) (Or.inl ⟨by rfl, ?_⟩) ?_ ?_
            rotate_left
            · intro w'
              go_simp
              with_reducible rfl
            rotate_left
            · simp only [Act.put, List.setIfInBounds_toArray, List.set_cons_zero, List.set_cons_succ, i64_w, i32_w]
              rfl
            refine pure_ (i := 24) (N := some 121) (v := ?_) (a' := ?_) #[true, true, true, true, true, true, true, true, true, true, true, true, true, true, true, true, true, true, true, true, true, false, true, true, true, false, false, false, false, false, false, false] rfl rfl (by kernel_rfl) (fun _ _ _ h => h) (Or.inl ⟨by rfl, ?_⟩) ?_ ?_
            rotate_left
            · intro w'
              go_simp
              with_reducible rfl
            rotate_left
            · simp only [Act.put, List.setIfInBounds_toArray, List.set_cons_zero, List.set_cons_succ, i64_w, i32_w]
              rfl
            refine pure_ (i := 25) (N := some 122) (v := ?_) (a' := ?_) #[true, true, true, true, true, true, true, true, true, true, true, true, true, true, true, true, true, true, true, true, true, false, true, true, true, true, false, false, false, false, false, false] rfl rfl (by kernel_rfl) (fun _ _ _ h => h) (Or.inl ⟨by rfl, ?_⟩) ?_ ?_
            rotate_left
            · intro w'
              go_simp
              with_reducible rfl
            rotate_left
            · simp only [Act.put, List.setIfInBounds_toArray, List.set_cons_zero, List.set_cons_succ, i64_w, i32_w]
              rfl
            refine pure_ (i := 26) (N := some 123) (v := ?_) (a' := ?_) #[true, true, true, true, true, true, true, true, true, true, true, true, true, true, true, true, true, true, true, true, true, false, true, true, true, true, true, false, false, false, false, false] rfl rfl (by kernel_rfl) (fun _ _ _ h => h) (Or.inl ⟨by rfl, ?_⟩) ?_ ?_
            rotate_left
            · intro w'
              go_simp
              with_reducible rfl
            rotate_left
            · simp only [Act.put, List.setIfInBounds_toArray, List.set_cons_zero, List.set_cons_succ, i64_w, i32_w]
              rfl
            refine pure_ (i := 27) (N := some 124) (v := ?_) (a' := ?_) #[true, true, true, true, true, true, true, true, true, true, true, true, true, true, true, true, true, true, true, true, true, false, true, true, true, true, true, true, false, false, false, false] rfl rfl (by kernel_rfl) (fun _ _ _ h => h) (Or.inl ⟨by rfl, ?_⟩) ?_ ?_
            rotate_left
            · intro w'
              go_simp
              with_reducible rfl
            rotate_left
            · simp only [Act.put, List.setIfInBounds_toArray, List.set_cons_zero, List.set_cons_succ, i64_w, i32_w]
              rfl
            refine pure_ (i := 28) (N := some 125) (v := ?_) (a' := ?_) #[true, true, true, true, true, true, true, true, true, true, true, true, true, true, true, true, true, true, true, true, true, false, true, true, true, true, true, true, true, false, false, false] rfl rfl (by kernel_rfl) (fun _ _ _ h => h) (Or.inl ⟨by rfl, ?_⟩) ?_ ?_
            rotate_left
            · intro w'
              go_simp
              with_reducible rfl
            rotate_left
            · simp only [Act.put, List.setIfInBounds_toArray, List.set_cons_zero, List.set_cons_succ, i64_w, i32_w]
              rfl
            refine take_ (i := 21) (N := some 118) (v := ?_) (a' := ?_) #[true, true, true, true, true, true, true, true, true, true, true, true, true, true, true, true, true, true, true, true, true, true, true, true, true, true, true, true, true, false, false, false] rfl rfl (by kernel_rfl) (fun _ _ _ h => h) (Or.inl ⟨by rfl, ?_⟩) hHeld ?_ ?_
            rotate_left
            · rintro w' ⟨s0, s1, s2, s3⟩
              go_simp
              with_reducible rfl
            rotate_left
            · simp only [Act.put, List.setIfInBounds_toArray, List.set_cons_zero, List.set_cons_succ, i64_w, i32_w]
              rfl
            refine take_ (i := 29) (N := some 126) (v := ?_) (a' := ?_) #[true, true, true, true, true, true, true, true, true, true, true, true, true, true, true, true, true, true, true, true, true, true, true, true, true, true, true, true, true, true, false, false] rfl rfl (by kernel_rfl) (fun _ _ _ h => h) (Or.inl ⟨by rfl, ?_⟩) hHeld ?_ ?_
            rotate_left
            · rintro w' ⟨s0, s1, s2, s3⟩
              go_simp
              with_reducible rfl
            rotate_left
            · simp only [Act.put, List.setIfInBounds_toArray, List.set_cons_zero, List.set_cons_succ, i64_w, i32_w]
              rfl
            refine pure_ (i := 30) (N := some 127) (v := ?_) (a' := ?_) #[true, true, true, true, true, true, true, true, true, true, true, true, true, true, true, true, true, true, true, true, true, true, true, true, true, true, true, true, true, true, true, false] rfl rfl (by kernel_rfl) (fun _ _ _ h => h) (Or.inl ⟨by rfl, ?_⟩) ?_ ?_
            rotate_left
            · intro w'
              go_simp
              with_reducible rfl
            rotate_left
            · simp only [Act.put, List.setIfInBounds_toArray, List.set_cons_zero, List.set_cons_succ, i64_w, i32_w]
              rfl
            refine pure_ (i := 31) (N := some 128) (v := ?_) (a' := ?_) #[true, true, true, true, true, true, true, true, true, true, true, true, true, true, true, true, true, true, true, true, true, true, true, true, true, true, true, true, true, true, true, true] rfl rfl (by kernel_rfl) (fun _ _ _ h => h) (Or.inl ⟨by rfl, ?_⟩) ?_ ?_
            rotate_left
            · intro w'
              go_simp
              with_reducible rfl
            rotate_left
            · simp only [Act.put, List.setIfInBounds_toArray, List.set_cons_zero, List.set_cons_succ, i64_w, i32_w]
              rfl
            refine done_ (by kernel_rfl) ?_
            clear hHeld ewj
            go_wp2_with fail
            go_roundw
            case rel => exact ⟨j + 1, by omega, by go_num, HX, R90, H13, HB⟩
            case measure => simp [intOf]; omega
          case neg =>
            go_wp2_with fail
            clear hjl hj
            have n1 := close_Closer_Past.none_ HX.out.c (by omega) ((past.length : Int) + 1) rfl
            replace n1 := Aside0.mk n1
            refine n1.out.mono ?_
            rintro e u9 ⟨rfl, hb⟩
            have HX9 := Aside0.mk (HX.out.below hb)
            have HB9 := Aside0.mk (below_step HB.out hb)
            have H139 := Aside0.mk (blk_below H13.out hb)
            clear hb HX HB H13 n1
            go_wp2_with ((with_reducible refine gate_store (t := 41) (p := 17) (v := .tmp 135) rfl ?_); refine Shut.out ?_)
            unfold Shut
            change wpList _ _ _ _ _ (u9.alloc (.cells Rep.z.cs 41))
            obtain ⟨hnb, hnk⟩ := newbk u9 Rep.z.cs Rep.z.cs 41
            refine store_rowTo rfl 41 (.tmp 17) (.tmp 135) rfl rfl u9.heap.size Rep.z.cs rfl rfl 41 _ (blk_new u9 _) (by kernel_rfl) rfl (Rep.all _) ?_
            have HXa := Aside0.mk (HX9.out.below hnb)
            have HBa := Aside0.mk (below_step HB9.out hnb)
            have H13a := Aside0.mk (blk_below H139.out hnb)
            clear hnb hnk HX9 HB9 H139
            generalize (u9.alloc (.cells Rep.z.cs 41)).setRow u9.heap.size Rep.z.cs = ua at HXa HBa H13a ⊢
            generalize u9.heap.size = g17 at ⊢
            have k13 : ua.cell? ⟨g13, 0, none⟩ = some (.int .i64 ((past.length : Int) + 1)) := (blk_cell H13a.out 0).trans (by rw [← HH.out.px]; rfl)
            have en : ∀ n : Int, (n != n) = false := fun n => by simp
            go_wp2_with fail
            go_roundw
            case rel => exact ⟨i + 1, A, c, pv, past, x, t, cv, ch, by omega, rfl, by go_num, hpl, HXa, IX, HH, HBa⟩
            case measure => simp [intOf]; omega
theorem lombardlaw23_CloseStays.calls (A0 : Option Addr) (c0 : Nat) (l0 : List (S34)) (r : Bool) (w : World) (hr0 : Kd.C k34 w A0 l0.length l0) (hc0 : l0.length ≤ c0) (h : lombardlaw23_CloseStays.f l0 = some r) :
    Calls Try.prog 4 #[.slice A0 l0.length c0] w fun e w' => e = .returned (.bool r) ∧ Below w.heap.size w w' := by
  have e_ := Option.some.inj h
  subst e_
  exact lombardlaw23_CloseStays.walk A0 c0 l0 w hr0 hc0


end Go.Proofs.Ytpcllhhbaockfaa.Print
