-- written by this session's program wip/hybrid.py over the kit's printer, and by hand. Not trusted: Lean checks it.
import Derived.Test.YtpcllhhbaockfaaPrint0
import Derived.Test.YtpcllhhbaockfaaPrint1
import Derived.Test.YtpcllhhbaockfaaPrint12
import Derived.Test.YtpcllhhbaockfaaPrint14
namespace Go.Proofs.Ytpcllhhbaockfaa.Print
open Go.RowKit Go.Proofs.YtpcllhhbaockfaaW.PrintWords Go.Proofs.YtpcllhhbaockfaaW.PrintLast Go.Proofs.YtpcllhhbaockfaaW.PrintMore
attribute [local go_sem] max2_int min2_int max_two min_two max_three min_three max_four min_four   -- for this text's walks alone
set_option linter.unusedVariables false
set_option linter.unusedSimpArgs false

/-! ### close_Closer_Past: function 13 -/
variable {B : Nat} {w w' : World} {p t : Nat} {pv cv : Value} {past : List Rep} {x : Rep} {ch : List S64}
theorem row27_get {w : World} {e B n c : Nat} {A : Option Addr} {l : List Rep} {ok : Nat → Prop} (h : Kd.R (Kd.raw 27) e w B ok (.slice A n c) (l.map (fun r => r.cs.toList))) (i : Nat) (hi : i < l.length) : ∃ ad, A = some ad ∧ ∀ j u, (l[i].cs.toList)[j]? = some u → w.cell? ((ad.add (i * 27)).add j) = some u := by
  obtain ⟨hn, _, hC⟩ := Kd.R_reads' h
  rw [List.length_map] at hC hn
  obtain ⟨ad, cs, hA, hl, hK, hc⟩ := Kd.C_get hC [] (i : Int) (by omega) (by omega)
  refine ⟨ad, hA, fun j u hu => ?_⟩
  have hcs : cs = l[i].cs.toList := by
    have := hK.1
    rw [this]
    simp [List.getD, hi]
  rw [add_add]
  have := hc j u (by rw [hcs]; exact hu)
  rwa [Int.toNat_natCast] at this
set_option maxHeartbeats 8000000 in
set_option maxRecDepth 100000 in
theorem close_Closer_Past.none_ (h : CA B w p pv past x t cv ch) (hl : past.length ≤ 1000000) (n : Int) (hn : n = past.length + 1) : Calls Try.prog 13 #[.pointer (some ⟨p, 0, none⟩), .int .i64 n] w fun e w' => e = .returned (.tuple #[.agg Rep.z.cs, .int .i64 8]) ∧ Below w.heap.size w w' := by
  obtain ⟨Ap, cp, hpv⟩ := Kd.R_slice h.hw
  rw [List.length_map] at hpv
  subst hpv
  have hb := below_alloc (Below.refl w.heap.size w) (.cells Rep.z.cs 41)
  have k0 := blk_new w (.cells Rep.z.cs 41)
  have HB := Aside0.mk hb
  have H2 := Aside0.mk k0
  have HA := Aside0.mk (h.below hb)
  clear hb k0 h
  go_enter Try.func13, Try.ntmps13
  go_upto_block 0 with fail
  change Code.wp _ _ _ _ (w.alloc (.cells Rep.z.cs 41))
  obtain ⟨g2, hg2⟩ : ∃ g, g = w.heap.size := ⟨_, rfl⟩
  have ge2 := Aside0.mk (Nat.le_of_eq hg2.symm)
  rw [← hg2] at H2 ⊢
  generalize w.alloc (.cells Rep.z.cs 41) = w1 at HB H2 HA ⊢
  clear hg2
  have c0 : w1.cell? ⟨p, 0, none⟩ = some (.slice Ap past.length cp) := (blk_cell HA.out.hp 0).trans rfl
  have n1 : ¬ n < 1 := by omega
  have n2 : (past.length : Int) < n := by omega
  clear hn
  go_wp2_with ((with_reducible refine gate_store (t := 41) (p := 4) (v := .tmp 22) rfl ?_); refine store_rowTo rfl 41 (.tmp 4) (.tmp 22) rfl rfl g2 Rep.z.cs rfl rfl 41 _ H2.out (by kernel_rfl) rfl (Rep.all _) ?_)
  exact bodyPost_ret (v := .tuple #[.agg Rep.z.cs, .int .i64 8]) (results_ct Try.results13 _ _ g2 41 _ (0, 0) _ rfl (setRow_heap _ _ _ _ _ _ H2.out) Try.underlying41 rfl (by kernel_rfl)) rfl ⟨rfl, row_below HB.out ge2.out _⟩
set_option maxHeartbeats 8000000 in
set_option maxRecDepth 100000 in
theorem close_Closer_Past.calls (h : CA B w p pv past x t cv ch) (hl : past.length ≤ 1000000) (i : Nat) (hi : i < past.length) (n : Int) (hn : n = i + 1) {r : Rep} (hr : past[i] = r) : Calls Try.prog 13 #[.pointer (some ⟨p, 0, none⟩), .int .i64 n] w fun e w' => e = .returned (.tuple #[.agg r.cs, .int .i64 0]) ∧ Below w.heap.size w w' := by
  obtain ⟨Ap, cp, hpv⟩ := Kd.R_slice h.hw
  rw [List.length_map] at hpv
  subst hpv
  have hb := below_alloc (Below.refl w.heap.size w) (.cells Rep.z.cs 41)
  have k0 := blk_new w (.cells Rep.z.cs 41)
  have HB := Aside0.mk hb
  have H2 := Aside0.mk k0
  have HA := Aside0.mk (h.below hb)
  clear hb k0 h
  subst hn
  go_enter Try.func13, Try.ntmps13
  go_upto_block 0 with fail
  change Code.wp _ _ _ _ (w.alloc (.cells Rep.z.cs 41))
  obtain ⟨g2, hg2⟩ : ∃ g, g = w.heap.size := ⟨_, rfl⟩
  have ge2 := Aside0.mk (Nat.le_of_eq hg2.symm)
  rw [← hg2] at H2 ⊢
  generalize w.alloc (.cells Rep.z.cs 41) = w1 at HB H2 HA ⊢
  clear hg2
  have c0 : w1.cell? ⟨p, 0, none⟩ = some (.slice Ap past.length cp) := (blk_cell HA.out.hp 0).trans rfl
  obtain ⟨ad, hA, hcell⟩ := row27_get HA.out.hw i hi
  rw [hr] at hcell
  replace hcell := Aside0.mk hcell
  clear hr
  subst hA
  have n1 : ¬ (i : Int) + 1 < 1 := by omega
  have n2 : ¬ (past.length : Int) < (i : Int) + 1 := by omega
  go_wp2_with (first | ((with_reducible refine gate_dst (N := 30) rfl ?_); refine wpl_value rfl (load_run_at 41 (.tmp 29) rfl (ad.add (i * 27)) rfl r.cs.toList _ hcell.out Try.underlying41 rfl (by kernel_rfl)) ?_) | ((with_reducible refine gate_store (t := 41) (p := 4) (v := .tmp 30) rfl ?_); refine store_rowTo rfl 41 (.tmp 4) (.tmp 30) rfl rfl g2 r.cs rfl rfl 41 _ H2.out (by kernel_rfl) rfl (Rep.all _) ?_))
  exact bodyPost_ret (v := .tuple #[.agg r.cs, .int .i64 0]) (results_ct Try.results13 _ _ g2 41 _ (0, 0) _ rfl (setRow_heap _ _ _ _ _ _ H2.out) Try.underlying41 rfl (by kernel_rfl)) rfl ⟨rfl, row_below HB.out ge2.out _⟩


end Go.Proofs.Ytpcllhhbaockfaa.Print
