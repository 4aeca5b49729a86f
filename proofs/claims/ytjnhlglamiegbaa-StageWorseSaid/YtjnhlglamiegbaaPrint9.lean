-- written by this session's program wip/hybrid.py over the kit's printer, and by hand. Not trusted: Lean checks it.
import Derived.Test.YtjnhlglamiegbaaPrint0
import Derived.Test.YtjnhlglamiegbaaPrint5
import Derived.Test.YtjnhlglamiegbaaPrint7
namespace Go.Proofs.Ytjnhlglamiegbaa.Print
open Go.RowKit Go.Proofs.YtjnhlglamiegbaaW.PrintWords Go.Proofs.YtjnhlglamiegbaaW.PrintLast Go.Proofs.YtjnhlglamiegbaaW.PrintMore
attribute [local go_sem] max2_int min2_int max_two min_two max_three min_three max_four min_four   -- for this text's walks alone
set_option linter.unusedVariables false
set_option linter.unusedSimpArgs false
theorem zq0_ {P : Prop} (h : P := by repeat (first | (with_reducible first | exact HB.out | apply below_alloc | apply pw_below_drewN | apply below_drew1 | refine below_set ?_ GE189.out | refine below_set ?_ GE191.out | refine below_set ?_ GE192.out | refine below_set ?_ GE193.out | refine below_set ?_ GE197.out | refine below_set ?_ GE201.out | refine below_set ?_ GE202.out) | exact HB.out)) : P := h
theorem zq1_ {P : Prop} (h : P := by exact (fun k_ hk => ⟨Kd.fresh' (Kd.R_lt (by (with_reducible repeat (first | apply Kd.R_alloc | apply Kd.R_drewN | apply Kd.R_drew)); exact HO211.out)) k_ hk, Kd.freshB (g := gb192) (o := .cells #[.int .i64 a0_2, .int .i64 a0_3, .bool a0_4] 25 (0, 0)) (by (with_reducible repeat (first | refine blk_drewN ?_ _ | refine blk_drew ?_ | refine blk_alloc ?_ _)); exact BK192.out) k_ hk, Kd.freshB (g := gb193) (o := .cells #[.int .i64 x194000_17, .int .i64 x194001_17, .bool x194002_17] 25 (0, 0)) (by (with_reducible repeat (first | refine blk_drewN ?_ _ | refine blk_drew ?_ | refine blk_alloc ?_ _)); exact BK193.out) k_ hk, Kd.freshB (g := gb202) (o := .cells #[.int .i64 0, .int .i64 0, .bool true] 25 (0, 0)) (by (with_reducible repeat (first | refine blk_drewN ?_ _ | refine blk_drew ?_ | refine blk_alloc ?_ _)); exact BK202.out) k_ hk⟩)) : P := h
theorem zq2_ {P : Prop} (h : P := by (with_reducible repeat (first | refine blk_drewN ?_ _ | refine blk_drew ?_ | refine blk_alloc ?_ _)); exact BK192.out) : P := h
theorem zq3_ {P : Prop} (h : P := by (with_reducible repeat (first | refine blk_drewN ?_ _ | refine blk_drew ?_ | refine blk_alloc ?_ _)); exact BK193.out) : P := h
theorem zq4_ {P : Prop} (h : P := by (with_reducible repeat (first | refine blk_drewN ?_ _ | refine blk_drew ?_ | refine blk_alloc ?_ _)); exact BK189.out) : P := h
theorem zq5_ {P : Prop} (h : P := by (with_reducible repeat (first | refine blk_drewN ?_ _ | refine blk_drew ?_ | refine blk_alloc ?_ _)); exact BK202.out) : P := h
theorem zq6_ {P : Prop} (h : P := by (with_reducible repeat (first | refine blk_drewN ?_ _ | refine blk_drew ?_ | refine blk_alloc ?_ _)); exact BK191.out) : P := h
theorem zq7_ {P : Prop} (h : P := by (with_reducible repeat (first | refine blk_drewN ?_ _ | refine blk_drew ?_ | refine blk_alloc ?_ _)); exact BK197.out) : P := h
theorem zq8_ {P : Prop} (h : P := by (with_reducible repeat (first | refine blk_drewN ?_ _ | refine blk_drew ?_ | refine blk_alloc ?_ _)); exact BK201.out) : P := h
theorem zq9_ {P : Prop} (h : P := by exact (fun k_ hk => ⟨Kd.fresh' (Kd.R_lt (by (with_reducible repeat (first | apply Kd.R_alloc | apply Kd.R_drewN | apply Kd.R_drew)); exact HO211.out)) k_ hk, Kd.fresh' (Kd.R_lt (by (with_reducible repeat (first | apply Kd.R_alloc | apply Kd.R_drewN | apply Kd.R_drew)); exact HO217.out)) k_ hk, Kd.freshB (g := gb192) (o := .cells #[.int .i64 a0_2, .int .i64 a0_3, .bool a0_4] 25 (0, 0)) (zq2_) k_ hk, Kd.freshB (g := gb193) (o := .cells #[.int .i64 x194000_17, .int .i64 x194001_17, .bool x194002_17] 25 (0, 0)) (zq3_) k_ hk, Kd.freshB (g := gb202) (o := .cells #[.int .i64 0, .int .i64 0, .bool true] 25 (0, 0)) (zq5_) k_ hk⟩)) : P := h
theorem zq10_ {P : Prop} (h : P := by exact ⟨_, (false), (by first | rfl | (simp; done) | (simp [*]; done)), H', ⟨by have := HJ3.out; have := HJ17.out; first | omega | exact Nat.le_refl _⟩, ⟨by (with_reducible repeat (first | refine blk_drewN ?_ _ | refine blk_drew ?_ | refine blk_alloc ?_ _)); refine blk_far ?_ NB189_201.out _; (with_reducible repeat (first | refine blk_drewN ?_ _ | refine blk_drew ?_ | refine blk_alloc ?_ _)); refine blk_far ?_ NB189_201.out _; (with_reducible repeat (first | refine blk_drewN ?_ _ | refine blk_drew ?_ | refine blk_alloc ?_ _)); exact BK189.out⟩, ⟨by (with_reducible repeat (first | refine blk_drewN ?_ _ | refine blk_drew ?_ | refine blk_alloc ?_ _)); refine blk_far ?_ NB191_201.out _; (with_reducible repeat (first | refine blk_drewN ?_ _ | refine blk_drew ?_ | refine blk_alloc ?_ _)); refine blk_far ?_ NB191_201.out _; (with_reducible repeat (first | refine blk_drewN ?_ _ | refine blk_drew ?_ | refine blk_alloc ?_ _)); exact BK191.out⟩, ⟨by (with_reducible repeat (first | refine blk_drewN ?_ _ | refine blk_drew ?_ | refine blk_alloc ?_ _)); refine blk_far ?_ NB192_201.out _; (with_reducible repeat (first | refine blk_drewN ?_ _ | refine blk_drew ?_ | refine blk_alloc ?_ _)); refine blk_far ?_ NB192_201.out _; (with_reducible repeat (first | refine blk_drewN ?_ _ | refine blk_drew ?_ | refine blk_alloc ?_ _)); exact BK192.out⟩, ⟨by (with_reducible repeat (first | refine blk_drewN ?_ _ | refine blk_drew ?_ | refine blk_alloc ?_ _)); refine blk_far ?_ NB193_201.out _; (with_reducible repeat (first | refine blk_drewN ?_ _ | refine blk_drew ?_ | refine blk_alloc ?_ _)); refine blk_far ?_ NB193_201.out _; (with_reducible repeat (first | refine blk_drewN ?_ _ | refine blk_drew ?_ | refine blk_alloc ?_ _)); exact BK193.out⟩, ⟨by (with_reducible repeat (first | refine blk_drewN ?_ _ | refine blk_drew ?_ | refine blk_alloc ?_ _)); refine blk_far ?_ NB197_201.out _; (with_reducible repeat (first | refine blk_drewN ?_ _ | refine blk_drew ?_ | refine blk_alloc ?_ _)); refine blk_far ?_ NB197_201.out _; (with_reducible repeat (first | refine blk_drewN ?_ _ | refine blk_drew ?_ | refine blk_alloc ?_ _)); exact BK197.out⟩, ⟨by (with_reducible repeat (first | refine blk_drewN ?_ _ | refine blk_drew ?_ | refine blk_alloc ?_ _)); refine blk_put (cs := #[.int .i64 t198, .int .i64 0]) ?_ 1 _ rfl; (with_reducible repeat (first | refine blk_drewN ?_ _ | refine blk_drew ?_ | refine blk_alloc ?_ _)); refine blk_put (cs := #[.int .i64 0, .int .i64 0]) ?_ 0 _ rfl; (with_reducible repeat (first | refine blk_drewN ?_ _ | refine blk_drew ?_ | refine blk_alloc ?_ _)); exact BK201.out⟩, ⟨by repeat (first | (with_reducible first | exact HB.out | apply below_alloc | apply pw_below_drewN | apply below_drew1 | refine below_set ?_ GE189.out | refine below_set ?_ GE191.out | refine below_set ?_ GE192.out | refine below_set ?_ GE193.out | refine below_set ?_ GE197.out | refine below_set ?_ GE201.out) | exact HB.out)⟩⟩) : P := h
theorem zq11_ {P : Prop} (h : P := by (with_reducible repeat (first | apply Kd.R_alloc | apply Kd.R_drewN | apply Kd.R_drew)); exact HO211.out) : P := h
theorem zq12_ {P : Prop} (h : P := by repeat (first | (with_reducible first | exact HB.out | apply below_alloc | apply pw_below_drewN | apply below_drew1 | refine below_set ?_ GE189.out | refine below_set ?_ GE191.out | refine below_set ?_ GE192.out | refine below_set ?_ GE193.out | refine below_set ?_ GE197.out | refine below_set ?_ GE201.out) | exact HB.out)) : P := h
theorem zq13_ {P : Prop} (h : P := by exact norm_ (by simp only [putAll, Act.put, List.setIfInBounds_toArray, List.set_cons_zero, List.set_cons_succ]) (hCont (v204, v207, v210) _ ⟨hHeld, (by (with_reducible repeat (first | apply Kd.R_alloc | apply Kd.R_drewN | apply Kd.R_drew)); exact HO208.out), (by (with_reducible repeat (first | apply Kd.R_alloc | apply Kd.R_drewN | apply Kd.R_drew)); exact Kd.R_mono HO211.out (fun _ hk => ⟨hk.2, ⟨hk.1.1, ⟨hk.1.2.1, hk.1.2.2⟩⟩⟩)), (zq4_), (zq6_), (zq2_), (zq3_), (zq7_), (zq8_), (zq5_), (zq0_)⟩)) : P := h
theorem zq14_ {P : Prop} (h : P := by rw [hg]; exact Nat.ne_of_lt (blk_lt (g := gb189) (o := .cells #[.int .i64 a0_0, .int .i64 a0_1, .int .i64 a0_2, .int .i64 a0_3, .bool a0_4, .int .u8 a0_5, .int .u8 a0_6, .slice A0_7 l0_7.length c0_7, .slice A0_8 l0_8.length c0_8] 47 (0, 0)) (zq4_))) : P := h
theorem zq15_ {P : Prop} (h : P := by rw [hg]; exact Nat.ne_of_gt (blk_lt (g := gb189) (o := .cells #[.int .i64 a0_0, .int .i64 a0_1, .int .i64 a0_2, .int .i64 a0_3, .bool a0_4, .int .u8 a0_5, .int .u8 a0_6, .slice A0_7 l0_7.length c0_7, .slice A0_8 l0_8.length c0_8] 47 (0, 0)) (zq4_))) : P := h
theorem zq16_ {P : Prop} (h : P := by (try simp only [List.map_toArray, List.map_cons, List.map_nil]); first | done | rfl | (simp only [List.length_drop, List.length_take]; rfl)) : P := h
theorem zq17_ {P : Prop} (h : P := by (with_reducible repeat (first | apply Kd.R_alloc | apply Kd.R_drewN | apply Kd.R_drew)); exact HO217.out) : P := h
theorem zq18_ {P : Prop} (h : P := by repeat (first | (with_reducible first | exact HB.out | apply below_alloc | apply pw_below_drewN | apply below_drew1 | refine below_set ?_ GE189.out | refine below_set ?_ GE191.out | refine below_set ?_ GE192.out | refine below_set ?_ GE193.out | refine below_set ?_ GE197.out | refine below_set ?_ GE201.out | refine below_set ?_ GE202.out) | exact HB.out)) : P := h
theorem zq19_ {P : Prop} (h : P := by (with_reducible repeat (first | apply Kd.R_alloc | apply Kd.R_drewN | apply Kd.R_drew)); exact HO220.out) : P := h
theorem zq20_ {P : Prop} (h : P := by exact (fun k_ hk => ⟨Kd.freshB (g := gb192) (o := .cells #[.int .i64 a0_2, .int .i64 a0_3, .bool a0_4] 25 (0, 0)) (zq2_) k_ hk, Kd.freshB (g := gb193) (o := .cells #[.int .i64 x194000_17, .int .i64 x194001_17, .bool x194002_17] 25 (0, 0)) (zq3_) k_ hk, Kd.freshB (g := gb202) (o := .cells #[.int .i64 0, .int .i64 0, .bool true] 25 (0, 0)) (zq5_) k_ hk⟩)) : P := h
theorem zq21_ {P : Prop} (h : P := by exact (Reps.c3 (show Kd.M k25 _ _ _ (⟨0, 0, true⟩ : S25) [.int .i64 0, .int .i64 0, .bool true] from (k25_mkM _ _ _ (⟨0, 0, true⟩ : S25) )) (Reps.none _ _))) : P := h
theorem zq22_ {P : Prop} (h : P := by (with_reducible repeat (first | refine blk_drewN ?_ _ | refine blk_drew ?_ | refine blk_alloc ?_ _)); refine blk_far ?_ NB192_193.out _; (with_reducible repeat (first | refine blk_drewN ?_ _ | refine blk_drew ?_ | refine blk_alloc ?_ _)); refine blk_far ?_ NB192_193.out _; (with_reducible repeat (first | refine blk_drewN ?_ _ | refine blk_drew ?_ | refine blk_alloc ?_ _)); refine blk_far ?_ NB192_193.out _; (with_reducible repeat (first | refine blk_drewN ?_ _ | refine blk_drew ?_ | refine blk_alloc ?_ _)); exact BK192.out) : P := h
theorem zq23_ {P : Prop} (h : P := by (with_reducible repeat (first | refine blk_drewN ?_ _ | refine blk_drew ?_ | refine blk_alloc ?_ _)); refine blk_far ?_ NB191_193.out _; (with_reducible repeat (first | refine blk_drewN ?_ _ | refine blk_drew ?_ | refine blk_alloc ?_ _)); refine blk_far ?_ NB191_193.out _; (with_reducible repeat (first | refine blk_drewN ?_ _ | refine blk_drew ?_ | refine blk_alloc ?_ _)); refine blk_far ?_ NB191_193.out _; (with_reducible repeat (first | refine blk_drewN ?_ _ | refine blk_drew ?_ | refine blk_alloc ?_ _)); exact BK191.out) : P := h
theorem zq24_ {P : Prop} (h : P := by (with_reducible repeat (first | refine blk_drewN ?_ _ | refine blk_drew ?_ | refine blk_alloc ?_ _)); refine blk_far ?_ NB189_193.out _; (with_reducible repeat (first | refine blk_drewN ?_ _ | refine blk_drew ?_ | refine blk_alloc ?_ _)); refine blk_far ?_ NB189_193.out _; (with_reducible repeat (first | refine blk_drewN ?_ _ | refine blk_drew ?_ | refine blk_alloc ?_ _)); refine blk_far ?_ NB189_193.out _; (with_reducible repeat (first | refine blk_drewN ?_ _ | refine blk_drew ?_ | refine blk_alloc ?_ _)); exact BK189.out) : P := h
theorem zq25_ {P : Prop} (h : P := by (with_reducible repeat (first | apply Kd.R_alloc | apply Kd.R_drewN | apply Kd.R_drew)); exact HO224.out) : P := h
theorem zq26_ {P : Prop} (h : P := by kernel_rfl) : P := h
theorem zq27_ {P : Prop} (h : P := by (with_reducible repeat (first | refine blk_drewN ?_ _ | refine blk_drew ?_ | refine blk_alloc ?_ _)); refine blk_put (cs := #[.int .i64 0, .int .i64 0, .bool false]) ?_ 2 _ rfl; (with_reducible repeat (first | refine blk_drewN ?_ _ | refine blk_drew ?_ | refine blk_alloc ?_ _)); refine blk_put (cs := #[.int .i64 0, .int .i64 0, .bool false]) ?_ 1 _ rfl; (with_reducible repeat (first | refine blk_drewN ?_ _ | refine blk_drew ?_ | refine blk_alloc ?_ _)); refine blk_put (cs := #[.int .i64 0, .int .i64 0, .bool false]) ?_ 0 _ rfl; (with_reducible repeat (first | refine blk_drewN ?_ _ | refine blk_drew ?_ | refine blk_alloc ?_ _)); exact BK202.out) : P := h
theorem zq28_ {P : Prop} (h : P := by repeat (first | (with_reducible first | exact HB.out | apply below_alloc | apply pw_below_drewN | apply below_drew1 | refine below_set ?_ GE189.out) | exact HB.out)) : P := h
theorem zq29_ {P : Prop} (h : P := by exact norm_ (by simp only [putAll, Act.put, List.setIfInBounds_toArray, List.set_cons_zero, List.set_cons_succ]) (hCont (v204, v207, v210) _ ⟨hHeld, (by (with_reducible repeat (first | apply Kd.R_alloc | apply Kd.R_drewN | apply Kd.R_drew)); exact Kd.R_mono HO208.out (fun _ hk => ⟨hk.2, ⟨hk.1.1, ⟨hk.1.2.1, hk.1.2.2⟩⟩⟩)), (by (with_reducible repeat (first | apply Kd.R_alloc | apply Kd.R_drewN | apply Kd.R_drew)); exact Kd.R_mono HO211.out (fun _ hk => ⟨hk.1.1.1.2, ⟨hk.1.1.2, ⟨hk.1.2, hk.2⟩⟩⟩)), (zq4_), (zq6_), (zq2_), (zq3_), (zq7_), (zq8_), (zq5_), (zq0_)⟩)) : P := h
theorem zq30_ {P : Prop} (h : P := by (with_reducible repeat (first | refine blk_drewN ?_ _ | refine blk_drew ?_ | refine blk_alloc ?_ _)); refine blk_far ?_ NB201_202.out _; (with_reducible repeat (first | refine blk_drewN ?_ _ | refine blk_drew ?_ | refine blk_alloc ?_ _)); refine blk_far ?_ NB201_202.out _; (with_reducible repeat (first | refine blk_drewN ?_ _ | refine blk_drew ?_ | refine blk_alloc ?_ _)); refine blk_far ?_ NB201_202.out _; (with_reducible repeat (first | refine blk_drewN ?_ _ | refine blk_drew ?_ | refine blk_alloc ?_ _)); exact BK201.out) : P := h
theorem zq31_ {P : Prop} (h : P := by (with_reducible repeat (first | refine blk_drewN ?_ _ | refine blk_drew ?_ | refine blk_alloc ?_ _)); refine blk_far ?_ NB197_202.out _; (with_reducible repeat (first | refine blk_drewN ?_ _ | refine blk_drew ?_ | refine blk_alloc ?_ _)); refine blk_far ?_ NB197_202.out _; (with_reducible repeat (first | refine blk_drewN ?_ _ | refine blk_drew ?_ | refine blk_alloc ?_ _)); refine blk_far ?_ NB197_202.out _; (with_reducible repeat (first | refine blk_drewN ?_ _ | refine blk_drew ?_ | refine blk_alloc ?_ _)); exact BK197.out) : P := h
theorem zq32_ {P : Prop} (h : P := by (with_reducible repeat (first | refine blk_drewN ?_ _ | refine blk_drew ?_ | refine blk_alloc ?_ _)); refine blk_far ?_ NB193_202.out _; (with_reducible repeat (first | refine blk_drewN ?_ _ | refine blk_drew ?_ | refine blk_alloc ?_ _)); refine blk_far ?_ NB193_202.out _; (with_reducible repeat (first | refine blk_drewN ?_ _ | refine blk_drew ?_ | refine blk_alloc ?_ _)); refine blk_far ?_ NB193_202.out _; (with_reducible repeat (first | refine blk_drewN ?_ _ | refine blk_drew ?_ | refine blk_alloc ?_ _)); exact BK193.out) : P := h
theorem zq33_ {P : Prop} (h : P := by (with_reducible repeat (first | refine blk_drewN ?_ _ | refine blk_drew ?_ | refine blk_alloc ?_ _)); refine blk_far ?_ NB192_202.out _; (with_reducible repeat (first | refine blk_drewN ?_ _ | refine blk_drew ?_ | refine blk_alloc ?_ _)); refine blk_far ?_ NB192_202.out _; (with_reducible repeat (first | refine blk_drewN ?_ _ | refine blk_drew ?_ | refine blk_alloc ?_ _)); refine blk_far ?_ NB192_202.out _; (with_reducible repeat (first | refine blk_drewN ?_ _ | refine blk_drew ?_ | refine blk_alloc ?_ _)); exact BK192.out) : P := h
theorem zq34_ {P : Prop} (h : P := by (with_reducible repeat (first | refine blk_drewN ?_ _ | refine blk_drew ?_ | refine blk_alloc ?_ _)); refine blk_far ?_ NB191_202.out _; (with_reducible repeat (first | refine blk_drewN ?_ _ | refine blk_drew ?_ | refine blk_alloc ?_ _)); refine blk_far ?_ NB191_202.out _; (with_reducible repeat (first | refine blk_drewN ?_ _ | refine blk_drew ?_ | refine blk_alloc ?_ _)); refine blk_far ?_ NB191_202.out _; (with_reducible repeat (first | refine blk_drewN ?_ _ | refine blk_drew ?_ | refine blk_alloc ?_ _)); exact BK191.out) : P := h
theorem zq35_ {P : Prop} (h : P := by (with_reducible repeat (first | refine blk_drewN ?_ _ | refine blk_drew ?_ | refine blk_alloc ?_ _)); refine blk_far ?_ NB189_202.out _; (with_reducible repeat (first | refine blk_drewN ?_ _ | refine blk_drew ?_ | refine blk_alloc ?_ _)); refine blk_far ?_ NB189_202.out _; (with_reducible repeat (first | refine blk_drewN ?_ _ | refine blk_drew ?_ | refine blk_alloc ?_ _)); refine blk_far ?_ NB189_202.out _; (with_reducible repeat (first | refine blk_drewN ?_ _ | refine blk_drew ?_ | refine blk_alloc ?_ _)); exact BK189.out) : P := h
theorem zq36_ {P : Prop} (h : P := by (with_reducible repeat (first | refine blk_drewN ?_ _ | refine blk_drew ?_ | refine blk_alloc ?_ _)); refine blk_put (cs := #[.int .i64 a0_2, .int .i64 a0_3, .bool false]) ?_ 2 _ rfl; (with_reducible repeat (first | refine blk_drewN ?_ _ | refine blk_drew ?_ | refine blk_alloc ?_ _)); refine blk_put (cs := #[.int .i64 a0_2, .int .i64 0, .bool false]) ?_ 1 _ rfl; (with_reducible repeat (first | refine blk_drewN ?_ _ | refine blk_drew ?_ | refine blk_alloc ?_ _)); refine blk_put (cs := #[.int .i64 0, .int .i64 0, .bool false]) ?_ 0 _ rfl; (with_reducible repeat (first | refine blk_drewN ?_ _ | refine blk_drew ?_ | refine blk_alloc ?_ _)); refine blk_far ?_ NB192_191.out _; (with_reducible repeat (first | refine blk_drewN ?_ _ | refine blk_drew ?_ | refine blk_alloc ?_ _)); refine blk_far ?_ NB192_191.out _; (with_reducible repeat (first | refine blk_drewN ?_ _ | refine blk_drew ?_ | refine blk_alloc ?_ _)); exact BK192.out) : P := h
theorem zq37_ {P : Prop} (h : P := by repeat (first | (with_reducible first | exact HB.out | apply below_alloc | apply pw_below_drewN | apply below_drew1 | refine below_set ?_ GE189.out | refine below_set ?_ GE191.out | refine below_set ?_ GE192.out | refine below_set ?_ GE193.out | refine below_set ?_ GE197.out) | exact HB.out)) : P := h
theorem zq38_ {P : Prop} (h : P := by (with_reducible repeat (first | refine blk_drewN ?_ _ | refine blk_drew ?_ | refine blk_alloc ?_ _)); refine blk_far ?_ NB191_192.out _; (with_reducible repeat (first | refine blk_drewN ?_ _ | refine blk_drew ?_ | refine blk_alloc ?_ _)); refine blk_far ?_ NB191_192.out _; (with_reducible repeat (first | refine blk_drewN ?_ _ | refine blk_drew ?_ | refine blk_alloc ?_ _)); refine blk_far ?_ NB191_192.out _; (with_reducible repeat (first | refine blk_drewN ?_ _ | refine blk_drew ?_ | refine blk_alloc ?_ _)); refine blk_put (cs := #[.int .i64 a0_0, .int .i64 0]) ?_ 1 _ rfl; (with_reducible repeat (first | refine blk_drewN ?_ _ | refine blk_drew ?_ | refine blk_alloc ?_ _)); refine blk_put (cs := #[.int .i64 0, .int .i64 0]) ?_ 0 _ rfl; (with_reducible repeat (first | refine blk_drewN ?_ _ | refine blk_drew ?_ | refine blk_alloc ?_ _)); exact BK191.out) : P := h
theorem zq39_ {P : Prop} (h : P := by (with_reducible repeat (first | apply Kd.R_alloc | apply Kd.R_drewN | apply Kd.R_drew)); exact HO208.out) : P := h
theorem zq40_ {P : Prop} (h : P := by (with_reducible repeat (first | refine blk_drewN ?_ _ | refine blk_drew ?_ | refine blk_alloc ?_ _)); refine blk_far ?_ NB189_192.out _; (with_reducible repeat (first | refine blk_drewN ?_ _ | refine blk_drew ?_ | refine blk_alloc ?_ _)); refine blk_far ?_ NB189_192.out _; (with_reducible repeat (first | refine blk_drewN ?_ _ | refine blk_drew ?_ | refine blk_alloc ?_ _)); refine blk_far ?_ NB189_192.out _; (with_reducible repeat (first | refine blk_drewN ?_ _ | refine blk_drew ?_ | refine blk_alloc ?_ _)); refine blk_far ?_ NB189_191.out _; (with_reducible repeat (first | refine blk_drewN ?_ _ | refine blk_drew ?_ | refine blk_alloc ?_ _)); refine blk_far ?_ NB189_191.out _; (with_reducible repeat (first | refine blk_drewN ?_ _ | refine blk_drew ?_ | refine blk_alloc ?_ _)); exact BK189.out) : P := h
theorem zq41_ {P : Prop} (h : P := by repeat (first | (with_reducible first | exact HB.out | apply below_alloc | apply pw_below_drewN | apply below_drew1 | refine below_set ?_ GE189.out | refine below_set ?_ GE191.out | refine below_set ?_ GE192.out | refine below_set ?_ GE193.out) | exact HB.out)) : P := h
theorem zq42_ {P : Prop} (h : P := by repeat (first | (with_reducible first | exact HB.out | apply below_alloc | apply pw_below_drewN | apply below_drew1 | refine below_set ?_ GE189.out | refine below_set ?_ GE191.out | refine below_set ?_ GE192.out | refine below_set ?_ GE193.out) | exact HB.out)) : P := h
theorem zq43_ {P : Prop} (h : P := by decide) : P := h
theorem zq44_ {P : Prop} (h : P := by repeat (first | (with_reducible first | exact HB.out | apply below_alloc | apply pw_below_drewN | apply below_drew1 | refine below_set ?_ GE189.out | refine below_set ?_ GE191.out | refine below_set ?_ GE192.out) | exact HB.out)) : P := h
theorem zq45_ {P : Prop} (h : P := by (with_reducible repeat (first | refine blk_drewN ?_ _ | refine blk_drew ?_ | refine blk_alloc ?_ _)); refine blk_put (cs := #[.int .i64 a0_2, .int .i64 a0_3, .bool false]) ?_ 2 _ rfl; (with_reducible repeat (first | refine blk_drewN ?_ _ | refine blk_drew ?_ | refine blk_alloc ?_ _)); refine blk_put (cs := #[.int .i64 a0_2, .int .i64 0, .bool false]) ?_ 1 _ rfl; (with_reducible repeat (first | refine blk_drewN ?_ _ | refine blk_drew ?_ | refine blk_alloc ?_ _)); refine blk_put (cs := #[.int .i64 0, .int .i64 0, .bool false]) ?_ 0 _ rfl; (with_reducible repeat (first | refine blk_drewN ?_ _ | refine blk_drew ?_ | refine blk_alloc ?_ _)); exact BK193.out) : P := h
theorem zq46_ {P : Prop} (h : P := by repeat (first | (with_reducible first | exact HB.out | apply below_alloc | apply pw_below_drewN | apply below_drew1) | exact HB.out)) : P := h
theorem zq47_ {P : Prop} (h : P := by rw [hg]; exact Nat.ne_of_lt (blk_lt (g := gb192) (o := .cells #[.int .i64 a0_2, .int .i64 a0_3, .bool a0_4] 25 (0, 0)) (zq2_))) : P := h
theorem zq48_ {P : Prop} (h : P := by rw [hg]; exact Nat.ne_of_gt (blk_lt (g := gb192) (o := .cells #[.int .i64 a0_2, .int .i64 a0_3, .bool a0_4] 25 (0, 0)) (zq2_))) : P := h
theorem zq49_ {P : Prop} (h : P := by rw [hg]; exact Nat.ne_of_lt (blk_lt (g := gb193) (o := .cells #[.int .i64 x194000_17, .int .i64 x194001_17, .bool x194002_17] 25 (0, 0)) (zq3_))) : P := h
theorem zq50_ {P : Prop} (h : P := by rw [hg]; exact Nat.ne_of_gt (blk_lt (g := gb193) (o := .cells #[.int .i64 x194000_17, .int .i64 x194001_17, .bool x194002_17] 25 (0, 0)) (zq3_))) : P := h
theorem zq51_ {P : Prop} (h : P := by rw [hg]; exact Nat.ne_of_lt (blk_lt (g := gb191) (o := .cells #[.int .i64 a0_0, .int .i64 a0_1] 23 (0, 0)) (zq6_))) : P := h
theorem zq52_ {P : Prop} (h : P := by rw [hg]; exact Nat.ne_of_gt (blk_lt (g := gb191) (o := .cells #[.int .i64 a0_0, .int .i64 a0_1] 23 (0, 0)) (zq6_))) : P := h
theorem zq53_ {P : Prop} (h : P := by (with_reducible repeat (first | apply Kd.R_alloc | apply Kd.R_drewN | apply Kd.R_drew)); exact HO230.out) : P := h
theorem zq54_ {P : Prop} (h : P := by (with_reducible repeat (first | apply Kd.R_alloc | apply Kd.R_drewN | apply Kd.R_drew)); exact HO227.out) : P := h
theorem zq55_ {P : Prop} (h : P := by (with_reducible repeat (first | apply Kd.R_alloc | apply Kd.R_drewN | apply Kd.R_drew)); exact HO205.out) : P := h
theorem zq56_ {P : Prop} (h : P := by first | rfl | (simp [errW_none, errW_some] <;> rfl) | (simp [*, errW_none, errW_some] <;> rfl)) : P := h
theorem zq57_ {P : Prop} (h : P := by repeat (first | (with_reducible first | exact HB.out | apply below_alloc | apply pw_below_drewN | apply below_drew1 | refine below_set ?_ GE189.out | refine below_set ?_ GE191.out | refine below_set ?_ GE192.out) | exact HB.out)) : P := h
theorem zq58_ {P : Prop} (h : P := by repeat (first | (with_reducible first | exact HB.out | apply below_alloc | apply pw_below_drewN | apply below_drew1 | refine below_set ?_ GE189.out | refine below_set ?_ GE192.out) | exact HB.out)) : P := h
theorem zq59_ {P : Prop} (h : P := by repeat (first | (with_reducible first | exact HB.out | apply below_alloc | apply pw_below_drewN | apply below_drew1 | refine below_set ?_ GE189.out | refine below_set ?_ GE191.out) | exact HB.out)) : P := h
theorem zq60_ {P : Prop} (h : P := by (with_reducible repeat (first | apply Kd.R_alloc | apply Kd.R_drewN | apply Kd.R_drew)); exact Kd.R_mono HO227.out (fun _ hk => ⟨hk.1.1.1.1.2, ⟨hk.1.1.1.2, ⟨hk.1.1.2, ⟨hk.1.2, hk.2⟩⟩⟩⟩)) : P := h
theorem zq61_ {P : Prop} (h : P := by (with_reducible repeat (first | apply Kd.R_alloc | apply Kd.R_drewN | apply Kd.R_drew)); exact Kd.R_mono HO211.out (fun _ hk => ⟨⟨hk.1.2, ⟨hk.1.1.1, ⟨hk.1.1.2.1, hk.1.1.2.2⟩⟩⟩, hk.2⟩)) : P := h
theorem zq62_ {P : Prop} (h : P := by (with_reducible repeat (first | apply Kd.R_alloc | apply Kd.R_drewN | apply Kd.R_drew)); exact Kd.R_mono HO211.out (fun _ hk => ⟨⟨hk.1.1.2, ⟨hk.1.2, hk.2⟩⟩, hk.1.1.1.2⟩)) : P := h
theorem zq63_ {P : Prop} (h : P := by (with_reducible repeat (first | apply Kd.R_alloc | apply Kd.R_drewN | apply Kd.R_drew)); exact Kd.R_mono HO211.out (fun _ hk => ⟨⟨hk.1.1.1.2, ⟨hk.1.1.2, hk.1.2⟩⟩, hk.2⟩)) : P := h
theorem zq64_ {P : Prop} (h : P := by (with_reducible repeat (first | apply Kd.R_alloc | apply Kd.R_drewN | apply Kd.R_drew)); exact Kd.R_mono HO205.out (fun _ hk => ⟨hk.2, ⟨hk.1.1.1.2, ⟨hk.1.1.2, hk.1.2⟩⟩⟩)) : P := h
theorem zq65_ {P : Prop} (h : P := by (with_reducible repeat (first | apply Kd.R_alloc | apply Kd.R_drewN | apply Kd.R_drew)); exact Kd.R_mono HO205.out (fun _ hk => ⟨hk.1.1.1.2, ⟨hk.1.1.2, ⟨hk.1.2, hk.2⟩⟩⟩)) : P := h
theorem zq66_ {P : Prop} (h : P := by rw [hg]; exact Nat.ne_of_lt (blk_lt (g := gb197) (o := .cells #[.int .i64 t194, .int .i64 t195] 27 (0, 0)) (zq7_))) : P := h
theorem zq67_ {P : Prop} (h : P := by rw [hg]; exact Nat.ne_of_gt (blk_lt (g := gb197) (o := .cells #[.int .i64 t194, .int .i64 t195] 27 (0, 0)) (zq7_))) : P := h
theorem zq68_ {P : Prop} (h : P := by (with_reducible repeat (first | apply Kd.R_alloc | apply Kd.R_drewN | apply Kd.R_drew)); exact Kd.R_mono HO211.out (fun _ hk => ⟨⟨hk.2.1, ⟨hk.2.2.1, hk.2.2.2⟩⟩, hk.1⟩)) : P := h
theorem zq69_ {P : Prop} (h : P := by repeat (first | (with_reducible first | exact HB.out | apply below_alloc | apply pw_below_drewN | apply below_drew1 | refine below_set ?_ GE189.out | refine below_set ?_ GE191.out | refine below_set ?_ GE192.out | refine below_set ?_ GE193.out | refine below_set ?_ GE197.out | refine below_set ?_ GE201.out) | exact HB.out)) : P := h
theorem zq70_ {P : Prop} (h : P := by (with_reducible repeat (first | apply Kd.R_alloc | apply Kd.R_drewN | apply Kd.R_drew)); exact Kd.R_mono HO205.out (fun _ hk => ⟨hk.1.1.2, ⟨hk.1.2, hk.2⟩⟩)) : P := h
theorem zq71_ {P : Prop} (h : P := by rw [hg]; exact Nat.ne_of_lt (blk_lt (g := gb201) (o := .cells #[.int .i64 t198, .int .i64 t199] 27 (0, 0)) (zq8_))) : P := h
theorem zq72_ {P : Prop} (h : P := by rw [hg]; exact Nat.ne_of_gt (blk_lt (g := gb201) (o := .cells #[.int .i64 t198, .int .i64 t199] 27 (0, 0)) (zq8_))) : P := h
theorem zq73_ {P : Prop} (h : P := by exact (below_size (zq0_))) : P := h
theorem zq74_ {P : Prop} (h : P := by (with_reducible repeat (first | apply Kd.R_alloc | apply Kd.R_drewN | apply Kd.R_drew)); exact HO233.out) : P := h
theorem zq75_ {P : Prop} (h : P := by (with_reducible repeat (first | apply Kd.R_alloc | apply Kd.R_drewN | apply Kd.R_drew)); exact HO214.out) : P := h
theorem zq76_ {P : Prop} (h : P := by exact (Kd.C_below HR0_7.out HB.out)) : P := h

/-! ### lombardlaw14_StageWorse: function 6 -/
mutual
def lombardlaw14_StageWorse.j0 : Nat → Int → Int → List (S25) → List (S25) → Bool → Int → Int → Int → Int → Bool → Option (Bool)
  | 0, _, _, _, _, _, _, _, _, _, _ => none
  | k + 1, x5, x6, x7, x8, x40, x192000, x192001, x193000, x193001, x193002 => if x40 = true then (some true) else (if x193002 = true then (lombardlaw14_StageWorse.j1 k x7 x8 x192000 x192001 x193000 x193001 x193002 (wrap64 (x193000 + (wrap64 (x5)))) (wrap64 (x193001 + (wrap64 (x6)))) true) else (lombardlaw14_StageWorse.j1 k x7 x8 x192000 x192001 x193000 x193001 x193002 (wrap64 (x193000 + (wrap64 (x5)))) (wrap64 (x193001 + (wrap64 (x6)))) (decide (x5 > 200))))
def lombardlaw14_StageWorse.j1 : Nat → List (S25) → List (S25) → Int → Int → Int → Int → Bool → Int → Int → Bool → Option (Bool)
  | 0, _, _, _, _, _, _, _, _, _, _ => none
  | k + 1, x7, x8, x192000, x192001, x193000, x193001, x193002, x194000, x194001, x194002 => (stage_Next.f k x192000 x192001 x193000 x193001 x193002).bind fun bt194 => ((stage_Next.f k x192000 x192001 x194000 x194001 x194002).bind fun bt198 => (if bt194.2.2 = 0 then (if bt198.2.2 = 0 then (lombardlaw14_StageWorse.j2 k x7 x8 (decide (bt198.1 < bt194.1))) else (lombardlaw14_StageWorse.j2 k x7 x8 false)) else (lombardlaw14_StageWorse.j2 k x7 x8 false)))
def lombardlaw14_StageWorse.j2 : Nat → List (S25) → List (S25) → Bool → Option (Bool)
  | 0, _, _, _ => none
  | k + 1, x7, x8, x85 => if x85 = true then (some false) else ((some (([] : List (S25)) : List (S25))).bind fun y203 => (if y203.length + x7.length < 5864062014805 then ((some (y203 ++ x7 : List (S25))).bind fun y206 => ((some (([(⟨0, 0, true⟩ : S25)] : List (S25)) : List (S25))).bind fun y209 => (if y206.length + y209.length < 5864062014805 then ((some (y206 ++ y209 : List (S25))).bind fun y212 => (if y212.length + x8.length < 5864062014805 then ((lombardlaw14_to.f k (y212 ++ x8)).bind fun t218 => ((stage_Run.f k t218).bind fun bt221 => ((some (([(⟨0, 0, true⟩ : S25)] : List (S25)) : List (S25))).bind fun y225 => (if y225.length + x8.length < 5864062014805 then ((lombardlaw14_to.f k (y225 ++ x8)).bind fun t231 => ((stage_Run.f k t231).bind fun bt234 => (if bt221.2 = 0 then (if bt234.2 = 0 then (if 0 ≤ (x7.length : Int) then (if (x7.length : Int) ≤ (bt221.1.length : Int) then ((lombardref06_Ints.f k (bt221.1.drop ((x7.length : Int) : Int).toNat) bt234.1).bind fun t242 => (some t242)) else (none)) else (none)) else (some false)) else (some true)))) else (none))))) else (none))) else (none)))) else (none)))
end
def lombardlaw14_StageWorse.f (k : Nat) (a0_0 : Int) (a0_1 : Int) (a0_2 : Int) (a0_3 : Int) (a0_4 : Bool) (a0_5 : Int) (a0_6 : Int) (l0_7 : List (S25)) (l0_8 : List (S25)) : Option (Bool) := (lombardlaw14_alive.f k).bind fun t190 => (if t190 = true then (if (l0_7.length : Int) > 100 then (lombardlaw14_StageWorse.j0 k a0_5 a0_6 l0_7 l0_8 true a0_0 a0_1 a0_2 a0_3 a0_4) else (lombardlaw14_StageWorse.j0 k a0_5 a0_6 l0_7 l0_8 (decide ((l0_8.length : Int) > 100)) a0_0 a0_1 a0_2 a0_3 a0_4)) else (some false))
theorem lombardlaw14_StageWorse.mono_l : ∀ k, (∀ y0 y1 y2 y3 y4 y5 y6 y7 y8 y9, LeO (lombardlaw14_StageWorse.j0 k y0 y1 y2 y3 y4 y5 y6 y7 y8 y9) (lombardlaw14_StageWorse.j0 (k + 1) y0 y1 y2 y3 y4 y5 y6 y7 y8 y9)) ∧ (∀ y0 y1 y2 y3 y4 y5 y6 y7 y8 y9, LeO (lombardlaw14_StageWorse.j1 k y0 y1 y2 y3 y4 y5 y6 y7 y8 y9) (lombardlaw14_StageWorse.j1 (k + 1) y0 y1 y2 y3 y4 y5 y6 y7 y8 y9)) ∧ (∀ y0 y1 y2, LeO (lombardlaw14_StageWorse.j2 k y0 y1 y2) (lombardlaw14_StageWorse.j2 (k + 1) y0 y1 y2))
  | 0 => ⟨fun _ _ _ _ _ _ _ _ _ _ r h => by simp [lombardlaw14_StageWorse.j0] at h, fun _ _ _ _ _ _ _ _ _ _ r h => by simp [lombardlaw14_StageWorse.j1] at h, fun _ _ _ r h => by simp [lombardlaw14_StageWorse.j2] at h⟩
  | k + 1 => by
    obtain ⟨ih0, ih1, ih2⟩ := lombardlaw14_StageWorse.mono_l k
    refine ⟨?_, ?_, ?_⟩
    · intro y0 y1 y2 y3 y4 y5 y6 y7 y8 y9
      unfold lombardlaw14_StageWorse.j0
      repeat' first
      | (with_reducible exact ih0 _ _ _ _ _ _ _ _ _ _)
      | (with_reducible exact ih1 _ _ _ _ _ _ _ _ _ _)
      | (with_reducible exact ih2 _ _ _)
      | (with_reducible exact lombardlaw14_alive.mono _)
      | (with_reducible exact lombardlaw14_to.mono _ _)
      | (with_reducible exact lombardref06_Ints.mono _ _ _)
      | (with_reducible exact stage_Next.mono _ _ _ _ _ _)
      | (with_reducible exact stage_Run.mono _ _)
      | (with_reducible exact LeO.refl _)
      | (with_reducible exact LeO.none _)
      | (with_reducible refine LeO.ite ?_ ?_)
      | (with_reducible refine LeO.bind ?_ (fun _ => ?_))
      | exact ih0 _ _ _ _ _ _ _ _ _ _
      | exact ih1 _ _ _ _ _ _ _ _ _ _
      | exact ih2 _ _ _
      | exact lombardlaw14_alive.mono _
      | exact lombardlaw14_to.mono _ _
      | exact lombardref06_Ints.mono _ _ _
      | exact stage_Next.mono _ _ _ _ _ _
      | exact stage_Run.mono _ _
      | exact LeO.none _
      | refine LeO.ite ?_ ?_
      | refine LeO.bind ?_ (fun _ => ?_)
    · intro y0 y1 y2 y3 y4 y5 y6 y7 y8 y9
      unfold lombardlaw14_StageWorse.j1
      repeat' first
      | (with_reducible exact ih0 _ _ _ _ _ _ _ _ _ _)
      | (with_reducible exact ih1 _ _ _ _ _ _ _ _ _ _)
      | (with_reducible exact ih2 _ _ _)
      | (with_reducible exact lombardlaw14_alive.mono _)
      | (with_reducible exact lombardlaw14_to.mono _ _)
      | (with_reducible exact lombardref06_Ints.mono _ _ _)
      | (with_reducible exact stage_Next.mono _ _ _ _ _ _)
      | (with_reducible exact stage_Run.mono _ _)
      | (with_reducible exact LeO.refl _)
      | (with_reducible exact LeO.none _)
      | (with_reducible refine LeO.ite ?_ ?_)
      | (with_reducible refine LeO.bind ?_ (fun _ => ?_))
      | exact ih0 _ _ _ _ _ _ _ _ _ _
      | exact ih1 _ _ _ _ _ _ _ _ _ _
      | exact ih2 _ _ _
      | exact lombardlaw14_alive.mono _
      | exact lombardlaw14_to.mono _ _
      | exact lombardref06_Ints.mono _ _ _
      | exact stage_Next.mono _ _ _ _ _ _
      | exact stage_Run.mono _ _
      | exact LeO.none _
      | refine LeO.ite ?_ ?_
      | refine LeO.bind ?_ (fun _ => ?_)
    · intro y0 y1 y2
      unfold lombardlaw14_StageWorse.j2
      repeat' first
      | (with_reducible exact ih0 _ _ _ _ _ _ _ _ _ _)
      | (with_reducible exact ih1 _ _ _ _ _ _ _ _ _ _)
      | (with_reducible exact ih2 _ _ _)
      | (with_reducible exact lombardlaw14_alive.mono _)
      | (with_reducible exact lombardlaw14_to.mono _ _)
      | (with_reducible exact lombardref06_Ints.mono _ _ _)
      | (with_reducible exact stage_Next.mono _ _ _ _ _ _)
      | (with_reducible exact stage_Run.mono _ _)
      | (with_reducible exact LeO.refl _)
      | (with_reducible exact LeO.none _)
      | (with_reducible refine LeO.ite ?_ ?_)
      | (with_reducible refine LeO.bind ?_ (fun _ => ?_))
      | exact ih0 _ _ _ _ _ _ _ _ _ _
      | exact ih1 _ _ _ _ _ _ _ _ _ _
      | exact ih2 _ _ _
      | exact lombardlaw14_alive.mono _
      | exact lombardlaw14_to.mono _ _
      | exact lombardref06_Ints.mono _ _ _
      | exact stage_Next.mono _ _ _ _ _ _
      | exact stage_Run.mono _ _
      | exact LeO.none _
      | refine LeO.ite ?_ ?_
      | refine LeO.bind ?_ (fun _ => ?_)
theorem lombardlaw14_StageWorse.mono : ∀ a0 a1 a2 a3 a4 a5 a6 a7 a8 k, LeO (lombardlaw14_StageWorse.f k a0 a1 a2 a3 a4 a5 a6 a7 a8) (lombardlaw14_StageWorse.f (k + 1) a0 a1 a2 a3 a4 a5 a6 a7 a8) := by
  intro a0 a1 a2 a3 a4 a5 a6 a7 a8 k
  obtain ⟨ih0, ih1, ih2⟩ := lombardlaw14_StageWorse.mono_l k
  unfold lombardlaw14_StageWorse.f
  repeat' first
      | (with_reducible exact ih0 _ _ _ _ _ _ _ _ _ _)
      | (with_reducible exact ih1 _ _ _ _ _ _ _ _ _ _)
      | (with_reducible exact ih2 _ _ _)
      | (with_reducible exact lombardlaw14_alive.mono _)
      | (with_reducible exact lombardlaw14_to.mono _ _)
      | (with_reducible exact lombardref06_Ints.mono _ _ _)
      | (with_reducible exact stage_Next.mono _ _ _ _ _ _)
      | (with_reducible exact stage_Run.mono _ _)
      | (with_reducible exact LeO.refl _)
      | (with_reducible exact LeO.none _)
      | (with_reducible refine LeO.ite ?_ ?_)
      | (with_reducible refine LeO.bind ?_ (fun _ => ?_))
      | exact ih0 _ _ _ _ _ _ _ _ _ _
      | exact ih1 _ _ _ _ _ _ _ _ _ _
      | exact ih2 _ _ _
      | exact lombardlaw14_alive.mono _
      | exact lombardlaw14_to.mono _ _
      | exact lombardref06_Ints.mono _ _ _
      | exact stage_Next.mono _ _ _ _ _ _
      | exact stage_Run.mono _ _
      | exact LeO.none _
      | refine LeO.ite ?_ ?_
      | refine LeO.bind ?_ (fun _ => ?_)
def lombardlaw14_StageWorse.T3 : Bool × List (List Nat × List Nat) := (true, [([], []), ([0], [0]), ([], []), ([2], [2]), ([], []), ([4], [4]), ([], []), ([6], [6]), ([], []), ([8], [8]), ([], []), ([10], [10]), ([], []), ([], []), ([12, 1, 0, 1, 12, 13], [1, 12]), ([13, 3, 14, 0, 1, 2, 3, 12, 13, 14], [3, 13]), ([5, 15, 0, 1, 2, 3, 4, 5, 12, 13, 14, 15], [5]), ([7, 16, 0, 1, 2, 3, 4, 5, 6, 7, 12, 13, 14, 15, 16], [7]), ([9, 17, 0, 1, 2, 3, 4, 5, 6, 7, 8, 9, 12, 13, 14, 15, 16, 17], [9]), ([11, 18, 0, 1, 2, 3, 4, 5, 6, 7, 8, 9, 10, 11, 12, 13, 14, 15, 16, 17, 18], [11])])
def lombardlaw14_StageWorse.B3 : List Nat := [0, 1, 0, 4, 0, 16, 0, 64, 0, 256, 0, 1024, 0, 0, 12291, 28687, 61503, 127231, 259071, 524287]
theorem lombardlaw14_StageWorse.tab3 : rtab .any (opsOf Try.f6 3) = lombardlaw14_StageWorse.T3 := by kernel_rfl
theorem lombardlaw14_StageWorse.bits3 : waitsOk lombardlaw14_StageWorse.T3.2 lombardlaw14_StageWorse.B3 = true := by kernel_rfl
def lombardlaw14_StageWorse.T7 : Bool × List (List Nat × List Nat) := (true, [([], []), ([0], [0]), ([], []), ([2], [2]), ([1, 3], [1, 3]), ([], []), ([5], [5]), ([], []), ([7], [7]), ([6, 8], [6, 8]), ([], []), ([10], [10]), ([11], [11]), ([12], [12]), ([13, 12], [12, 13]), ([12, 14], [12, 14]), ([0, 1, 2, 3, 4], []), ([16, 4, 12, 0, 1, 2, 3, 4], [4, 16]), ([0, 1, 2, 3, 4, 5, 6, 7, 8, 9, 16, 17], []), ([18, 9, 17, 0, 1, 2, 3, 4, 5, 6, 7, 8, 9, 16, 17], [9, 18]), ([0, 1, 2, 3, 4, 5, 6, 7, 8, 9, 10, 11, 12, 13, 14, 15, 16, 17, 18, 19], []), ([20, 15, 19, 0, 1, 2, 3, 4, 5, 6, 7, 8, 9, 10, 11, 12, 13, 14, 15, 16, 17, 18, 19], [15, 20])])
def lombardlaw14_StageWorse.B7 : List Nat := [0, 1, 0, 4, 15, 0, 32, 0, 128, 480, 0, 1024, 3072, 7168, 15360, 31744, 31, 72735, 204799, 466943, 1048575, 2097151]
theorem lombardlaw14_StageWorse.tab7 : rtab .any (opsOf Try.f6 7) = lombardlaw14_StageWorse.T7 := by kernel_rfl
theorem lombardlaw14_StageWorse.bits7 : waitsOk lombardlaw14_StageWorse.T7.2 lombardlaw14_StageWorse.B7 = true := by kernel_rfl
def lombardlaw14_StageWorse.T13 : Bool × List (List Nat × List Nat) := (true, [([], []), ([], []), ([0, 1], [0, 1]), ([], []), ([3], [3]), ([2, 4, 2], [2, 4]), ([], []), ([5, 6, 5], [5, 6]), ([7, 7], [7]), ([8, 8], [8]), ([9], [9]), ([10], [10]), ([10], [10]), ([11, 9, 0, 1, 2, 3, 4, 5, 6, 7, 8, 9, 10, 11], [11]), ([12, 13, 0, 1, 2, 3, 4, 5, 6, 7, 8, 9, 10, 11, 12, 13], [12])])
def lombardlaw14_StageWorse.B13 : List Nat := [0, 0, 3, 0, 8, 31, 0, 127, 255, 511, 1023, 2047, 2047, 4095, 16383]
theorem lombardlaw14_StageWorse.tab13 : rtab .any (opsOf Try.f6 13) = lombardlaw14_StageWorse.T13 := by kernel_rfl
theorem lombardlaw14_StageWorse.bits13 : waitsOk lombardlaw14_StageWorse.T13.2 lombardlaw14_StageWorse.B13 = true := by kernel_rfl
set_option maxRecDepth 100000 in
theorem arm0_6 {P : Prop} (h : P := by
  refine hK.out _ _ ⟨(blk_cell BK202.out 0).trans rfl, (blk_cell BK202.out 1).trans rfl, (blk_cell BK202.out 2).trans rfl⟩ (fun hHeld => ?_)
  clear hK K
  refine norm_ (a' := ?_) ?_ ?_
  rotate_left
  · show Act.put _ (some 97) _ = _
    simp only [Act.put, List.setIfInBounds_toArray, List.set_cons_zero, List.set_cons_succ, i64_w, i32_w]
    rfl
  refine pure_ (i := 10) (N := some 87) (v := ?_) (a' := ?_) #[true, true, true, true, true, true, true, true, true, true, true, false, false, false, false] rfl rfl (any_of HT_.out (zq26_)) (fun _ _ _ h => h) (Or.inl ⟨by rfl, ?_⟩) ?_ ?_
  rotate_left
  · intro w'
    go_simp
    with_reducible rfl
  rotate_left
  · simp only [Act.put, List.setIfInBounds_toArray, List.set_cons_zero, List.set_cons_succ, i64_w, i32_w]
    rfl
  refine pure_ (i := 11) (N := some 98) (v := ?_) (a' := ?_) #[true, true, true, true, true, true, true, true, true, true, true, true, false, false, false] rfl rfl (any_of HT_.out (zq26_)) (fun _ _ _ h => h) (Or.inl ⟨by rfl, ?_⟩) ?_ ?_
  rotate_left
  · intro w'
    go_simp
    with_reducible rfl
  rotate_left
  · simp only [Act.put, List.setIfInBounds_toArray, List.set_cons_zero, List.set_cons_succ, i64_w, i32_w]
    rfl
  refine pure_ (i := 12) (N := some 99) (v := ?_) (a' := ?_) #[true, true, true, true, true, true, true, true, true, true, true, true, true, false, false] rfl rfl (any_of HT_.out (zq26_)) (fun _ _ _ h => h) (Or.inl ⟨by rfl, ?_⟩) ?_ ?_
  rotate_left
  · intro w'
    go_simp
    with_reducible rfl
  rotate_left
  · simp only [Act.put, List.setIfInBounds_toArray, List.set_cons_zero, List.set_cons_succ, i64_w, i32_w]
    rfl
  refine pure_ (i := 13) (N := some 15) (v := ?_) (a' := ?_) #[true, true, true, true, true, true, true, true, true, true, true, true, true, true, false] rfl rfl (any_of HT_.out (zq26_)) (fun _ _ _ h => h) (Or.inl ⟨by rfl, ?_⟩) ?_ ?_
  rotate_left
  · intro w'
    go_simp
    with_reducible rfl
  rotate_left
  · simp only [Act.put, List.setIfInBounds_toArray, List.set_cons_zero, List.set_cons_succ, i64_w, i32_w]
    rfl
  refine pure_ (i := 14) (N := some 16) (v := ?_) (a' := ?_) #[true, true, true, true, true, true, true, true, true, true, true, true, true, true, true] rfl rfl (any_of HT_.out (zq26_)) (fun _ _ _ h => h) (Or.inl ⟨by rfl, ?_⟩) ?_ ?_
  rotate_left
  · intro w'
    go_simp
    with_reducible rfl
  rotate_left
  · simp only [Act.put, List.setIfInBounds_toArray, List.set_cons_zero, List.set_cons_succ, i64_w, i32_w]
    rfl
  refine done_ (done_of HT_.out (zq26_)) ?_
  have hcz116_0 : w115.cell? ⟨gb202, 0, none⟩ = some (.int .i64 0) := (blk_cell BK202.out 0).trans rfl
  have hcz116_1 : w115.cell? ⟨gb202, 1, none⟩ = some (.int .i64 0) := (blk_cell BK202.out 1).trans rfl
  have hcz116_2 : w115.cell? ⟨gb202, 2, none⟩ = some (.bool true) := (blk_cell BK202.out 2).trans rfl
  have hfz116_0 := blk_frozen BK202.out 0
  have hfz116_1 := blk_frozen BK202.out 1
  have hfz116_2 := blk_frozen BK202.out 2
  try go_wp2_with (first | ((with_reducible refine gate_dst (N := 102) rfl ?_); (try (refine gate_guard (by rfl) ?_; dsimp only)); refine Kd.R_lit k25 _ 25 ?hg (N := 102) ?hd (xs := ([(⟨0, 0, true⟩ : S25)] : List (S25))) (inner := [.int .i64 0, .int .i64 0, .bool true]) (ok := fun _ => True) (okp := fun _ => True) ?hr ?hp (fun _ hk => hk) trivial (Below.refl _ _) (Nat.le_refl _) (by simp) ?_; (case hd => rfl); (case hg => rfl); (case hr => first | (go_simp; done) | (go_simp; rfl)); (case hp => exact zq21_); intro v226 w117 ho118 hb hg_ hnew_; clear hg_ hnew_; (first | rw [← Ny225.out] at ho118 | (simp only [Int.reduceToNat] at ho118; rw [← Ny225.out] at ho118)); have n0_ := Aside0.mk (Kd.R_elder' (zq11_) (Kd.R_base ho118) hb); have n1_ := Aside0.mk (Kd.R_elder' (zq17_) (Kd.R_base ho118) hb); have n2_ := Aside0.mk (Kd.R_below (zq19_) hb); have n3_ := Aside0.mk (Kd.R_below (zq25_) hb); have n4_ := Aside0.mk (Kd.R_lower (Kd.R_newB (Kd.R_newB (Kd.R_newB (Kd.R_new' (Kd.R_new' ho118 (Kd.R_lt (zq11_))) (Kd.R_lt (zq17_))) (g := gb192) (o := .cells #[.int .i64 a0_2, .int .i64 a0_3, .bool a0_4] 25 (0, 0)) (zq2_)) (g := gb193) (o := .cells #[.int .i64 x194000_17, .int .i64 x194001_17, .bool x194002_17] 25 (0, 0)) (zq3_)) (g := gb202) (o := .cells #[.int .i64 0, .int .i64 0, .bool true] 25 (0, 0)) (zq5_)) zq73_); have n5_ := Aside0.mk (blk_below (g := gb189) (o := .cells #[.int .i64 a0_0, .int .i64 a0_1, .int .i64 a0_2, .int .i64 a0_3, .bool a0_4, .int .u8 a0_5, .int .u8 a0_6, .slice A0_7 l0_7.length c0_7, .slice A0_8 l0_8.length c0_8] 47 (0, 0)) (zq4_) hb); have n6_ := Aside0.mk (blk_below (g := gb191) (o := .cells #[.int .i64 a0_0, .int .i64 a0_1] 23 (0, 0)) (zq6_) hb); have n7_ := Aside0.mk (blk_below (g := gb192) (o := .cells #[.int .i64 a0_2, .int .i64 a0_3, .bool a0_4] 25 (0, 0)) (zq2_) hb); have n8_ := Aside0.mk (blk_below (g := gb193) (o := .cells #[.int .i64 x194000_17, .int .i64 x194001_17, .bool x194002_17] 25 (0, 0)) (zq3_) hb); have n9_ := Aside0.mk (blk_below (g := gb197) (o := .cells #[.int .i64 t194, .int .i64 t195] 27 (0, 0)) (zq7_) hb); have n10_ := Aside0.mk (blk_below (g := gb201) (o := .cells #[.int .i64 t198, .int .i64 t199] 27 (0, 0)) (zq8_) hb); have n11_ := Aside0.mk (blk_below (g := gb202) (o := .cells #[.int .i64 0, .int .i64 0, .bool true] 25 (0, 0)) (zq5_) hb); have n12_ := Aside0.mk (below_step (zq0_) hb); clear HO211; clear HO217; clear HO220; clear HO224; clear BK189; clear BK191; clear BK192; clear BK193; clear BK197; clear BK201; clear BK202; clear HB; have HO211 := n0_; have HO217 := n1_; have HO220 := n2_; have HO224 := n3_; have HO227 := n4_; have BK189 := n5_; have BK191 := n6_; have BK192 := n7_; have BK193 := n8_; have BK197 := n9_; have BK201 := n10_; have BK202 := n11_; have HB := n12_; clear n0_ n1_ n2_ n3_ n4_ n5_ n6_ n7_ n8_ n9_ n10_ n11_ n12_; clear hb ho118) | ((with_reducible refine gate_builtin (b := .append) (xs := #[.tmp 102, .tmp 103]) rfl ?_); (try (refine gate_guard (by rfl) ?_; dsimp only)); at_builtin; refine Kd.R_append_rows k25 (w0 := w) w.heap.size rfl (.tmp 102) (.tmp 103) 37 25 (.agg #[(.int .i64 0), (.int .i64 0), (.bool false)]) 24 rfl Try.underlying37 info25 rfl (zq43_) (by omega) v226 y225 l0_8 _ _ _ (fun k_ => some k_ ≠ (.slice Ao110 y209.length co110 : Value).ownBlock ∧ some k_ ≠ (.slice Ao112 y215.length co112 : Value).ownBlock ∧ k_ ≠ gb192 ∧ k_ ≠ gb193 ∧ k_ ≠ gb202) (fun _ => False) rfl rfl ?aO ?aR (fun _ _ h => h) (fun _ h => h.elim) ?aF ?aB ?aS ?aL ?_; (case aR => repeat (first | exact (Kd.C_below HR0_8.out HB.out) | (with_reducible refine Kd.C_alloc ?_ _) | (with_reducible refine Kd.C_drewN ?_ _) | (with_reducible refine Kd.C_drew ?_))); (case aB => exact (zq0_)); (case aF => exact zq9_); (case aO => exact (zq60_)); (case aS => exact zq73_); (case aL => have := LMc85.out; omega); intro v229 w119 ho hb hg hat; rw [← Ny228.out] at ho; have n0_ := Aside0.mk (blk_grown (g := gb189) (o := .cells #[.int .i64 a0_0, .int .i64 a0_1, .int .i64 a0_2, .int .i64 a0_3, .bool a0_4, .int .u8 a0_5, .int .u8 a0_6, .slice A0_7 l0_7.length c0_7, .slice A0_8 l0_8.length c0_8] 47 (0, 0)) (zq4_) hg (Kd.R_ne HO227.out BK189.out (zq43_))); have n1_ := Aside0.mk (blk_grown (g := gb191) (o := .cells #[.int .i64 a0_0, .int .i64 a0_1] 23 (0, 0)) (zq6_) hg (Kd.R_ne HO227.out BK191.out (zq43_))); have n2_ := Aside0.mk (blk_grown (g := gb192) (o := .cells #[.int .i64 a0_2, .int .i64 a0_3, .bool a0_4] 25 (0, 0)) (zq2_) hg (Kd.R_away HO227.out (fun _ hk => hk.1.1.2))); have n3_ := Aside0.mk (blk_grown (g := gb193) (o := .cells #[.int .i64 x194000_17, .int .i64 x194001_17, .bool x194002_17] 25 (0, 0)) (zq3_) hg (Kd.R_away HO227.out (fun _ hk => hk.1.2))); have n4_ := Aside0.mk (blk_grown (g := gb197) (o := .cells #[.int .i64 t194, .int .i64 t195] 27 (0, 0)) (zq7_) hg (Kd.R_ne HO227.out BK197.out (zq43_))); have n5_ := Aside0.mk (blk_grown (g := gb201) (o := .cells #[.int .i64 t198, .int .i64 t199] 27 (0, 0)) (zq8_) hg (Kd.R_ne HO227.out BK201.out (zq43_))); have n6_ := Aside0.mk (blk_grown (g := gb202) (o := .cells #[.int .i64 0, .int .i64 0, .bool true] 25 (0, 0)) (zq5_) hg (Kd.R_away HO227.out (fun _ hk => hk.2))); have n7_ := Aside0.mk (Kd.R_after (ok := (fun k_ => some k_ ≠ (.slice Ao112 y215.length co112 : Value).ownBlock ∧ k_ ≠ gb192 ∧ k_ ≠ gb193 ∧ k_ ≠ gb202)) (zq61_) hg hat); have n8_ := Aside0.mk (Kd.R_after (ok := (fun k_ => some k_ ≠ (.slice Ao110 y209.length co110 : Value).ownBlock ∧ k_ ≠ gb192 ∧ k_ ≠ gb193 ∧ k_ ≠ gb202)) (zq17_) hg hat); have n9_ := Aside0.mk (Kd.R_over' (zq19_) (Kd.R_typed (zq54_)) (zq43_) hg); have n10_ := Aside0.mk (Kd.R_over' (zq25_) (Kd.R_typed (zq54_)) (zq43_) hg); have n11_ := Aside0.mk (hb); have n12_ := Aside0.mk (ho); clear BK189; clear BK191; clear BK192; clear BK193; clear BK197; clear BK201; clear BK202; clear HO211; clear HO217; clear HO220; clear HO224; clear HB; clear HO227; have BK189 := n0_; have BK191 := n1_; have BK192 := n2_; have BK193 := n3_; have BK197 := n4_; have BK201 := n5_; have BK202 := n6_; have HO211 := n7_; have HO217 := n8_; have HO220 := n9_; have HO224 := n10_; have HB := n11_; have HO230 := n12_; clear n0_ n1_ n2_ n3_ n4_ n5_ n6_ n7_ n8_ n9_ n10_ n11_ n12_; clear ho hb hg hat; obtain ⟨Ao120, co120, eo120⟩ := Kd.R_slice HO230.out; subst eo120) | ((with_reducible refine gate_callee (f := 14) rfl ?_); refine goesL_ (some 105) rfl rfl Try.func14 (zq26_) rfl #[.slice Ao120 y228.length co120] rfl (zq16_) ?_; (with_reducible refine (lombardlaw14_to.calls kj39 _ _ y228 t231 _ ?side1 ?side2 A86.out).mono ?_); (case side1 => repeat (first | exact (Kd.R_reads' HO230.out).2.2 | (with_reducible refine Kd.C_alloc ?_ _) | (with_reducible refine Kd.C_drewN ?_ _) | (with_reducible refine Kd.C_drew ?_))); (case side2 => exact (Kd.R_reads' HO230.out).2.1); rintro e w121 ⟨v232, rfl, ho0, hb⟩; refine ⟨_, rfl, ?_⟩; have n0_ := Aside0.mk (Kd.R_below (zq11_) hb); have n1_ := Aside0.mk (Kd.R_below (zq17_) hb); have n2_ := Aside0.mk (Kd.R_elder' (zq19_) (Kd.R_base ho0) hb); have n3_ := Aside0.mk (Kd.R_below (zq25_) hb); have n4_ := Aside0.mk (Kd.R_below (zq53_) hb); have n5_ := Aside0.mk (Kd.R_lower (Kd.R_new' ho0 (Kd.R_lt (zq19_))) zq73_); have n6_ := Aside0.mk (blk_below (g := gb189) (o := .cells #[.int .i64 a0_0, .int .i64 a0_1, .int .i64 a0_2, .int .i64 a0_3, .bool a0_4, .int .u8 a0_5, .int .u8 a0_6, .slice A0_7 l0_7.length c0_7, .slice A0_8 l0_8.length c0_8] 47 (0, 0)) (zq4_) hb); have n7_ := Aside0.mk (blk_below (g := gb191) (o := .cells #[.int .i64 a0_0, .int .i64 a0_1] 23 (0, 0)) (zq6_) hb); have n8_ := Aside0.mk (blk_below (g := gb192) (o := .cells #[.int .i64 a0_2, .int .i64 a0_3, .bool a0_4] 25 (0, 0)) (zq2_) hb); have n9_ := Aside0.mk (blk_below (g := gb193) (o := .cells #[.int .i64 x194000_17, .int .i64 x194001_17, .bool x194002_17] 25 (0, 0)) (zq3_) hb); have n10_ := Aside0.mk (blk_below (g := gb197) (o := .cells #[.int .i64 t194, .int .i64 t195] 27 (0, 0)) (zq7_) hb); have n11_ := Aside0.mk (blk_below (g := gb201) (o := .cells #[.int .i64 t198, .int .i64 t199] 27 (0, 0)) (zq8_) hb); have n12_ := Aside0.mk (blk_below (g := gb202) (o := .cells #[.int .i64 0, .int .i64 0, .bool true] 25 (0, 0)) (zq5_) hb); have n13_ := Aside0.mk (below_step (zq0_) hb); clear HO211; clear HO217; clear HO220; clear HO224; clear HO230; clear BK189; clear BK191; clear BK192; clear BK193; clear BK197; clear BK201; clear BK202; clear HB; have HO211 := n0_; have HO217 := n1_; have HO220 := n2_; have HO224 := n3_; have HO230 := n4_; have HO233 := n5_; have BK189 := n6_; have BK191 := n7_; have BK192 := n8_; have BK193 := n9_; have BK197 := n10_; have BK201 := n11_; have BK202 := n12_; have HB := n13_; clear n0_ n1_ n2_ n3_ n4_ n5_ n6_ n7_ n8_ n9_ n10_ n11_ n12_ n13_; (try clear hb); (try clear hb2); (try clear hk); (try clear hi); (try clear ho0); obtain ⟨Ao122, co122, eo122⟩ := Kd.R_slice HO233.out; subst eo122) | ((with_reducible refine gate_callee (f := 13) rfl ?_); refine goesL_ (some 106) rfl rfl Try.func13 (zq26_) rfl #[.slice Ao122 t231.length co122] rfl (zq16_) ?_; (with_reducible refine (stage_Run.calls kj39 _ _ t231 t234 t235 _ ?side1 ?side2 A87.out).mono ?_); (case side1 => repeat (first | exact (Kd.R_reads' HO233.out).2.2 | (with_reducible refine Kd.C_alloc ?_ _) | (with_reducible refine Kd.C_drewN ?_ _) | (with_reducible refine Kd.C_drew ?_))); (case side2 => exact (Kd.R_reads' HO233.out).2.1); rintro e w123 ⟨v236, rfl, ho0, hb⟩; refine ⟨_, rfl, ?_⟩; have n0_ := Aside0.mk (Kd.R_below (zq11_) hb); have n1_ := Aside0.mk (Kd.R_below (zq17_) hb); have n2_ := Aside0.mk (Kd.R_below (zq19_) hb); have n3_ := Aside0.mk (Kd.R_elder' (zq25_) (Kd.R_base ho0) hb); have n4_ := Aside0.mk (Kd.R_below (zq53_) hb); have n5_ := Aside0.mk (Kd.R_below (zq74_) hb); have n6_ := Aside0.mk (Kd.R_lower (Kd.R_new' ho0 (Kd.R_lt (zq25_))) zq73_); have n7_ := Aside0.mk (blk_below (g := gb189) (o := .cells #[.int .i64 a0_0, .int .i64 a0_1, .int .i64 a0_2, .int .i64 a0_3, .bool a0_4, .int .u8 a0_5, .int .u8 a0_6, .slice A0_7 l0_7.length c0_7, .slice A0_8 l0_8.length c0_8] 47 (0, 0)) (zq4_) hb); have n8_ := Aside0.mk (blk_below (g := gb191) (o := .cells #[.int .i64 a0_0, .int .i64 a0_1] 23 (0, 0)) (zq6_) hb); have n9_ := Aside0.mk (blk_below (g := gb192) (o := .cells #[.int .i64 a0_2, .int .i64 a0_3, .bool a0_4] 25 (0, 0)) (zq2_) hb); have n10_ := Aside0.mk (blk_below (g := gb193) (o := .cells #[.int .i64 x194000_17, .int .i64 x194001_17, .bool x194002_17] 25 (0, 0)) (zq3_) hb); have n11_ := Aside0.mk (blk_below (g := gb197) (o := .cells #[.int .i64 t194, .int .i64 t195] 27 (0, 0)) (zq7_) hb); have n12_ := Aside0.mk (blk_below (g := gb201) (o := .cells #[.int .i64 t198, .int .i64 t199] 27 (0, 0)) (zq8_) hb); have n13_ := Aside0.mk (blk_below (g := gb202) (o := .cells #[.int .i64 0, .int .i64 0, .bool true] 25 (0, 0)) (zq5_) hb); have n14_ := Aside0.mk (below_step (zq0_) hb); clear HO211; clear HO217; clear HO220; clear HO224; clear HO230; clear HO233; clear BK189; clear BK191; clear BK192; clear BK193; clear BK197; clear BK201; clear BK202; clear HB; have HO211 := n0_; have HO217 := n1_; have HO220 := n2_; have HO224 := n3_; have HO230 := n4_; have HO233 := n5_; have HO237 := n6_; have BK189 := n7_; have BK191 := n8_; have BK192 := n9_; have BK193 := n10_; have BK197 := n11_; have BK201 := n12_; have BK202 := n13_; have HB := n14_; clear n0_ n1_ n2_ n3_ n4_ n5_ n6_ n7_ n8_ n9_ n10_ n11_ n12_ n13_ n14_; (try clear hb); (try clear hb2); (try clear hk); (try clear hi); (try clear ho0); obtain ⟨Ao125, co125, eo125⟩ := Kd.R_slice HO224.out; subst eo125; have q124 : ((l0_7.length : Int) : Int) ≤ ((t221.length : Int) : Int) := of_decide_eq_true (by first | (with_reducible assumption) | assumption); obtain ⟨i0124, hi0124, _, hsz124, _⟩ := info_parts info3; have hroom124 : t221.length ≤ co125 := (Kd.R_reads' HO224.out).2.1; have hC124 : Kd.C (Kd.int .i64) _ Ao125 t221.length t221 := (Kd.R_reads' HO224.out).2.2; have q0124 : (0 : Int) ≤ ((l0_7.length : Int) : Int) := of_decide_eq_true (by first | (with_reducible assumption) | assumption); have hcut124 := cut_from (P := Try.prog) 38 3 .i64 Try.underlying38 hi0124 1 hsz124 Ao125 t221.length co125 (l0_7.length : Int) q0124 q124; have hr124 := Kd.C_drop (m := ((l0_7.length : Int) : Int).toNat) (c := co125) hC124 (by omega) hroom124; obtain ⟨A124, hA124⟩ : ∃ A1, A1 = (if co125 = ((l0_7.length : Int) : Int).toNat then Ao125 else (Ao125 : Option Addr).map (·.add (((l0_7.length : Int) : Int).toNat * 1))) := ⟨_, rfl⟩; obtain ⟨c124, hc124⟩ : ∃ c1, c1 = co125 - ((l0_7.length : Int) : Int).toNat := ⟨_, rfl⟩; have hy124 : y238.length = t221.length - ((l0_7.length : Int) : Int).toNat := (by rw [Ny238.out, List.length_drop] <;> omega); rw [show (t221).drop ((l0_7.length : Int) : Int).toNat = y238 from Ny238.out.symm] at hr124; replace hr124 : Kd.C (Kd.int .i64) _ A124 y238.length y238 := (by rw [hA124]; exact hr124); rw [← hy124, ← hA124, ← hc124] at hcut124; have HR241 := Aside0.mk hr124; have HC241 := Aside0.mk (show y238.length ≤ c124 from by rw [hy124, hc124]; exact Nat.sub_le_sub_right hroom124 _); clear hr124 hC124 hroom124 hi0124 hsz124 hc124; have KY124 := Aside0.mk hy124; have KA124 := Aside0.mk hA124; clear hy124 hA124; have KL124 := Aside0.mk (show ((l0_7.length : Int) : Int).toNat ≤ t221.length from by omega); replace q124 := eq_true q124; obtain ⟨Ao126, co126, eo126⟩ := Kd.R_slice HO237.out; subst eo126) | (go_at_call 16; (with_reducible refine (lombardref06_Ints.calls kj39 _ _ y238 _ _ t234 t242 _ ?side1 ?side2 ?side3 ?side4 A92.out).mono ?_); (case side1 => repeat (first | exact (by repeat (first | (with_reducible exact HR241.out) | (with_reducible refine Kd.C_alloc ?_ _) | (with_reducible refine Kd.C_drewN ?_ _) | (with_reducible refine Kd.C_drew ?_) | exact HR241.out)) | (with_reducible refine Kd.C_alloc ?_ _) | (with_reducible refine Kd.C_drewN ?_ _) | (with_reducible refine Kd.C_drew ?_))); (case side2 => exact HC241.out); (case side3 => repeat (first | exact (Kd.R_reads' HO237.out).2.2 | (with_reducible refine Kd.C_alloc ?_ _) | (with_reducible refine Kd.C_drewN ?_ _) | (with_reducible refine Kd.C_drew ?_))); (case side4 => exact (Kd.R_reads' HO237.out).2.1); rintro e w' ⟨rfl, ⟨nd, rfl⟩⟩))
  go_ret
  exact ⟨zq56_, zq18_⟩
  ) : P := h
set_option maxRecDepth 100000 in
theorem arm0_5 {P : Prop} (h : P := by
  (try clear hk)
  (try clear hi)
  (try clear ho0)
  obtain ⟨Ao114, co114, eo114⟩ := Kd.R_slice HO220.out
  (first | subst eo114 | (injection eo114 with f1_ f2_ f3_; have f4_ := f1_.symm; have f5_ := f3_.symm; clear f1_ f2_ f3_; subst f4_; subst f5_))
  refine hK.out _ _ ⟨(blk_cell BK202.out 0).trans rfl, (blk_cell BK202.out 1).trans rfl, (blk_cell BK202.out 2).trans rfl⟩ (fun hHeld => ?_)
  clear hK K
  refine norm_ (a' := ?_) ?_ ?_
  rotate_left
  · show Act.put _ (some 96) _ = _
    simp only [Act.put, List.setIfInBounds_toArray, List.set_cons_zero, List.set_cons_succ, i64_w, i32_w]
    rfl
  refine one_ (i := 9) (N := some 97) #[true, true, true, true, true, true, true, true, true, true, false, false, false, false, false] rfl rfl (one_of HT_.out (zq26_)) (zq43_) (fun K hK => ?_)
  refine goes_ Try.func13 (zq26_) rfl #[.slice Ao114 t218.length co114] (by rfl) rfl rfl (zq16_) ?_
  with_reducible refine (stage_Run.calls kj39 _ _ t218 t221 t222 _ ?side1 ?side2 A84.out).mono ?_
  (case side1 => repeat (first | exact (Kd.R_reads' HO220.out).2.2 | (with_reducible refine Kd.C_alloc ?_ _) | (with_reducible refine Kd.C_drewN ?_ _) | (with_reducible refine Kd.C_drew ?_)))
  (case side2 => exact (Kd.R_reads' HO220.out).2.1)
  rintro e w115 ⟨v223, rfl, ho0, hb⟩
  refine ⟨_, rfl, ?_⟩
  have n0_ := Aside0.mk (Kd.R_below (zq11_) hb)
  have n1_ := Aside0.mk (Kd.R_below (zq17_) hb)
  have n2_ := Aside0.mk (Kd.R_below (zq19_) hb)
  have n3_ := Aside0.mk (Kd.R_lower ho0 zq73_)
  have n4_ := Aside0.mk (blk_below (g := gb189) (o := .cells #[.int .i64 a0_0, .int .i64 a0_1, .int .i64 a0_2, .int .i64 a0_3, .bool a0_4, .int .u8 a0_5, .int .u8 a0_6, .slice A0_7 l0_7.length c0_7, .slice A0_8 l0_8.length c0_8] 47 (0, 0)) (zq4_) hb)
  have n5_ := Aside0.mk (blk_below (g := gb191) (o := .cells #[.int .i64 a0_0, .int .i64 a0_1] 23 (0, 0)) (zq6_) hb)
  have n6_ := Aside0.mk (blk_below (g := gb192) (o := .cells #[.int .i64 a0_2, .int .i64 a0_3, .bool a0_4] 25 (0, 0)) (zq2_) hb)
  have n7_ := Aside0.mk (blk_below (g := gb193) (o := .cells #[.int .i64 x194000_17, .int .i64 x194001_17, .bool x194002_17] 25 (0, 0)) (zq3_) hb)
  have n8_ := Aside0.mk (blk_below (g := gb197) (o := .cells #[.int .i64 t194, .int .i64 t195] 27 (0, 0)) (zq7_) hb)
  have n9_ := Aside0.mk (blk_below (g := gb201) (o := .cells #[.int .i64 t198, .int .i64 t199] 27 (0, 0)) (zq8_) hb)
  have n10_ := Aside0.mk (blk_below (g := gb202) (o := .cells #[.int .i64 0, .int .i64 0, .bool true] 25 (0, 0)) (zq5_) hb)
  have n11_ := Aside0.mk (below_step (zq0_) hb)
  clear HO211
  clear HO217
  clear HO220
  clear BK189
  clear BK191
  clear BK192
  clear BK193
  clear BK197
  clear BK201
  clear BK202
  clear HB
  have HO211 := n0_
  have HO217 := n1_
  have HO220 := n2_
  have HO224 := n3_
  have BK189 := n4_
  have BK191 := n5_
  have BK192 := n6_
  have BK193 := n7_
  have BK197 := n8_
  have BK201 := n9_
  have BK202 := n10_
  have HB := n11_
  clear n0_ n1_ n2_ n3_ n4_ n5_ n6_ n7_ n8_ n9_ n10_ n11_
  (try clear hb)
  (try clear hb2)
  (try clear hk)
  (try clear hi)
  (try clear ho0)
  exact arm0_6
  ) : P := h
set_option maxRecDepth 100000 in
theorem arm0_4 {P : Prop} (h : P := by
  have BK193 := n3_
  have BK197 := n4_
  have BK201 := n5_
  have BK202 := n6_
  have HO211 := n7_
  have HB := n8_
  have HO217 := n9_
  clear n0_ n1_ n2_ n3_ n4_ n5_ n6_ n7_ n8_ n9_
  clear ho hb hg hat
  obtain ⟨Ao112, co112, eo112⟩ := Kd.R_slice HO217.out
  (first | subst eo112 | (injection eo112 with f1_ f2_ f3_; have f4_ := f1_.symm; have f5_ := f3_.symm; clear f1_ f2_ f3_; subst f4_; subst f5_))
  refine hK.out _ _ ⟨(blk_cell BK202.out 0).trans rfl, (blk_cell BK202.out 1).trans rfl, (blk_cell BK202.out 2).trans rfl⟩ (fun hHeld => ?_)
  clear hK K
  refine norm_ (a' := ?_) ?_ ?_
  rotate_left
  · show Act.put _ (some 95) _ = _
    simp only [Act.put, List.setIfInBounds_toArray, List.set_cons_zero, List.set_cons_succ, i64_w, i32_w]
    rfl
  refine one_ (i := 8) (N := some 96) #[true, true, true, true, true, true, true, true, true, false, false, false, false, false, false] rfl rfl (one_of HT_.out (zq26_)) (zq43_) (fun K hK => ?_)
  refine goes_ Try.func14 (zq26_) rfl #[.slice Ao112 y215.length co112] (by rfl) rfl rfl (zq16_) ?_
  with_reducible refine (lombardlaw14_to.calls kj39 _ _ y215 t218 _ ?side1 ?side2 A83.out).mono ?_
  (case side1 => repeat (first | exact (Kd.R_reads' HO217.out).2.2 | (with_reducible refine Kd.C_alloc ?_ _) | (with_reducible refine Kd.C_drewN ?_ _) | (with_reducible refine Kd.C_drew ?_)))
  (case side2 => exact (Kd.R_reads' HO217.out).2.1)
  rintro e w113 ⟨v219, rfl, ho0, hb⟩
  refine ⟨_, rfl, ?_⟩
  have n0_ := Aside0.mk (Kd.R_below (zq11_) hb)
  have n1_ := Aside0.mk (Kd.R_below (zq17_) hb)
  have n2_ := Aside0.mk (Kd.R_lower ho0 zq73_)
  have n3_ := Aside0.mk (blk_below (g := gb189) (o := .cells #[.int .i64 a0_0, .int .i64 a0_1, .int .i64 a0_2, .int .i64 a0_3, .bool a0_4, .int .u8 a0_5, .int .u8 a0_6, .slice A0_7 l0_7.length c0_7, .slice A0_8 l0_8.length c0_8] 47 (0, 0)) (zq4_) hb)
  have n4_ := Aside0.mk (blk_below (g := gb191) (o := .cells #[.int .i64 a0_0, .int .i64 a0_1] 23 (0, 0)) (zq6_) hb)
  have n5_ := Aside0.mk (blk_below (g := gb192) (o := .cells #[.int .i64 a0_2, .int .i64 a0_3, .bool a0_4] 25 (0, 0)) (zq2_) hb)
  have n6_ := Aside0.mk (blk_below (g := gb193) (o := .cells #[.int .i64 x194000_17, .int .i64 x194001_17, .bool x194002_17] 25 (0, 0)) (zq3_) hb)
  have n7_ := Aside0.mk (blk_below (g := gb197) (o := .cells #[.int .i64 t194, .int .i64 t195] 27 (0, 0)) (zq7_) hb)
  have n8_ := Aside0.mk (blk_below (g := gb201) (o := .cells #[.int .i64 t198, .int .i64 t199] 27 (0, 0)) (zq8_) hb)
  have n9_ := Aside0.mk (blk_below (g := gb202) (o := .cells #[.int .i64 0, .int .i64 0, .bool true] 25 (0, 0)) (zq5_) hb)
  have n10_ := Aside0.mk (below_step (zq0_) hb)
  clear HO211
  clear HO217
  clear BK189
  clear BK191
  clear BK192
  clear BK193
  clear BK197
  clear BK201
  clear BK202
  clear HB
  have HO211 := n0_
  have HO217 := n1_
  have HO220 := n2_
  have BK189 := n3_
  have BK191 := n4_
  have BK192 := n5_
  have BK193 := n6_
  have BK197 := n7_
  have BK201 := n8_
  have BK202 := n9_
  have HB := n10_
  clear n0_ n1_ n2_ n3_ n4_ n5_ n6_ n7_ n8_ n9_ n10_
  (try clear hb)
  (try clear hb2)
  exact arm0_5
  ) : P := h
set_option maxRecDepth 100000 in
theorem arm0_3 {P : Prop} (h : P := by
  clear BK192
  clear BK193
  clear BK197
  clear BK201
  clear BK202
  clear HO211
  clear HB
  clear HO208
  have BK189 := n0_
  have BK191 := n1_
  have BK192 := n2_
  have BK193 := n3_
  have BK197 := n4_
  have BK201 := n5_
  have BK202 := n6_
  have HO211 := n7_
  have HB := n8_
  have HO214 := n9_
  clear n0_ n1_ n2_ n3_ n4_ n5_ n6_ n7_ n8_ n9_
  clear ho hb hg hat
  refine hK.out _ _ ⟨(blk_cell BK202.out 0).trans rfl, (blk_cell BK202.out 1).trans rfl, (blk_cell BK202.out 2).trans rfl⟩ (fun hHeld => ?_)
  clear hK K
  refine norm_ (a' := ?_) ?_ ?_
  rotate_left
  · show Act.put _ (some 93) _ = _
    simp only [Act.put, List.setIfInBounds_toArray, List.set_cons_zero, List.set_cons_succ, i64_w, i32_w]
    rfl
  refine one_ (i := 7) (N := some 95) #[true, true, true, true, true, true, true, true, false, false, false, false, false, false, false] rfl rfl (one_of HT_.out (zq26_)) (zq43_) (fun K hK => ?_)
  refine Kd.R_append_rows_step k25 (w0 := w) w.heap.size (by rfl) (.tmp 93) (.tmp 94) 37 25 (.agg #[(.int .i64 0), (.int .i64 0), (.bool false)]) 24 rfl Try.underlying37 info25 rfl (zq43_) (by omega) v213 y212 l0_8 _ _ _ (fun k_ => some k_ ≠ (.slice Ao110 y209.length co110 : Value).ownBlock ∧ k_ ≠ gb192 ∧ k_ ≠ gb193 ∧ k_ ≠ gb202) (fun _ => False) rfl rfl ?aO ?aR (fun _ _ h => h) (fun _ h => h.elim) ?aF ?aB ?aS ?aL ?_
  (case aR => repeat (first | exact (Kd.C_below HR0_8.out HB.out) | (with_reducible refine Kd.C_alloc ?_ _) | (with_reducible refine Kd.C_drewN ?_ _) | (with_reducible refine Kd.C_drew ?_)))
  (case aB => exact (zq0_))
  (case aF => exact zq1_)
  (case aO => exact (zq75_))
  (case aS => exact zq73_)
  (case aL => have := LMc82.out; omega)
  intro v216 w111 ho hb hg hat
  rw [← Ny215.out] at ho
  have n0_ := Aside0.mk (blk_grown (g := gb189) (o := .cells #[.int .i64 a0_0, .int .i64 a0_1, .int .i64 a0_2, .int .i64 a0_3, .bool a0_4, .int .u8 a0_5, .int .u8 a0_6, .slice A0_7 l0_7.length c0_7, .slice A0_8 l0_8.length c0_8] 47 (0, 0)) (zq4_) hg (Kd.R_ne HO214.out BK189.out (zq43_)))
  have n1_ := Aside0.mk (blk_grown (g := gb191) (o := .cells #[.int .i64 a0_0, .int .i64 a0_1] 23 (0, 0)) (zq6_) hg (Kd.R_ne HO214.out BK191.out (zq43_)))
  have n2_ := Aside0.mk (blk_grown (g := gb192) (o := .cells #[.int .i64 a0_2, .int .i64 a0_3, .bool a0_4] 25 (0, 0)) (zq2_) hg (Kd.R_away HO214.out (fun _ hk => hk.2.1)))
  have n3_ := Aside0.mk (blk_grown (g := gb193) (o := .cells #[.int .i64 x194000_17, .int .i64 x194001_17, .bool x194002_17] 25 (0, 0)) (zq3_) hg (Kd.R_away HO214.out (fun _ hk => hk.2.2.1)))
  have n4_ := Aside0.mk (blk_grown (g := gb197) (o := .cells #[.int .i64 t194, .int .i64 t195] 27 (0, 0)) (zq7_) hg (Kd.R_ne HO214.out BK197.out (zq43_)))
  have n5_ := Aside0.mk (blk_grown (g := gb201) (o := .cells #[.int .i64 t198, .int .i64 t199] 27 (0, 0)) (zq8_) hg (Kd.R_ne HO214.out BK201.out (zq43_)))
  have n6_ := Aside0.mk (blk_grown (g := gb202) (o := .cells #[.int .i64 0, .int .i64 0, .bool true] 25 (0, 0)) (zq5_) hg (Kd.R_away HO214.out (fun _ hk => hk.2.2.2)))
  have n7_ := Aside0.mk (Kd.R_after (ok := (fun k_ => k_ ≠ gb192 ∧ k_ ≠ gb193 ∧ k_ ≠ gb202)) (zq11_) hg hat)
  have n8_ := Aside0.mk (hb)
  have n9_ := Aside0.mk (ho)
  clear BK189
  clear BK191
  clear BK192
  clear BK193
  clear BK197
  clear BK201
  clear BK202
  clear HO211
  clear HB
  clear HO214
  have BK189 := n0_
  have BK191 := n1_
  have BK192 := n2_
  exact arm0_4
  ) : P := h
set_option maxRecDepth 100000 in
theorem arm0_2 {P : Prop} (h : P := by
  rintro ⟨v204, v207, v210⟩ w108 ⟨hS_, h0_, h1_, h2_, h3_, h4_, h5_, h6_, h7_, h8_, h9_⟩
  have n0_ : Aside0 (Kd.R k25 25 w108 w.heap.size (fun k_ => some k_ ≠ (v210 : Value).ownBlock ∧ k_ ≠ gb192 ∧ k_ ≠ gb193 ∧ k_ ≠ gb202) v207 y206) := ⟨h0_⟩
  have n1_ : Aside0 (Kd.R k25 25 w108 w.heap.size (fun k_ => some k_ ≠ (v207 : Value).ownBlock ∧ k_ ≠ gb192 ∧ k_ ≠ gb193 ∧ k_ ≠ gb202) v210 y209) := ⟨h1_⟩
  have n2_ : Aside0 (w108.heap[gb189]? = some (.cells #[.int .i64 a0_0, .int .i64 a0_1, .int .i64 a0_2, .int .i64 a0_3, .bool a0_4, .int .u8 a0_5, .int .u8 a0_6, .slice A0_7 l0_7.length c0_7, .slice A0_8 l0_8.length c0_8] 47 (0, 0))) := ⟨h2_⟩
  have n3_ : Aside0 (w108.heap[gb191]? = some (.cells #[.int .i64 a0_0, .int .i64 a0_1] 23 (0, 0))) := ⟨h3_⟩
  have n4_ : Aside0 (w108.heap[gb192]? = some (.cells #[.int .i64 a0_2, .int .i64 a0_3, .bool a0_4] 25 (0, 0))) := ⟨h4_⟩
  have n5_ : Aside0 (w108.heap[gb193]? = some (.cells #[.int .i64 x194000_17, .int .i64 x194001_17, .bool x194002_17] 25 (0, 0))) := ⟨h5_⟩
  have n6_ : Aside0 (w108.heap[gb197]? = some (.cells #[.int .i64 t194, .int .i64 t195] 27 (0, 0))) := ⟨h6_⟩
  have n7_ : Aside0 (w108.heap[gb201]? = some (.cells #[.int .i64 t198, .int .i64 t199] 27 (0, 0))) := ⟨h7_⟩
  have n8_ : Aside0 (w108.heap[gb202]? = some (.cells #[.int .i64 0, .int .i64 0, .bool true] 25 (0, 0))) := ⟨h8_⟩
  have n9_ : Aside0 (Below w.heap.size w w108) := ⟨h9_⟩
  clear BK189
  clear BK191
  clear BK192
  clear BK193
  clear BK197
  clear BK201
  clear BK202
  clear HB
  clear h0_ h1_ h2_ h3_ h4_ h5_ h6_ h7_ h8_ h9_
  have HO208 := n0_
  have HO211 := n1_
  have BK189 := n2_
  have BK191 := n3_
  have BK192 := n4_
  have BK193 := n5_
  have BK197 := n6_
  have BK201 := n7_
  have BK202 := n8_
  have HB := n9_
  clear n0_ n1_ n2_ n3_ n4_ n5_ n6_ n7_ n8_ n9_
  have hHeld : w108.cell? ⟨gb202, 0, none⟩ = some (.int .i64 0) ∧ w108.cell? ⟨gb202, 1, none⟩ = some (.int .i64 0) ∧ w108.cell? ⟨gb202, 2, none⟩ = some (.bool true) := hS_
  obtain ⟨Ao110, co110, eo110⟩ := Kd.R_slice HO211.out
  (first | subst eo110 | (injection eo110 with f1_ f2_ f3_; have f4_ := f1_.symm; have f5_ := f3_.symm; clear f1_ f2_ f3_; subst f4_; subst f5_))
  refine norm_ (a' := ?_) ?_ ?_
  rotate_left
  · simp only [putAll, Act.put, List.setIfInBounds_toArray, List.set_cons_zero, List.set_cons_succ]
    rfl
  refine one_ (i := 5) (N := some 93) #[true, true, true, true, true, true, true, false, false, false, false, false, false, false, false] rfl rfl (one_of HT_.out (zq26_)) (zq43_) (fun K hK => ?_)
  refine Kd.R_append_rows_step k25 (w0 := w) w.heap.size (by rfl) (.tmp 90) (.tmp 92) 37 25 (.agg #[(.int .i64 0), (.int .i64 0), (.bool false)]) 24 rfl Try.underlying37 info25 rfl (zq43_) (by omega) v207 y206 y209 _ _ _ (fun k_ => some k_ ≠ (.slice Ao110 y209.length co110 : Value).ownBlock ∧ k_ ≠ gb192 ∧ k_ ≠ gb193 ∧ k_ ≠ gb202) (fun _ => False) rfl rfl ?aO ?aR (fun _ _ h => h) (fun _ h => h.elim) ?aF ?aB ?aS ?aL ?_
  (case aR => repeat (first | exact (Kd.R_reads' HO211.out).2.2 | (with_reducible refine Kd.C_alloc ?_ _) | (with_reducible refine Kd.C_drewN ?_ _) | (with_reducible refine Kd.C_drew ?_)))
  (case aB => exact (zq0_))
  (case aF => exact zq1_)
  (case aO => exact (zq39_))
  (case aS => exact zq73_)
  (case aL => have := LMc81.out; omega)
  intro v213 w109 ho hb hg hat
  rw [← Ny212.out] at ho
  have n0_ := Aside0.mk (blk_grown (g := gb189) (o := .cells #[.int .i64 a0_0, .int .i64 a0_1, .int .i64 a0_2, .int .i64 a0_3, .bool a0_4, .int .u8 a0_5, .int .u8 a0_6, .slice A0_7 l0_7.length c0_7, .slice A0_8 l0_8.length c0_8] 47 (0, 0)) (zq4_) hg (Kd.R_ne HO208.out BK189.out (zq43_)))
  have n1_ := Aside0.mk (blk_grown (g := gb191) (o := .cells #[.int .i64 a0_0, .int .i64 a0_1] 23 (0, 0)) (zq6_) hg (Kd.R_ne HO208.out BK191.out (zq43_)))
  have n2_ := Aside0.mk (blk_grown (g := gb192) (o := .cells #[.int .i64 a0_2, .int .i64 a0_3, .bool a0_4] 25 (0, 0)) (zq2_) hg (Kd.R_away HO208.out (fun _ hk => hk.2.1)))
  have n3_ := Aside0.mk (blk_grown (g := gb193) (o := .cells #[.int .i64 x194000_17, .int .i64 x194001_17, .bool x194002_17] 25 (0, 0)) (zq3_) hg (Kd.R_away HO208.out (fun _ hk => hk.2.2.1)))
  have n4_ := Aside0.mk (blk_grown (g := gb197) (o := .cells #[.int .i64 t194, .int .i64 t195] 27 (0, 0)) (zq7_) hg (Kd.R_ne HO208.out BK197.out (zq43_)))
  have n5_ := Aside0.mk (blk_grown (g := gb201) (o := .cells #[.int .i64 t198, .int .i64 t199] 27 (0, 0)) (zq8_) hg (Kd.R_ne HO208.out BK201.out (zq43_)))
  have n6_ := Aside0.mk (blk_grown (g := gb202) (o := .cells #[.int .i64 0, .int .i64 0, .bool true] 25 (0, 0)) (zq5_) hg (Kd.R_away HO208.out (fun _ hk => hk.2.2.2)))
  have n7_ := Aside0.mk (Kd.R_after (ok := (fun k_ => k_ ≠ gb192 ∧ k_ ≠ gb193 ∧ k_ ≠ gb202)) (zq68_) hg hat)
  have n8_ := Aside0.mk (hb)
  have n9_ := Aside0.mk (ho)
  clear BK189
  clear BK191
  exact arm0_3
  ) : P := h
set_option maxRecDepth 100000 in
theorem arm0_1 {P : Prop} (h : P := by
  refine pure_ (i := 6) (N := some 94) (v := ?_) (a' := ?_) #[false, true, false, false, false, false, true, false, false, false, false, false, false, false, false] rfl rfl (any_of HT_.out (zq26_)) (fun _ _ _ h => h) (Or.inl ⟨by rfl, ?_⟩) ?_ ?_
  rotate_left
  · intro w'
    go_simp
    with_reducible rfl
  rotate_left
  · simp only [Act.put, List.setIfInBounds_toArray, List.set_cons_zero, List.set_cons_succ, i64_w, i32_w]
    rfl
  refine take_ (i := 3) (N := some 91) (v := ?_) (a' := ?_) #[false, true, false, true, false, false, true, false, false, false, false, false, false, false, false] rfl rfl (take_ofW HT_.out HW_.out (zq26_)) (fun _ _ _ h => h) (Or.inl ⟨by rfl, ?_⟩) hHeld ?_ ?_
  rotate_left
  · rintro w' ⟨s0, s1, s2⟩
    go_simp
    with_reducible rfl
  rotate_left
  · simp only [Act.put, List.setIfInBounds_toArray, List.set_cons_zero, List.set_cons_succ, i64_w, i32_w]
    rfl
  refine join_ (σ := Value × Value × Value) 9 #[true, true, true, true, true, false, true, false, false, false, false, false, false, false, false] (fun s_ => [(88, s_.1), (90, s_.2.1), (92, s_.2.2)]) (fun s_ w' => (w'.cell? ⟨gb202, 0, none⟩ = some (.int .i64 0) ∧ w'.cell? ⟨gb202, 1, none⟩ = some (.int .i64 0) ∧ w'.cell? ⟨gb202, 2, none⟩ = some (.bool true)) ∧ (Kd.R k25 25 w' w.heap.size (fun k_ => some k_ ≠ (s_.2.2 : Value).ownBlock ∧ k_ ≠ gb192 ∧ k_ ≠ gb193 ∧ k_ ≠ gb202) s_.2.1 y206) ∧ (Kd.R k25 25 w' w.heap.size (fun k_ => some k_ ≠ (s_.2.1 : Value).ownBlock ∧ k_ ≠ gb192 ∧ k_ ≠ gb193 ∧ k_ ≠ gb202) s_.2.2 y209) ∧ (w'.heap[gb189]? = some (.cells #[.int .i64 a0_0, .int .i64 a0_1, .int .i64 a0_2, .int .i64 a0_3, .bool a0_4, .int .u8 a0_5, .int .u8 a0_6, .slice A0_7 l0_7.length c0_7, .slice A0_8 l0_8.length c0_8] 47 (0, 0))) ∧ (w'.heap[gb191]? = some (.cells #[.int .i64 a0_0, .int .i64 a0_1] 23 (0, 0))) ∧ (w'.heap[gb192]? = some (.cells #[.int .i64 a0_2, .int .i64 a0_3, .bool a0_4] 25 (0, 0))) ∧ (w'.heap[gb193]? = some (.cells #[.int .i64 x194000_17, .int .i64 x194001_17, .bool x194002_17] 25 (0, 0))) ∧ (w'.heap[gb197]? = some (.cells #[.int .i64 t194, .int .i64 t195] 27 (0, 0))) ∧ (w'.heap[gb201]? = some (.cells #[.int .i64 t198, .int .i64 t199] 27 (0, 0))) ∧ (w'.heap[gb202]? = some (.cells #[.int .i64 0, .int .i64 0, .bool true] 25 (0, 0))) ∧ (Below w.heap.size w w')) ?_ ?_
  rotate_left
  · intro hCont
    refine two_ (i := 0) (j := 4) (Ni := some 88) (Nj := some 92) #[true, true, false, true, false, false, true, false, false, false, false, false, false, false, false] #[false, true, false, true, true, false, true, false, false, false, false, false, false, false, false] rfl rfl rfl rfl (two_of HT_.out (zq26_)) (zq43_) (zq43_) (fun K hK => ?_) (fun K hK => ?_)
    · skip
      refine Kd.R_lit_step k25 _ 25 ?hg (N := 88) ?hd (xs := ([] : List (S25))) (inner := []) (ok := fun _ => True) (okp := fun _ => True) ?hr ?hp (fun _ hk => hk) trivial (Below.refl _ _) (Nat.le_refl _) (by simp) ?_; (case hd => rfl); (case hg => rfl); (case hr => first | (go_simp; done) | (go_simp; rfl)); (case hp => exact (Reps.none _ _))
      intro v204 w103 ho104 hb hg_ hnew_
      clear hg_ hnew_
      (first | rw [← Ny203.out] at ho104 | (simp only [Int.reduceToNat] at ho104; rw [← Ny203.out] at ho104))
      have n0_ := Aside0.mk (Kd.R_lower (Kd.R_newB (Kd.R_newB (Kd.R_newB ho104 (g := gb192) (o := .cells #[.int .i64 a0_2, .int .i64 a0_3, .bool a0_4] 25 (0, 0)) (zq2_)) (g := gb193) (o := .cells #[.int .i64 x194000_17, .int .i64 x194001_17, .bool x194002_17] 25 (0, 0)) (zq3_)) (g := gb202) (o := .cells #[.int .i64 0, .int .i64 0, .bool true] 25 (0, 0)) (zq5_)) zq73_)
      have n1_ := Aside0.mk (blk_below (g := gb189) (o := .cells #[.int .i64 a0_0, .int .i64 a0_1, .int .i64 a0_2, .int .i64 a0_3, .bool a0_4, .int .u8 a0_5, .int .u8 a0_6, .slice A0_7 l0_7.length c0_7, .slice A0_8 l0_8.length c0_8] 47 (0, 0)) (zq4_) hb)
      have n2_ := Aside0.mk (blk_below (g := gb191) (o := .cells #[.int .i64 a0_0, .int .i64 a0_1] 23 (0, 0)) (zq6_) hb)
      have n3_ := Aside0.mk (blk_below (g := gb192) (o := .cells #[.int .i64 a0_2, .int .i64 a0_3, .bool a0_4] 25 (0, 0)) (zq2_) hb)
      have n4_ := Aside0.mk (blk_below (g := gb193) (o := .cells #[.int .i64 x194000_17, .int .i64 x194001_17, .bool x194002_17] 25 (0, 0)) (zq3_) hb)
      have n5_ := Aside0.mk (blk_below (g := gb197) (o := .cells #[.int .i64 t194, .int .i64 t195] 27 (0, 0)) (zq7_) hb)
      have n6_ := Aside0.mk (blk_below (g := gb201) (o := .cells #[.int .i64 t198, .int .i64 t199] 27 (0, 0)) (zq8_) hb)
      have n7_ := Aside0.mk (blk_below (g := gb202) (o := .cells #[.int .i64 0, .int .i64 0, .bool true] 25 (0, 0)) (zq5_) hb)
      have n8_ := Aside0.mk (below_step (zq0_) hb)
      clear BK189
      clear BK191
      clear BK192
      clear BK193
      clear BK197
      clear BK201
      clear BK202
      clear HB
      have HO205 := n0_
      have BK189 := n1_
      have BK191 := n2_
      have BK192 := n3_
      have BK193 := n4_
      have BK197 := n5_
      have BK201 := n6_
      have BK202 := n7_
      have HB := n8_
      clear n0_ n1_ n2_ n3_ n4_ n5_ n6_ n7_ n8_
      clear hb ho104
      refine hK.out _ _ ⟨(blk_cell BK202.out 0).trans rfl, (blk_cell BK202.out 1).trans rfl, (blk_cell BK202.out 2).trans rfl⟩ (fun hHeld => ?_)
      clear hK K
      refine norm_ (a' := ?_) ?_ ?_
      rotate_left
      · show Act.put _ (some 88) _ = _
        simp only [Act.put, List.setIfInBounds_toArray, List.set_cons_zero, List.set_cons_succ, i64_w, i32_w]
        rfl
      refine two_ (i := 2) (j := 4) (Ni := some 90) (Nj := some 92) #[true, true, true, true, false, false, true, false, false, false, false, false, false, false, false] #[true, true, false, true, true, false, true, false, false, false, false, false, false, false, false] rfl rfl rfl rfl (two_of HT_.out (zq26_)) (zq43_) (zq43_) (fun K hK => ?_) (fun K hK => ?_)
      · skip
        refine Kd.R_append_rows_step k25 (w0 := w) w.heap.size (by rfl) (.tmp 88) (.tmp 89) 37 25 (.agg #[(.int .i64 0), (.int .i64 0), (.bool false)]) 24 rfl Try.underlying37 info25 rfl (zq43_) (by omega) v204 y203 l0_7 _ _ _ (fun k_ => k_ ≠ gb192 ∧ k_ ≠ gb193 ∧ k_ ≠ gb202) (fun _ => False) rfl rfl ?aO ?aR (fun _ _ h => h) (fun _ h => h.elim) ?aF ?aB ?aS ?aL ?_
        (case aR => repeat (first | exact zq76_ | (with_reducible refine Kd.C_alloc ?_ _) | (with_reducible refine Kd.C_drewN ?_ _) | (with_reducible refine Kd.C_drew ?_)))
        (case aB => exact (zq0_))
        (case aF => exact zq20_)
        (case aO => exact (zq70_))
        (case aS => exact zq73_)
        (case aL => have := LMc80.out; omega)
        intro v207 w105 ho hb hg hat
        rw [← Ny206.out] at ho
        have n0_ := Aside0.mk (blk_grown (g := gb189) (o := .cells #[.int .i64 a0_0, .int .i64 a0_1, .int .i64 a0_2, .int .i64 a0_3, .bool a0_4, .int .u8 a0_5, .int .u8 a0_6, .slice A0_7 l0_7.length c0_7, .slice A0_8 l0_8.length c0_8] 47 (0, 0)) (zq4_) hg (Kd.R_ne HO205.out BK189.out (zq43_)))
        have n1_ := Aside0.mk (blk_grown (g := gb191) (o := .cells #[.int .i64 a0_0, .int .i64 a0_1] 23 (0, 0)) (zq6_) hg (Kd.R_ne HO205.out BK191.out (zq43_)))
        have n2_ := Aside0.mk (blk_grown (g := gb192) (o := .cells #[.int .i64 a0_2, .int .i64 a0_3, .bool a0_4] 25 (0, 0)) (zq2_) hg (Kd.R_away HO205.out (fun _ hk => hk.1.1.2)))
        have n3_ := Aside0.mk (blk_grown (g := gb193) (o := .cells #[.int .i64 x194000_17, .int .i64 x194001_17, .bool x194002_17] 25 (0, 0)) (zq3_) hg (Kd.R_away HO205.out (fun _ hk => hk.1.2)))
        have n4_ := Aside0.mk (blk_grown (g := gb197) (o := .cells #[.int .i64 t194, .int .i64 t195] 27 (0, 0)) (zq7_) hg (Kd.R_ne HO205.out BK197.out (zq43_)))
        have n5_ := Aside0.mk (blk_grown (g := gb201) (o := .cells #[.int .i64 t198, .int .i64 t199] 27 (0, 0)) (zq8_) hg (Kd.R_ne HO205.out BK201.out (zq43_)))
        have n6_ := Aside0.mk (blk_grown (g := gb202) (o := .cells #[.int .i64 0, .int .i64 0, .bool true] 25 (0, 0)) (zq5_) hg (Kd.R_away HO205.out (fun _ hk => hk.2)))
        have n7_ := Aside0.mk (hb)
        have n8_ := Aside0.mk (ho)
        clear BK189
        clear BK191
        clear BK192
        clear BK193
        clear BK197
        clear BK201
        clear BK202
        clear HB
        clear HO205
        have BK189 := n0_
        have BK191 := n1_
        have BK192 := n2_
        have BK193 := n3_
        have BK197 := n4_
        have BK201 := n5_
        have BK202 := n6_
        have HB := n7_
        have HO208 := n8_
        clear n0_ n1_ n2_ n3_ n4_ n5_ n6_ n7_ n8_
        clear ho hb hg hat
        refine hK.out _ _ ⟨(blk_cell BK202.out 0).trans rfl, (blk_cell BK202.out 1).trans rfl, (blk_cell BK202.out 2).trans rfl⟩ (fun hHeld => ?_)
        clear hK K
        refine norm_ (a' := ?_) ?_ ?_
        rotate_left
        · show Act.put _ (some 90) _ = _
          simp only [Act.put, List.setIfInBounds_toArray, List.set_cons_zero, List.set_cons_succ, i64_w, i32_w]
          rfl
        refine one_ (i := 4) (N := some 92) #[true, true, true, true, true, false, true, false, false, false, false, false, false, false, false] rfl rfl (one_of HT_.out (zq26_)) (zq43_) (fun K hK => ?_)
        refine Kd.R_lit_step k25 _ 25 ?hg (N := 92) ?hd (xs := ([(⟨0, 0, true⟩ : S25)] : List (S25))) (inner := [.int .i64 0, .int .i64 0, .bool true]) (ok := fun _ => True) (okp := fun _ => True) ?hr ?hp (fun _ hk => hk) trivial (Below.refl _ _) (Nat.le_refl _) (by simp) ?_; (case hd => rfl); (case hg => rfl); (case hr => first | (go_simp; done) | (go_simp; rfl)); (case hp => exact zq21_)
        intro v210 w106 ho107 hb hg_ hnew_
        clear hg_ hnew_
        (first | rw [← Ny209.out] at ho107 | (simp only [Int.reduceToNat] at ho107; rw [← Ny209.out] at ho107))
        have n0_ := Aside0.mk (Kd.R_elder' (zq39_) (Kd.R_base ho107) hb)
        have n1_ := Aside0.mk (Kd.R_lower (Kd.R_newB (Kd.R_newB (Kd.R_newB (Kd.R_new' ho107 (Kd.R_lt (zq39_))) (g := gb192) (o := .cells #[.int .i64 a0_2, .int .i64 a0_3, .bool a0_4] 25 (0, 0)) (zq2_)) (g := gb193) (o := .cells #[.int .i64 x194000_17, .int .i64 x194001_17, .bool x194002_17] 25 (0, 0)) (zq3_)) (g := gb202) (o := .cells #[.int .i64 0, .int .i64 0, .bool true] 25 (0, 0)) (zq5_)) zq73_)
        have n2_ := Aside0.mk (blk_below (g := gb189) (o := .cells #[.int .i64 a0_0, .int .i64 a0_1, .int .i64 a0_2, .int .i64 a0_3, .bool a0_4, .int .u8 a0_5, .int .u8 a0_6, .slice A0_7 l0_7.length c0_7, .slice A0_8 l0_8.length c0_8] 47 (0, 0)) (zq4_) hb)
        have n3_ := Aside0.mk (blk_below (g := gb191) (o := .cells #[.int .i64 a0_0, .int .i64 a0_1] 23 (0, 0)) (zq6_) hb)
        have n4_ := Aside0.mk (blk_below (g := gb192) (o := .cells #[.int .i64 a0_2, .int .i64 a0_3, .bool a0_4] 25 (0, 0)) (zq2_) hb)
        have n5_ := Aside0.mk (blk_below (g := gb193) (o := .cells #[.int .i64 x194000_17, .int .i64 x194001_17, .bool x194002_17] 25 (0, 0)) (zq3_) hb)
        have n6_ := Aside0.mk (blk_below (g := gb197) (o := .cells #[.int .i64 t194, .int .i64 t195] 27 (0, 0)) (zq7_) hb)
        have n7_ := Aside0.mk (blk_below (g := gb201) (o := .cells #[.int .i64 t198, .int .i64 t199] 27 (0, 0)) (zq8_) hb)
        have n8_ := Aside0.mk (blk_below (g := gb202) (o := .cells #[.int .i64 0, .int .i64 0, .bool true] 25 (0, 0)) (zq5_) hb)
        have n9_ := Aside0.mk (below_step (zq0_) hb)
        clear HO208
        clear BK189
        clear BK191
        clear BK192
        clear BK193
        clear BK197
        clear BK201
        clear BK202
        clear HB
        have HO208 := n0_
        have HO211 := n1_
        have BK189 := n2_
        have BK191 := n3_
        have BK192 := n4_
        have BK193 := n5_
        have BK197 := n6_
        have BK201 := n7_
        have BK202 := n8_
        have HB := n9_
        clear n0_ n1_ n2_ n3_ n4_ n5_ n6_ n7_ n8_ n9_
        clear hb ho107
        refine hK.out _ _ ⟨(blk_cell BK202.out 0).trans rfl, (blk_cell BK202.out 1).trans rfl, (blk_cell BK202.out 2).trans rfl⟩ (fun hHeld => ?_)
        clear hK K
        refine norm_ (a' := ?_) ?_ ?_
        rotate_left
        · show Act.put _ (some 92) _ = _
          simp only [Act.put, List.setIfInBounds_toArray, List.set_cons_zero, List.set_cons_succ, i64_w, i32_w]
          rfl
        exact zq29_
      · skip
        refine Kd.R_lit_step k25 _ 25 ?hg (N := 92) ?hd (xs := ([(⟨0, 0, true⟩ : S25)] : List (S25))) (inner := [.int .i64 0, .int .i64 0, .bool true]) (ok := fun _ => True) (okp := fun _ => True) ?hr ?hp (fun _ hk => hk) trivial (Below.refl _ _) (Nat.le_refl _) (by simp) ?_; (case hd => rfl); (case hg => rfl); (case hr => first | (go_simp; done) | (go_simp; rfl)); (case hp => exact zq21_)
        intro v210 w105 ho106 hb hg_ hnew_
        clear hg_ hnew_
        (first | rw [← Ny209.out] at ho106 | (simp only [Int.reduceToNat] at ho106; rw [← Ny209.out] at ho106))
        have n0_ := Aside0.mk (Kd.R_elder' (zq55_) (Kd.R_base ho106) hb)
        have n1_ := Aside0.mk (Kd.R_lower (Kd.R_newB (Kd.R_newB (Kd.R_newB (Kd.R_new' ho106 (Kd.R_lt (zq55_))) (g := gb192) (o := .cells #[.int .i64 a0_2, .int .i64 a0_3, .bool a0_4] 25 (0, 0)) (zq2_)) (g := gb193) (o := .cells #[.int .i64 x194000_17, .int .i64 x194001_17, .bool x194002_17] 25 (0, 0)) (zq3_)) (g := gb202) (o := .cells #[.int .i64 0, .int .i64 0, .bool true] 25 (0, 0)) (zq5_)) zq73_)
        have n2_ := Aside0.mk (blk_below (g := gb189) (o := .cells #[.int .i64 a0_0, .int .i64 a0_1, .int .i64 a0_2, .int .i64 a0_3, .bool a0_4, .int .u8 a0_5, .int .u8 a0_6, .slice A0_7 l0_7.length c0_7, .slice A0_8 l0_8.length c0_8] 47 (0, 0)) (zq4_) hb)
        have n3_ := Aside0.mk (blk_below (g := gb191) (o := .cells #[.int .i64 a0_0, .int .i64 a0_1] 23 (0, 0)) (zq6_) hb)
        have n4_ := Aside0.mk (blk_below (g := gb192) (o := .cells #[.int .i64 a0_2, .int .i64 a0_3, .bool a0_4] 25 (0, 0)) (zq2_) hb)
        have n5_ := Aside0.mk (blk_below (g := gb193) (o := .cells #[.int .i64 x194000_17, .int .i64 x194001_17, .bool x194002_17] 25 (0, 0)) (zq3_) hb)
        have n6_ := Aside0.mk (blk_below (g := gb197) (o := .cells #[.int .i64 t194, .int .i64 t195] 27 (0, 0)) (zq7_) hb)
        have n7_ := Aside0.mk (blk_below (g := gb201) (o := .cells #[.int .i64 t198, .int .i64 t199] 27 (0, 0)) (zq8_) hb)
        have n8_ := Aside0.mk (blk_below (g := gb202) (o := .cells #[.int .i64 0, .int .i64 0, .bool true] 25 (0, 0)) (zq5_) hb)
        have n9_ := Aside0.mk (below_step (zq0_) hb)
        clear HO205
        clear BK189
        clear BK191
        clear BK192
        clear BK193
        clear BK197
        clear BK201
        clear BK202
        clear HB
        have HO205 := n0_
        have HO211 := n1_
        have BK189 := n2_
        have BK191 := n3_
        have BK192 := n4_
        have BK193 := n5_
        have BK197 := n6_
        have BK201 := n7_
        have BK202 := n8_
        have HB := n9_
        clear n0_ n1_ n2_ n3_ n4_ n5_ n6_ n7_ n8_ n9_
        clear hb ho106
        refine hK.out _ _ ⟨(blk_cell BK202.out 0).trans rfl, (blk_cell BK202.out 1).trans rfl, (blk_cell BK202.out 2).trans rfl⟩ (fun hHeld => ?_)
        clear hK K
        refine norm_ (a' := ?_) ?_ ?_
        rotate_left
        · show Act.put _ (some 92) _ = _
          simp only [Act.put, List.setIfInBounds_toArray, List.set_cons_zero, List.set_cons_succ, i64_w, i32_w]
          rfl
        refine one_ (i := 2) (N := some 90) #[true, true, true, true, true, false, true, false, false, false, false, false, false, false, false] rfl rfl (one_of HT_.out (zq26_)) (zq43_) (fun K hK => ?_)
        refine Kd.R_append_rows_step k25 (w0 := w) w.heap.size (by rfl) (.tmp 88) (.tmp 89) 37 25 (.agg #[(.int .i64 0), (.int .i64 0), (.bool false)]) 24 rfl Try.underlying37 info25 rfl (zq43_) (by omega) v204 y203 l0_7 _ _ _ (fun k_ => some k_ ≠ (v210 : Value).ownBlock ∧ k_ ≠ gb192 ∧ k_ ≠ gb193 ∧ k_ ≠ gb202) (fun _ => False) rfl rfl ?aO ?aR (fun _ _ h => h) (fun _ h => h.elim) ?aF ?aB ?aS ?aL ?_
        (case aR => repeat (first | exact zq76_ | (with_reducible refine Kd.C_alloc ?_ _) | (with_reducible refine Kd.C_drewN ?_ _) | (with_reducible refine Kd.C_drew ?_)))
        (case aB => exact (zq0_))
        (case aF => exact zq1_)
        (case aO => exact (zq64_))
        (case aS => exact zq73_)
        (case aL => have := LMc80.out; omega)
        intro v207 w107 ho hb hg hat
        rw [← Ny206.out] at ho
        have n0_ := Aside0.mk (blk_grown (g := gb189) (o := .cells #[.int .i64 a0_0, .int .i64 a0_1, .int .i64 a0_2, .int .i64 a0_3, .bool a0_4, .int .u8 a0_5, .int .u8 a0_6, .slice A0_7 l0_7.length c0_7, .slice A0_8 l0_8.length c0_8] 47 (0, 0)) (zq4_) hg (Kd.R_ne HO205.out BK189.out (zq43_)))
        have n1_ := Aside0.mk (blk_grown (g := gb191) (o := .cells #[.int .i64 a0_0, .int .i64 a0_1] 23 (0, 0)) (zq6_) hg (Kd.R_ne HO205.out BK191.out (zq43_)))
        have n2_ := Aside0.mk (blk_grown (g := gb192) (o := .cells #[.int .i64 a0_2, .int .i64 a0_3, .bool a0_4] 25 (0, 0)) (zq2_) hg (Kd.R_away HO205.out (fun _ hk => hk.1.1.1.2)))
        have n3_ := Aside0.mk (blk_grown (g := gb193) (o := .cells #[.int .i64 x194000_17, .int .i64 x194001_17, .bool x194002_17] 25 (0, 0)) (zq3_) hg (Kd.R_away HO205.out (fun _ hk => hk.1.1.2)))
        have n4_ := Aside0.mk (blk_grown (g := gb197) (o := .cells #[.int .i64 t194, .int .i64 t195] 27 (0, 0)) (zq7_) hg (Kd.R_ne HO205.out BK197.out (zq43_)))
        have n5_ := Aside0.mk (blk_grown (g := gb201) (o := .cells #[.int .i64 t198, .int .i64 t199] 27 (0, 0)) (zq8_) hg (Kd.R_ne HO205.out BK201.out (zq43_)))
        have n6_ := Aside0.mk (blk_grown (g := gb202) (o := .cells #[.int .i64 0, .int .i64 0, .bool true] 25 (0, 0)) (zq5_) hg (Kd.R_away HO205.out (fun _ hk => hk.1.2)))
        have n7_ := Aside0.mk (Kd.R_after (ok := (fun k_ => k_ ≠ gb192 ∧ k_ ≠ gb193 ∧ k_ ≠ gb202)) (zq62_) hg hat)
        have n8_ := Aside0.mk (hb)
        have n9_ := Aside0.mk (ho)
        clear BK189
        clear BK191
        clear BK192
        clear BK193
        clear BK197
        clear BK201
        clear BK202
        clear HO211
        clear HB
        clear HO205
        have BK189 := n0_
        have BK191 := n1_
        have BK192 := n2_
        have BK193 := n3_
        have BK197 := n4_
        have BK201 := n5_
        have BK202 := n6_
        have HO211 := n7_
        have HB := n8_
        have HO208 := n9_
        clear n0_ n1_ n2_ n3_ n4_ n5_ n6_ n7_ n8_ n9_
        clear ho hb hg hat
        refine hK.out _ _ ⟨(blk_cell BK202.out 0).trans rfl, (blk_cell BK202.out 1).trans rfl, (blk_cell BK202.out 2).trans rfl⟩ (fun hHeld => ?_)
        clear hK K
        refine norm_ (a' := ?_) ?_ ?_
        rotate_left
        · show Act.put _ (some 90) _ = _
          simp only [Act.put, List.setIfInBounds_toArray, List.set_cons_zero, List.set_cons_succ, i64_w, i32_w]
          rfl
        exact zq13_
    · skip
      refine Kd.R_lit_step k25 _ 25 ?hg (N := 92) ?hd (xs := ([(⟨0, 0, true⟩ : S25)] : List (S25))) (inner := [.int .i64 0, .int .i64 0, .bool true]) (ok := fun _ => True) (okp := fun _ => True) ?hr ?hp (fun _ hk => hk) trivial (Below.refl _ _) (Nat.le_refl _) (by simp) ?_; (case hd => rfl); (case hg => rfl); (case hr => first | (go_simp; done) | (go_simp; rfl)); (case hp => exact zq21_)
      intro v210 w103 ho104 hb hg_ hnew_
      clear hg_ hnew_
      (first | rw [← Ny209.out] at ho104 | (simp only [Int.reduceToNat] at ho104; rw [← Ny209.out] at ho104))
      have n0_ := Aside0.mk (Kd.R_lower (Kd.R_newB (Kd.R_newB (Kd.R_newB ho104 (g := gb192) (o := .cells #[.int .i64 a0_2, .int .i64 a0_3, .bool a0_4] 25 (0, 0)) (zq2_)) (g := gb193) (o := .cells #[.int .i64 x194000_17, .int .i64 x194001_17, .bool x194002_17] 25 (0, 0)) (zq3_)) (g := gb202) (o := .cells #[.int .i64 0, .int .i64 0, .bool true] 25 (0, 0)) (zq5_)) zq73_)
      have n1_ := Aside0.mk (blk_below (g := gb189) (o := .cells #[.int .i64 a0_0, .int .i64 a0_1, .int .i64 a0_2, .int .i64 a0_3, .bool a0_4, .int .u8 a0_5, .int .u8 a0_6, .slice A0_7 l0_7.length c0_7, .slice A0_8 l0_8.length c0_8] 47 (0, 0)) (zq4_) hb)
      have n2_ := Aside0.mk (blk_below (g := gb191) (o := .cells #[.int .i64 a0_0, .int .i64 a0_1] 23 (0, 0)) (zq6_) hb)
      have n3_ := Aside0.mk (blk_below (g := gb192) (o := .cells #[.int .i64 a0_2, .int .i64 a0_3, .bool a0_4] 25 (0, 0)) (zq2_) hb)
      have n4_ := Aside0.mk (blk_below (g := gb193) (o := .cells #[.int .i64 x194000_17, .int .i64 x194001_17, .bool x194002_17] 25 (0, 0)) (zq3_) hb)
      have n5_ := Aside0.mk (blk_below (g := gb197) (o := .cells #[.int .i64 t194, .int .i64 t195] 27 (0, 0)) (zq7_) hb)
      have n6_ := Aside0.mk (blk_below (g := gb201) (o := .cells #[.int .i64 t198, .int .i64 t199] 27 (0, 0)) (zq8_) hb)
      have n7_ := Aside0.mk (blk_below (g := gb202) (o := .cells #[.int .i64 0, .int .i64 0, .bool true] 25 (0, 0)) (zq5_) hb)
      have n8_ := Aside0.mk (below_step (zq0_) hb)
      clear BK189
      clear BK191
      clear BK192
      clear BK193
      clear BK197
      clear BK201
      clear BK202
      clear HB
      have HO211 := n0_
      have BK189 := n1_
      have BK191 := n2_
      have BK192 := n3_
      have BK193 := n4_
      have BK197 := n5_
      have BK201 := n6_
      have BK202 := n7_
      have HB := n8_
      clear n0_ n1_ n2_ n3_ n4_ n5_ n6_ n7_ n8_
      clear hb ho104
      refine hK.out _ _ ⟨(blk_cell BK202.out 0).trans rfl, (blk_cell BK202.out 1).trans rfl, (blk_cell BK202.out 2).trans rfl⟩ (fun hHeld => ?_)
      clear hK K
      refine norm_ (a' := ?_) ?_ ?_
      rotate_left
      · show Act.put _ (some 92) _ = _
        simp only [Act.put, List.setIfInBounds_toArray, List.set_cons_zero, List.set_cons_succ, i64_w, i32_w]
        rfl
      refine one_ (i := 0) (N := some 88) #[true, true, false, true, true, false, true, false, false, false, false, false, false, false, false] rfl rfl (one_of HT_.out (zq26_)) (zq43_) (fun K hK => ?_)
      refine Kd.R_lit_step k25 _ 25 ?hg (N := 88) ?hd (xs := ([] : List (S25))) (inner := []) (ok := fun _ => True) (okp := fun _ => True) ?hr ?hp (fun _ hk => hk) trivial (Below.refl _ _) (Nat.le_refl _) (by simp) ?_; (case hd => rfl); (case hg => rfl); (case hr => first | (go_simp; done) | (go_simp; rfl)); (case hp => exact (Reps.none _ _))
      intro v204 w105 ho106 hb hg_ hnew_
      clear hg_ hnew_
      (first | rw [← Ny203.out] at ho106 | (simp only [Int.reduceToNat] at ho106; rw [← Ny203.out] at ho106))
      have n0_ := Aside0.mk (Kd.R_elder' (zq11_) (Kd.R_base ho106) hb)
      have n1_ := Aside0.mk (Kd.R_lower (Kd.R_newB (Kd.R_newB (Kd.R_newB (Kd.R_new' ho106 (Kd.R_lt (zq11_))) (g := gb192) (o := .cells #[.int .i64 a0_2, .int .i64 a0_3, .bool a0_4] 25 (0, 0)) (zq2_)) (g := gb193) (o := .cells #[.int .i64 x194000_17, .int .i64 x194001_17, .bool x194002_17] 25 (0, 0)) (zq3_)) (g := gb202) (o := .cells #[.int .i64 0, .int .i64 0, .bool true] 25 (0, 0)) (zq5_)) zq73_)
      have n2_ := Aside0.mk (blk_below (g := gb189) (o := .cells #[.int .i64 a0_0, .int .i64 a0_1, .int .i64 a0_2, .int .i64 a0_3, .bool a0_4, .int .u8 a0_5, .int .u8 a0_6, .slice A0_7 l0_7.length c0_7, .slice A0_8 l0_8.length c0_8] 47 (0, 0)) (zq4_) hb)
      have n3_ := Aside0.mk (blk_below (g := gb191) (o := .cells #[.int .i64 a0_0, .int .i64 a0_1] 23 (0, 0)) (zq6_) hb)
      have n4_ := Aside0.mk (blk_below (g := gb192) (o := .cells #[.int .i64 a0_2, .int .i64 a0_3, .bool a0_4] 25 (0, 0)) (zq2_) hb)
      have n5_ := Aside0.mk (blk_below (g := gb193) (o := .cells #[.int .i64 x194000_17, .int .i64 x194001_17, .bool x194002_17] 25 (0, 0)) (zq3_) hb)
      have n6_ := Aside0.mk (blk_below (g := gb197) (o := .cells #[.int .i64 t194, .int .i64 t195] 27 (0, 0)) (zq7_) hb)
      have n7_ := Aside0.mk (blk_below (g := gb201) (o := .cells #[.int .i64 t198, .int .i64 t199] 27 (0, 0)) (zq8_) hb)
      have n8_ := Aside0.mk (blk_below (g := gb202) (o := .cells #[.int .i64 0, .int .i64 0, .bool true] 25 (0, 0)) (zq5_) hb)
      have n9_ := Aside0.mk (below_step (zq0_) hb)
      clear HO211
      clear BK189
      clear BK191
      clear BK192
      clear BK193
      clear BK197
      clear BK201
      clear BK202
      clear HB
      have HO211 := n0_
      have HO205 := n1_
      have BK189 := n2_
      have BK191 := n3_
      have BK192 := n4_
      have BK193 := n5_
      have BK197 := n6_
      have BK201 := n7_
      have BK202 := n8_
      have HB := n9_
      clear n0_ n1_ n2_ n3_ n4_ n5_ n6_ n7_ n8_ n9_
      clear hb ho106
      refine hK.out _ _ ⟨(blk_cell BK202.out 0).trans rfl, (blk_cell BK202.out 1).trans rfl, (blk_cell BK202.out 2).trans rfl⟩ (fun hHeld => ?_)
      clear hK K
      refine norm_ (a' := ?_) ?_ ?_
      rotate_left
      · show Act.put _ (some 88) _ = _
        simp only [Act.put, List.setIfInBounds_toArray, List.set_cons_zero, List.set_cons_succ, i64_w, i32_w]
        rfl
      refine one_ (i := 2) (N := some 90) #[true, true, true, true, true, false, true, false, false, false, false, false, false, false, false] rfl rfl (one_of HT_.out (zq26_)) (zq43_) (fun K hK => ?_)
      refine Kd.R_append_rows_step k25 (w0 := w) w.heap.size (by rfl) (.tmp 88) (.tmp 89) 37 25 (.agg #[(.int .i64 0), (.int .i64 0), (.bool false)]) 24 rfl Try.underlying37 info25 rfl (zq43_) (by omega) v204 y203 l0_7 _ _ _ (fun k_ => some k_ ≠ (v210 : Value).ownBlock ∧ k_ ≠ gb192 ∧ k_ ≠ gb193 ∧ k_ ≠ gb202) (fun _ => False) rfl rfl ?aO ?aR (fun _ _ h => h) (fun _ h => h.elim) ?aF ?aB ?aS ?aL ?_
      (case aR => repeat (first | exact zq76_ | (with_reducible refine Kd.C_alloc ?_ _) | (with_reducible refine Kd.C_drewN ?_ _) | (with_reducible refine Kd.C_drew ?_)))
      (case aB => exact (zq0_))
      (case aF => exact zq1_)
      (case aO => exact (zq65_))
      (case aS => exact zq73_)
      (case aL => have := LMc80.out; omega)
      intro v207 w107 ho hb hg hat
      rw [← Ny206.out] at ho
      have n0_ := Aside0.mk (blk_grown (g := gb189) (o := .cells #[.int .i64 a0_0, .int .i64 a0_1, .int .i64 a0_2, .int .i64 a0_3, .bool a0_4, .int .u8 a0_5, .int .u8 a0_6, .slice A0_7 l0_7.length c0_7, .slice A0_8 l0_8.length c0_8] 47 (0, 0)) (zq4_) hg (Kd.R_ne HO205.out BK189.out (zq43_)))
      have n1_ := Aside0.mk (blk_grown (g := gb191) (o := .cells #[.int .i64 a0_0, .int .i64 a0_1] 23 (0, 0)) (zq6_) hg (Kd.R_ne HO205.out BK191.out (zq43_)))
      have n2_ := Aside0.mk (blk_grown (g := gb192) (o := .cells #[.int .i64 a0_2, .int .i64 a0_3, .bool a0_4] 25 (0, 0)) (zq2_) hg (Kd.R_away HO205.out (fun _ hk => hk.1.1.2)))
      have n3_ := Aside0.mk (blk_grown (g := gb193) (o := .cells #[.int .i64 x194000_17, .int .i64 x194001_17, .bool x194002_17] 25 (0, 0)) (zq3_) hg (Kd.R_away HO205.out (fun _ hk => hk.1.2)))
      have n4_ := Aside0.mk (blk_grown (g := gb197) (o := .cells #[.int .i64 t194, .int .i64 t195] 27 (0, 0)) (zq7_) hg (Kd.R_ne HO205.out BK197.out (zq43_)))
      have n5_ := Aside0.mk (blk_grown (g := gb201) (o := .cells #[.int .i64 t198, .int .i64 t199] 27 (0, 0)) (zq8_) hg (Kd.R_ne HO205.out BK201.out (zq43_)))
      have n6_ := Aside0.mk (blk_grown (g := gb202) (o := .cells #[.int .i64 0, .int .i64 0, .bool true] 25 (0, 0)) (zq5_) hg (Kd.R_away HO205.out (fun _ hk => hk.2)))
      have n7_ := Aside0.mk (Kd.R_after (ok := (fun k_ => k_ ≠ gb192 ∧ k_ ≠ gb193 ∧ k_ ≠ gb202)) (zq63_) hg hat)
      have n8_ := Aside0.mk (hb)
      have n9_ := Aside0.mk (ho)
      clear BK189
      clear BK191
      clear BK192
      clear BK193
      clear BK197
      clear BK201
      clear BK202
      clear HO211
      clear HB
      clear HO205
      have BK189 := n0_
      have BK191 := n1_
      have BK192 := n2_
      have BK193 := n3_
      have BK197 := n4_
      have BK201 := n5_
      have BK202 := n6_
      have HO211 := n7_
      have HB := n8_
      have HO208 := n9_
      clear n0_ n1_ n2_ n3_ n4_ n5_ n6_ n7_ n8_ n9_
      clear ho hb hg hat
      refine hK.out _ _ ⟨(blk_cell BK202.out 0).trans rfl, (blk_cell BK202.out 1).trans rfl, (blk_cell BK202.out 2).trans rfl⟩ (fun hHeld => ?_)
      clear hK K
      refine norm_ (a' := ?_) ?_ ?_
      rotate_left
      · show Act.put _ (some 90) _ = _
        simp only [Act.put, List.setIfInBounds_toArray, List.set_cons_zero, List.set_cons_succ, i64_w, i32_w]
        rfl
      exact zq13_
  exact arm0_2
  ) : P := h
set_option maxRecDepth 100000 in
theorem arm0_0 {P : Prop} (h : P := by
  try go_wp2_with (first | ((with_reducible refine gate_dst (N := 14) rfl ?_); (try (refine gate_guard (by rfl) ?_; dsimp only)); refine box_event ?hg (N := 14) ?hd (cs := #[.int .i64 0, .int .i64 0, .bool false]) (t := 25) ?hr ?_; (case hd => rfl); (case hg => rfl); (case hr => first | (go_simp; done) | (go_simp; rfl)); intro gb202 hg w93 hbox hb; have n0_ := Aside0.mk (blk_below (g := gb189) (o := .cells #[.int .i64 a0_0, .int .i64 a0_1, .int .i64 a0_2, .int .i64 a0_3, .bool a0_4, .int .u8 a0_5, .int .u8 a0_6, .slice A0_7 l0_7.length c0_7, .slice A0_8 l0_8.length c0_8] 47 (0, 0)) (zq4_) hb); have n1_ := Aside0.mk (blk_below (g := gb191) (o := .cells #[.int .i64 a0_0, .int .i64 a0_1] 23 (0, 0)) (zq6_) hb); have n2_ := Aside0.mk (blk_below (g := gb192) (o := .cells #[.int .i64 a0_2, .int .i64 a0_3, .bool a0_4] 25 (0, 0)) (zq2_) hb); have n3_ := Aside0.mk (blk_below (g := gb193) (o := .cells #[.int .i64 x194000_17, .int .i64 x194001_17, .bool x194002_17] 25 (0, 0)) (zq3_) hb); have n4_ := Aside0.mk (blk_below (g := gb197) (o := .cells #[.int .i64 t194, .int .i64 t195] 27 (0, 0)) (zq7_) hb); have n5_ := Aside0.mk (blk_below (g := gb201) (o := .cells #[.int .i64 t198, .int .i64 t199] 27 (0, 0)) (zq8_) hb); have n6_ := Aside0.mk (below_step (zq12_) hb); have n7_ := Aside0.mk (hbox); have n8_ := Aside0.mk ((by rw [hg]; exact (below_size (zq12_)) : w.heap.size ≤ gb202)); have n9_ := Aside0.mk ((by rw [hg]; exact (below_size (zq12_)) : w.heap.size ≤ gb202)); have n10_ := Aside0.mk ((zq14_ : gb189 ≠ gb202)); have n11_ := Aside0.mk ((zq15_ : gb202 ≠ gb189)); have n12_ := Aside0.mk ((zq51_ : gb191 ≠ gb202)); have n13_ := Aside0.mk ((zq52_ : gb202 ≠ gb191)); have n14_ := Aside0.mk ((zq47_ : gb192 ≠ gb202)); have n15_ := Aside0.mk ((zq48_ : gb202 ≠ gb192)); have n16_ := Aside0.mk ((zq49_ : gb193 ≠ gb202)); have n17_ := Aside0.mk ((zq50_ : gb202 ≠ gb193)); have n18_ := Aside0.mk ((zq66_ : gb197 ≠ gb202)); have n19_ := Aside0.mk ((zq67_ : gb202 ≠ gb197)); have n20_ := Aside0.mk ((zq71_ : gb201 ≠ gb202)); have n21_ := Aside0.mk ((zq72_ : gb202 ≠ gb201)); clear BK189; clear BK191; clear BK192; clear BK193; clear BK197; clear BK201; clear HB; have BK189 := n0_; have BK191 := n1_; have BK192 := n2_; have BK193 := n3_; have BK197 := n4_; have BK201 := n5_; have HB := n6_; have BK202 := n7_; have GW202 := n8_; have GE202 := n9_; have NB189_202 := n10_; have NB202_189 := n11_; have NB191_202 := n12_; have NB202_191 := n13_; have NB192_202 := n14_; have NB202_192 := n15_; have NB193_202 := n16_; have NB202_193 := n17_; have NB197_202 := n18_; have NB202_197 := n19_; have NB201_202 := n20_; have NB202_201 := n21_; clear n0_ n1_ n2_ n3_ n4_ n5_ n6_ n7_ n8_ n9_ n10_ n11_ n12_ n13_ n14_ n15_ n16_ n17_ n18_ n19_ n20_ n21_; clear hb hbox hg; have hnb94 := NB202_189.out; have hnc94 := NB189_202.out; have hnb95 := NB202_191.out; have hnc95 := NB191_202.out; have hnb96 := NB202_192.out; have hnc96 := NB192_202.out; have hnb97 := NB202_193.out; have hnc97 := NB193_202.out; have hnb98 := NB202_197.out; have hnc98 := NB197_202.out; have hnb99 := NB202_201.out; have hnc99 := NB201_202.out; have hcz100_0 : w93.cell? ⟨gb202, 0, none⟩ = some (.int .i64 0) := (blk_cell BK202.out 0).trans rfl; have hcz100_1 : w93.cell? ⟨gb202, 1, none⟩ = some (.int .i64 0) := (blk_cell BK202.out 1).trans rfl; have hcz100_2 : w93.cell? ⟨gb202, 2, none⟩ = some (.bool false) := (blk_cell BK202.out 2).trans rfl; have hfz100_0 := blk_frozen BK202.out 0; have hfz100_1 := blk_frozen BK202.out 1; have hfz100_2 := blk_frozen BK202.out 2))
  have n0_ : Aside0 ((((w93.setCell ⟨gb202, 0, none⟩ (.int .i64 0)).setCell ⟨gb202, 1, none⟩ (.int .i64 0)).setCell ⟨gb202, 2, none⟩ (.bool true)).heap[gb189]? = some (.cells #[.int .i64 a0_0, .int .i64 a0_1, .int .i64 a0_2, .int .i64 a0_3, .bool a0_4, .int .u8 a0_5, .int .u8 a0_6, .slice A0_7 l0_7.length c0_7, .slice A0_8 l0_8.length c0_8] 47 (0, 0))) := ⟨zq35_⟩
  have n1_ : Aside0 ((((w93.setCell ⟨gb202, 0, none⟩ (.int .i64 0)).setCell ⟨gb202, 1, none⟩ (.int .i64 0)).setCell ⟨gb202, 2, none⟩ (.bool true)).heap[gb191]? = some (.cells #[.int .i64 a0_0, .int .i64 a0_1] 23 (0, 0))) := ⟨zq34_⟩
  have n2_ : Aside0 ((((w93.setCell ⟨gb202, 0, none⟩ (.int .i64 0)).setCell ⟨gb202, 1, none⟩ (.int .i64 0)).setCell ⟨gb202, 2, none⟩ (.bool true)).heap[gb192]? = some (.cells #[.int .i64 a0_2, .int .i64 a0_3, .bool a0_4] 25 (0, 0))) := ⟨zq33_⟩
  have n3_ : Aside0 ((((w93.setCell ⟨gb202, 0, none⟩ (.int .i64 0)).setCell ⟨gb202, 1, none⟩ (.int .i64 0)).setCell ⟨gb202, 2, none⟩ (.bool true)).heap[gb193]? = some (.cells #[.int .i64 x194000_17, .int .i64 x194001_17, .bool x194002_17] 25 (0, 0))) := ⟨zq32_⟩
  have n4_ : Aside0 ((((w93.setCell ⟨gb202, 0, none⟩ (.int .i64 0)).setCell ⟨gb202, 1, none⟩ (.int .i64 0)).setCell ⟨gb202, 2, none⟩ (.bool true)).heap[gb197]? = some (.cells #[.int .i64 t194, .int .i64 t195] 27 (0, 0))) := ⟨zq31_⟩
  have n5_ : Aside0 ((((w93.setCell ⟨gb202, 0, none⟩ (.int .i64 0)).setCell ⟨gb202, 1, none⟩ (.int .i64 0)).setCell ⟨gb202, 2, none⟩ (.bool true)).heap[gb201]? = some (.cells #[.int .i64 t198, .int .i64 t199] 27 (0, 0))) := ⟨zq30_⟩
  have n6_ : Aside0 ((((w93.setCell ⟨gb202, 0, none⟩ (.int .i64 0)).setCell ⟨gb202, 1, none⟩ (.int .i64 0)).setCell ⟨gb202, 2, none⟩ (.bool true)).heap[gb202]? = some (.cells #[.int .i64 0, .int .i64 0, .bool true] 25 (0, 0))) := ⟨zq27_⟩
  have n7_ : Aside0 (Below w.heap.size w (((w93.setCell ⟨gb202, 0, none⟩ (.int .i64 0)).setCell ⟨gb202, 1, none⟩ (.int .i64 0)).setCell ⟨gb202, 2, none⟩ (.bool true))) := ⟨zq18_⟩
  (try clear BK189)
  (try clear BK191)
  (try clear BK192)
  (try clear BK193)
  (try clear BK197)
  (try clear BK201)
  (try clear BK202)
  (try clear HB)
  generalize (((w93.setCell ⟨gb202, 0, none⟩ (.int .i64 0)).setCell ⟨gb202, 1, none⟩ (.int .i64 0)).setCell ⟨gb202, 2, none⟩ (.bool true)) = w101 at n0_ n1_ n2_ n3_ n4_ n5_ n6_ n7_ ⊢
  have BK189 := n0_
  have BK191 := n1_
  have BK192 := n2_
  have BK193 := n3_
  have BK197 := n4_
  have BK201 := n5_
  have BK202 := n6_
  have HB := n7_
  clear n0_ n1_ n2_ n3_ n4_ n5_ n6_ n7_
  have n0_ := Aside0.mk (blk_drew BK189.out)
  have n1_ := Aside0.mk (blk_drew BK191.out)
  have n2_ := Aside0.mk (blk_drew BK192.out)
  have n3_ := Aside0.mk (blk_drew BK193.out)
  have n4_ := Aside0.mk (blk_drew BK197.out)
  have n5_ := Aside0.mk (blk_drew BK201.out)
  have n6_ := Aside0.mk (blk_drew BK202.out)
  have n7_ := Aside0.mk (below_drew1 HB.out)
  clear BK189
  clear BK191
  clear BK192
  clear BK193
  clear BK197
  clear BK201
  clear BK202
  clear HB
  have BK189 := n0_
  have BK191 := n1_
  have BK192 := n2_
  have BK193 := n3_
  have BK197 := n4_
  have BK201 := n5_
  have BK202 := n6_
  have HB := n7_
  clear n0_ n1_ n2_ n3_ n4_ n5_ n6_ n7_
  refine start_ (n := 15) (S := fun w' => w'.cell? ⟨gb202, 0, none⟩ = some (.int .i64 0) ∧ w'.cell? ⟨gb202, 1, none⟩ = some (.int .i64 0) ∧ w'.cell? ⟨gb202, 2, none⟩ = some (.bool true)) (ds := []) #[false, false, false, false, false, false, false, false, false, false, false, false, false, false, false] (zq26_) rfl rfl ⟨(blk_cell BK202.out 0).trans rfl, (blk_cell BK202.out 1).trans rfl, (blk_cell BK202.out 2).trans rfl⟩ (fun hHeld => ?_); refine with_tabW lombardlaw14_StageWorse.tab13 lombardlaw14_StageWorse.bits13 (fun HT_ HW_ => ?_)
  generalize w101.drew = w102 at BK189 BK191 BK192 BK193 BK197 BK201 BK202 HB hHeld ⊢
  refine pure_ (i := 1) (N := some 89) (v := ?_) (a' := ?_) #[false, true, false, false, false, false, false, false, false, false, false, false, false, false, false] rfl rfl (any_of HT_.out (zq26_)) (fun _ _ _ h => h) (Or.inl ⟨by rfl, ?_⟩) ?_ ?_
  rotate_left
  · intro w'
    go_simp
    with_reducible rfl
  rotate_left
  · simp only [Act.put, List.setIfInBounds_toArray, List.set_cons_zero, List.set_cons_succ, i64_w, i32_w]
    rfl
  exact arm0_1
  ) : P := h
set_option maxRecDepth 100000 in
theorem arm1_6 {P : Prop} (h : P := by
  refine hK.out _ _ ⟨(blk_cell BK202.out 0).trans rfl, (blk_cell BK202.out 1).trans rfl, (blk_cell BK202.out 2).trans rfl⟩ (fun hHeld => ?_)
  clear hK K
  refine norm_ (a' := ?_) ?_ ?_
  rotate_left
  · show Act.put _ (some 97) _ = _
    simp only [Act.put, List.setIfInBounds_toArray, List.set_cons_zero, List.set_cons_succ, i64_w, i32_w]
    rfl
  refine pure_ (i := 10) (N := some 87) (v := ?_) (a' := ?_) #[true, true, true, true, true, true, true, true, true, true, true, false, false, false, false] rfl rfl (any_of HT_.out (zq26_)) (fun _ _ _ h => h) (Or.inl ⟨by rfl, ?_⟩) ?_ ?_
  rotate_left
  · intro w'
    go_simp
    with_reducible rfl
  rotate_left
  · simp only [Act.put, List.setIfInBounds_toArray, List.set_cons_zero, List.set_cons_succ, i64_w, i32_w]
    rfl
  refine pure_ (i := 11) (N := some 98) (v := ?_) (a' := ?_) #[true, true, true, true, true, true, true, true, true, true, true, true, false, false, false] rfl rfl (any_of HT_.out (zq26_)) (fun _ _ _ h => h) (Or.inl ⟨by rfl, ?_⟩) ?_ ?_
  rotate_left
  · intro w'
    go_simp
    with_reducible rfl
  rotate_left
  · simp only [Act.put, List.setIfInBounds_toArray, List.set_cons_zero, List.set_cons_succ, i64_w, i32_w]
    rfl
  refine pure_ (i := 12) (N := some 99) (v := ?_) (a' := ?_) #[true, true, true, true, true, true, true, true, true, true, true, true, true, false, false] rfl rfl (any_of HT_.out (zq26_)) (fun _ _ _ h => h) (Or.inl ⟨by rfl, ?_⟩) ?_ ?_
  rotate_left
  · intro w'
    go_simp
    with_reducible rfl
  rotate_left
  · simp only [Act.put, List.setIfInBounds_toArray, List.set_cons_zero, List.set_cons_succ, i64_w, i32_w]
    rfl
  refine pure_ (i := 13) (N := some 15) (v := ?_) (a' := ?_) #[true, true, true, true, true, true, true, true, true, true, true, true, true, true, false] rfl rfl (any_of HT_.out (zq26_)) (fun _ _ _ h => h) (Or.inl ⟨by rfl, ?_⟩) ?_ ?_
  rotate_left
  · intro w'
    go_simp
    with_reducible rfl
  rotate_left
  · simp only [Act.put, List.setIfInBounds_toArray, List.set_cons_zero, List.set_cons_succ, i64_w, i32_w]
    rfl
  refine pure_ (i := 14) (N := some 16) (v := ?_) (a' := ?_) #[true, true, true, true, true, true, true, true, true, true, true, true, true, true, true] rfl rfl (any_of HT_.out (zq26_)) (fun _ _ _ h => h) (Or.inl ⟨by rfl, ?_⟩) ?_ ?_
  rotate_left
  · intro w'
    go_simp
    with_reducible rfl
  rotate_left
  · simp only [Act.put, List.setIfInBounds_toArray, List.set_cons_zero, List.set_cons_succ, i64_w, i32_w]
    rfl
  refine done_ (done_of HT_.out (zq26_)) ?_
  have hcz150_0 : w149.cell? ⟨gb202, 0, none⟩ = some (.int .i64 0) := (blk_cell BK202.out 0).trans rfl
  have hcz150_1 : w149.cell? ⟨gb202, 1, none⟩ = some (.int .i64 0) := (blk_cell BK202.out 1).trans rfl
  have hcz150_2 : w149.cell? ⟨gb202, 2, none⟩ = some (.bool true) := (blk_cell BK202.out 2).trans rfl
  have hfz150_0 := blk_frozen BK202.out 0
  have hfz150_1 := blk_frozen BK202.out 1
  have hfz150_2 := blk_frozen BK202.out 2
  try go_wp2_with (first | ((with_reducible refine gate_dst (N := 102) rfl ?_); (try (refine gate_guard (by rfl) ?_; dsimp only)); refine Kd.R_lit k25 _ 25 ?hg (N := 102) ?hd (xs := ([(⟨0, 0, true⟩ : S25)] : List (S25))) (inner := [.int .i64 0, .int .i64 0, .bool true]) (ok := fun _ => True) (okp := fun _ => True) ?hr ?hp (fun _ hk => hk) trivial (Below.refl _ _) (Nat.le_refl _) (by simp) ?_; (case hd => rfl); (case hg => rfl); (case hr => first | (go_simp; done) | (go_simp; rfl)); (case hp => exact zq21_); intro v226 w151 ho152 hb hg_ hnew_; clear hg_ hnew_; (first | rw [← Ny225.out] at ho152 | (simp only [Int.reduceToNat] at ho152; rw [← Ny225.out] at ho152)); have n0_ := Aside0.mk (Kd.R_elder' (zq11_) (Kd.R_base ho152) hb); have n1_ := Aside0.mk (Kd.R_elder' (zq17_) (Kd.R_base ho152) hb); have n2_ := Aside0.mk (Kd.R_below (zq19_) hb); have n3_ := Aside0.mk (Kd.R_below (zq25_) hb); have n4_ := Aside0.mk (Kd.R_lower (Kd.R_newB (Kd.R_newB (Kd.R_newB (Kd.R_new' (Kd.R_new' ho152 (Kd.R_lt (zq11_))) (Kd.R_lt (zq17_))) (g := gb192) (o := .cells #[.int .i64 a0_2, .int .i64 a0_3, .bool a0_4] 25 (0, 0)) (zq2_)) (g := gb193) (o := .cells #[.int .i64 x194000_17, .int .i64 x194001_17, .bool x194002_17] 25 (0, 0)) (zq3_)) (g := gb202) (o := .cells #[.int .i64 0, .int .i64 0, .bool true] 25 (0, 0)) (zq5_)) zq73_); have n5_ := Aside0.mk (blk_below (g := gb189) (o := .cells #[.int .i64 a0_0, .int .i64 a0_1, .int .i64 a0_2, .int .i64 a0_3, .bool a0_4, .int .u8 a0_5, .int .u8 a0_6, .slice A0_7 l0_7.length c0_7, .slice A0_8 l0_8.length c0_8] 47 (0, 0)) (zq4_) hb); have n6_ := Aside0.mk (blk_below (g := gb191) (o := .cells #[.int .i64 a0_0, .int .i64 a0_1] 23 (0, 0)) (zq6_) hb); have n7_ := Aside0.mk (blk_below (g := gb192) (o := .cells #[.int .i64 a0_2, .int .i64 a0_3, .bool a0_4] 25 (0, 0)) (zq2_) hb); have n8_ := Aside0.mk (blk_below (g := gb193) (o := .cells #[.int .i64 x194000_17, .int .i64 x194001_17, .bool x194002_17] 25 (0, 0)) (zq3_) hb); have n9_ := Aside0.mk (blk_below (g := gb197) (o := .cells #[.int .i64 t194, .int .i64 t195] 27 (0, 0)) (zq7_) hb); have n10_ := Aside0.mk (blk_below (g := gb201) (o := .cells #[.int .i64 t198, .int .i64 t199] 27 (0, 0)) (zq8_) hb); have n11_ := Aside0.mk (blk_below (g := gb202) (o := .cells #[.int .i64 0, .int .i64 0, .bool true] 25 (0, 0)) (zq5_) hb); have n12_ := Aside0.mk (below_step (zq0_) hb); clear HO211; clear HO217; clear HO220; clear HO224; clear BK189; clear BK191; clear BK192; clear BK193; clear BK197; clear BK201; clear BK202; clear HB; have HO211 := n0_; have HO217 := n1_; have HO220 := n2_; have HO224 := n3_; have HO227 := n4_; have BK189 := n5_; have BK191 := n6_; have BK192 := n7_; have BK193 := n8_; have BK197 := n9_; have BK201 := n10_; have BK202 := n11_; have HB := n12_; clear n0_ n1_ n2_ n3_ n4_ n5_ n6_ n7_ n8_ n9_ n10_ n11_ n12_; clear hb ho152) | ((with_reducible refine gate_builtin (b := .append) (xs := #[.tmp 102, .tmp 103]) rfl ?_); (try (refine gate_guard (by rfl) ?_; dsimp only)); at_builtin; refine Kd.R_append_rows k25 (w0 := w) w.heap.size rfl (.tmp 102) (.tmp 103) 37 25 (.agg #[(.int .i64 0), (.int .i64 0), (.bool false)]) 24 rfl Try.underlying37 info25 rfl (zq43_) (by omega) v226 y225 l0_8 _ _ _ (fun k_ => some k_ ≠ (.slice Ao144 y209.length co144 : Value).ownBlock ∧ some k_ ≠ (.slice Ao146 y215.length co146 : Value).ownBlock ∧ k_ ≠ gb192 ∧ k_ ≠ gb193 ∧ k_ ≠ gb202) (fun _ => False) rfl rfl ?aO ?aR (fun _ _ h => h) (fun _ h => h.elim) ?aF ?aB ?aS ?aL ?_; (case aR => repeat (first | exact (Kd.C_below HR0_8.out HB.out) | (with_reducible refine Kd.C_alloc ?_ _) | (with_reducible refine Kd.C_drewN ?_ _) | (with_reducible refine Kd.C_drew ?_))); (case aB => exact (zq0_)); (case aF => exact zq9_); (case aO => exact (zq60_)); (case aS => exact zq73_); (case aL => have := LMc85.out; omega); intro v229 w153 ho hb hg hat; rw [← Ny228.out] at ho; have n0_ := Aside0.mk (blk_grown (g := gb189) (o := .cells #[.int .i64 a0_0, .int .i64 a0_1, .int .i64 a0_2, .int .i64 a0_3, .bool a0_4, .int .u8 a0_5, .int .u8 a0_6, .slice A0_7 l0_7.length c0_7, .slice A0_8 l0_8.length c0_8] 47 (0, 0)) (zq4_) hg (Kd.R_ne HO227.out BK189.out (zq43_))); have n1_ := Aside0.mk (blk_grown (g := gb191) (o := .cells #[.int .i64 a0_0, .int .i64 a0_1] 23 (0, 0)) (zq6_) hg (Kd.R_ne HO227.out BK191.out (zq43_))); have n2_ := Aside0.mk (blk_grown (g := gb192) (o := .cells #[.int .i64 a0_2, .int .i64 a0_3, .bool a0_4] 25 (0, 0)) (zq2_) hg (Kd.R_away HO227.out (fun _ hk => hk.1.1.2))); have n3_ := Aside0.mk (blk_grown (g := gb193) (o := .cells #[.int .i64 x194000_17, .int .i64 x194001_17, .bool x194002_17] 25 (0, 0)) (zq3_) hg (Kd.R_away HO227.out (fun _ hk => hk.1.2))); have n4_ := Aside0.mk (blk_grown (g := gb197) (o := .cells #[.int .i64 t194, .int .i64 t195] 27 (0, 0)) (zq7_) hg (Kd.R_ne HO227.out BK197.out (zq43_))); have n5_ := Aside0.mk (blk_grown (g := gb201) (o := .cells #[.int .i64 t198, .int .i64 t199] 27 (0, 0)) (zq8_) hg (Kd.R_ne HO227.out BK201.out (zq43_))); have n6_ := Aside0.mk (blk_grown (g := gb202) (o := .cells #[.int .i64 0, .int .i64 0, .bool true] 25 (0, 0)) (zq5_) hg (Kd.R_away HO227.out (fun _ hk => hk.2))); have n7_ := Aside0.mk (Kd.R_after (ok := (fun k_ => some k_ ≠ (.slice Ao146 y215.length co146 : Value).ownBlock ∧ k_ ≠ gb192 ∧ k_ ≠ gb193 ∧ k_ ≠ gb202)) (zq61_) hg hat); have n8_ := Aside0.mk (Kd.R_after (ok := (fun k_ => some k_ ≠ (.slice Ao144 y209.length co144 : Value).ownBlock ∧ k_ ≠ gb192 ∧ k_ ≠ gb193 ∧ k_ ≠ gb202)) (zq17_) hg hat); have n9_ := Aside0.mk (Kd.R_over' (zq19_) (Kd.R_typed (zq54_)) (zq43_) hg); have n10_ := Aside0.mk (Kd.R_over' (zq25_) (Kd.R_typed (zq54_)) (zq43_) hg); have n11_ := Aside0.mk (hb); have n12_ := Aside0.mk (ho); clear BK189; clear BK191; clear BK192; clear BK193; clear BK197; clear BK201; clear BK202; clear HO211; clear HO217; clear HO220; clear HO224; clear HB; clear HO227; have BK189 := n0_; have BK191 := n1_; have BK192 := n2_; have BK193 := n3_; have BK197 := n4_; have BK201 := n5_; have BK202 := n6_; have HO211 := n7_; have HO217 := n8_; have HO220 := n9_; have HO224 := n10_; have HB := n11_; have HO230 := n12_; clear n0_ n1_ n2_ n3_ n4_ n5_ n6_ n7_ n8_ n9_ n10_ n11_ n12_; clear ho hb hg hat; obtain ⟨Ao154, co154, eo154⟩ := Kd.R_slice HO230.out; subst eo154) | ((with_reducible refine gate_callee (f := 14) rfl ?_); refine goesL_ (some 105) rfl rfl Try.func14 (zq26_) rfl #[.slice Ao154 y228.length co154] rfl (zq16_) ?_; (with_reducible refine (lombardlaw14_to.calls kj39 _ _ y228 t231 _ ?side1 ?side2 A86.out).mono ?_); (case side1 => repeat (first | exact (Kd.R_reads' HO230.out).2.2 | (with_reducible refine Kd.C_alloc ?_ _) | (with_reducible refine Kd.C_drewN ?_ _) | (with_reducible refine Kd.C_drew ?_))); (case side2 => exact (Kd.R_reads' HO230.out).2.1); rintro e w155 ⟨v232, rfl, ho0, hb⟩; refine ⟨_, rfl, ?_⟩; have n0_ := Aside0.mk (Kd.R_below (zq11_) hb); have n1_ := Aside0.mk (Kd.R_below (zq17_) hb); have n2_ := Aside0.mk (Kd.R_elder' (zq19_) (Kd.R_base ho0) hb); have n3_ := Aside0.mk (Kd.R_below (zq25_) hb); have n4_ := Aside0.mk (Kd.R_below (zq53_) hb); have n5_ := Aside0.mk (Kd.R_lower (Kd.R_new' ho0 (Kd.R_lt (zq19_))) zq73_); have n6_ := Aside0.mk (blk_below (g := gb189) (o := .cells #[.int .i64 a0_0, .int .i64 a0_1, .int .i64 a0_2, .int .i64 a0_3, .bool a0_4, .int .u8 a0_5, .int .u8 a0_6, .slice A0_7 l0_7.length c0_7, .slice A0_8 l0_8.length c0_8] 47 (0, 0)) (zq4_) hb); have n7_ := Aside0.mk (blk_below (g := gb191) (o := .cells #[.int .i64 a0_0, .int .i64 a0_1] 23 (0, 0)) (zq6_) hb); have n8_ := Aside0.mk (blk_below (g := gb192) (o := .cells #[.int .i64 a0_2, .int .i64 a0_3, .bool a0_4] 25 (0, 0)) (zq2_) hb); have n9_ := Aside0.mk (blk_below (g := gb193) (o := .cells #[.int .i64 x194000_17, .int .i64 x194001_17, .bool x194002_17] 25 (0, 0)) (zq3_) hb); have n10_ := Aside0.mk (blk_below (g := gb197) (o := .cells #[.int .i64 t194, .int .i64 t195] 27 (0, 0)) (zq7_) hb); have n11_ := Aside0.mk (blk_below (g := gb201) (o := .cells #[.int .i64 t198, .int .i64 t199] 27 (0, 0)) (zq8_) hb); have n12_ := Aside0.mk (blk_below (g := gb202) (o := .cells #[.int .i64 0, .int .i64 0, .bool true] 25 (0, 0)) (zq5_) hb); have n13_ := Aside0.mk (below_step (zq0_) hb); clear HO211; clear HO217; clear HO220; clear HO224; clear HO230; clear BK189; clear BK191; clear BK192; clear BK193; clear BK197; clear BK201; clear BK202; clear HB; have HO211 := n0_; have HO217 := n1_; have HO220 := n2_; have HO224 := n3_; have HO230 := n4_; have HO233 := n5_; have BK189 := n6_; have BK191 := n7_; have BK192 := n8_; have BK193 := n9_; have BK197 := n10_; have BK201 := n11_; have BK202 := n12_; have HB := n13_; clear n0_ n1_ n2_ n3_ n4_ n5_ n6_ n7_ n8_ n9_ n10_ n11_ n12_ n13_; (try clear hb); (try clear hb2); (try clear hk); (try clear hi); (try clear ho0); obtain ⟨Ao156, co156, eo156⟩ := Kd.R_slice HO233.out; subst eo156) | ((with_reducible refine gate_callee (f := 13) rfl ?_); refine goesL_ (some 106) rfl rfl Try.func13 (zq26_) rfl #[.slice Ao156 t231.length co156] rfl (zq16_) ?_; (with_reducible refine (stage_Run.calls kj39 _ _ t231 t234 t235 _ ?side1 ?side2 A87.out).mono ?_); (case side1 => repeat (first | exact (Kd.R_reads' HO233.out).2.2 | (with_reducible refine Kd.C_alloc ?_ _) | (with_reducible refine Kd.C_drewN ?_ _) | (with_reducible refine Kd.C_drew ?_))); (case side2 => exact (Kd.R_reads' HO233.out).2.1); rintro e w157 ⟨v236, rfl, ho0, hb⟩; refine ⟨_, rfl, ?_⟩; have n0_ := Aside0.mk (Kd.R_below (zq11_) hb); have n1_ := Aside0.mk (Kd.R_below (zq17_) hb); have n2_ := Aside0.mk (Kd.R_below (zq19_) hb); have n3_ := Aside0.mk (Kd.R_elder' (zq25_) (Kd.R_base ho0) hb); have n4_ := Aside0.mk (Kd.R_below (zq53_) hb); have n5_ := Aside0.mk (Kd.R_below (zq74_) hb); have n6_ := Aside0.mk (Kd.R_lower (Kd.R_new' ho0 (Kd.R_lt (zq25_))) zq73_); have n7_ := Aside0.mk (blk_below (g := gb189) (o := .cells #[.int .i64 a0_0, .int .i64 a0_1, .int .i64 a0_2, .int .i64 a0_3, .bool a0_4, .int .u8 a0_5, .int .u8 a0_6, .slice A0_7 l0_7.length c0_7, .slice A0_8 l0_8.length c0_8] 47 (0, 0)) (zq4_) hb); have n8_ := Aside0.mk (blk_below (g := gb191) (o := .cells #[.int .i64 a0_0, .int .i64 a0_1] 23 (0, 0)) (zq6_) hb); have n9_ := Aside0.mk (blk_below (g := gb192) (o := .cells #[.int .i64 a0_2, .int .i64 a0_3, .bool a0_4] 25 (0, 0)) (zq2_) hb); have n10_ := Aside0.mk (blk_below (g := gb193) (o := .cells #[.int .i64 x194000_17, .int .i64 x194001_17, .bool x194002_17] 25 (0, 0)) (zq3_) hb); have n11_ := Aside0.mk (blk_below (g := gb197) (o := .cells #[.int .i64 t194, .int .i64 t195] 27 (0, 0)) (zq7_) hb); have n12_ := Aside0.mk (blk_below (g := gb201) (o := .cells #[.int .i64 t198, .int .i64 t199] 27 (0, 0)) (zq8_) hb); have n13_ := Aside0.mk (blk_below (g := gb202) (o := .cells #[.int .i64 0, .int .i64 0, .bool true] 25 (0, 0)) (zq5_) hb); have n14_ := Aside0.mk (below_step (zq0_) hb); clear HO211; clear HO217; clear HO220; clear HO224; clear HO230; clear HO233; clear BK189; clear BK191; clear BK192; clear BK193; clear BK197; clear BK201; clear BK202; clear HB; have HO211 := n0_; have HO217 := n1_; have HO220 := n2_; have HO224 := n3_; have HO230 := n4_; have HO233 := n5_; have HO237 := n6_; have BK189 := n7_; have BK191 := n8_; have BK192 := n9_; have BK193 := n10_; have BK197 := n11_; have BK201 := n12_; have BK202 := n13_; have HB := n14_; clear n0_ n1_ n2_ n3_ n4_ n5_ n6_ n7_ n8_ n9_ n10_ n11_ n12_ n13_ n14_; (try clear hb); (try clear hb2); (try clear hk); (try clear hi); (try clear ho0)))
  go_ret
  exact ⟨zq56_, zq18_⟩
  ) : P := h
set_option maxRecDepth 100000 in
theorem arm1_5 {P : Prop} (h : P := by
  (try clear hk)
  (try clear hi)
  (try clear ho0)
  obtain ⟨Ao148, co148, eo148⟩ := Kd.R_slice HO220.out
  (first | subst eo148 | (injection eo148 with f1_ f2_ f3_; have f4_ := f1_.symm; have f5_ := f3_.symm; clear f1_ f2_ f3_; subst f4_; subst f5_))
  refine hK.out _ _ ⟨(blk_cell BK202.out 0).trans rfl, (blk_cell BK202.out 1).trans rfl, (blk_cell BK202.out 2).trans rfl⟩ (fun hHeld => ?_)
  clear hK K
  refine norm_ (a' := ?_) ?_ ?_
  rotate_left
  · show Act.put _ (some 96) _ = _
    simp only [Act.put, List.setIfInBounds_toArray, List.set_cons_zero, List.set_cons_succ, i64_w, i32_w]
    rfl
  refine one_ (i := 9) (N := some 97) #[true, true, true, true, true, true, true, true, true, true, false, false, false, false, false] rfl rfl (one_of HT_.out (zq26_)) (zq43_) (fun K hK => ?_)
  refine goes_ Try.func13 (zq26_) rfl #[.slice Ao148 t218.length co148] (by rfl) rfl rfl (zq16_) ?_
  with_reducible refine (stage_Run.calls kj39 _ _ t218 t221 t222 _ ?side1 ?side2 A84.out).mono ?_
  (case side1 => repeat (first | exact (Kd.R_reads' HO220.out).2.2 | (with_reducible refine Kd.C_alloc ?_ _) | (with_reducible refine Kd.C_drewN ?_ _) | (with_reducible refine Kd.C_drew ?_)))
  (case side2 => exact (Kd.R_reads' HO220.out).2.1)
  rintro e w149 ⟨v223, rfl, ho0, hb⟩
  refine ⟨_, rfl, ?_⟩
  have n0_ := Aside0.mk (Kd.R_below (zq11_) hb)
  have n1_ := Aside0.mk (Kd.R_below (zq17_) hb)
  have n2_ := Aside0.mk (Kd.R_below (zq19_) hb)
  have n3_ := Aside0.mk (Kd.R_lower ho0 zq73_)
  have n4_ := Aside0.mk (blk_below (g := gb189) (o := .cells #[.int .i64 a0_0, .int .i64 a0_1, .int .i64 a0_2, .int .i64 a0_3, .bool a0_4, .int .u8 a0_5, .int .u8 a0_6, .slice A0_7 l0_7.length c0_7, .slice A0_8 l0_8.length c0_8] 47 (0, 0)) (zq4_) hb)
  have n5_ := Aside0.mk (blk_below (g := gb191) (o := .cells #[.int .i64 a0_0, .int .i64 a0_1] 23 (0, 0)) (zq6_) hb)
  have n6_ := Aside0.mk (blk_below (g := gb192) (o := .cells #[.int .i64 a0_2, .int .i64 a0_3, .bool a0_4] 25 (0, 0)) (zq2_) hb)
  have n7_ := Aside0.mk (blk_below (g := gb193) (o := .cells #[.int .i64 x194000_17, .int .i64 x194001_17, .bool x194002_17] 25 (0, 0)) (zq3_) hb)
  have n8_ := Aside0.mk (blk_below (g := gb197) (o := .cells #[.int .i64 t194, .int .i64 t195] 27 (0, 0)) (zq7_) hb)
  have n9_ := Aside0.mk (blk_below (g := gb201) (o := .cells #[.int .i64 t198, .int .i64 t199] 27 (0, 0)) (zq8_) hb)
  have n10_ := Aside0.mk (blk_below (g := gb202) (o := .cells #[.int .i64 0, .int .i64 0, .bool true] 25 (0, 0)) (zq5_) hb)
  have n11_ := Aside0.mk (below_step (zq0_) hb)
  clear HO211
  clear HO217
  clear HO220
  clear BK189
  clear BK191
  clear BK192
  clear BK193
  clear BK197
  clear BK201
  clear BK202
  clear HB
  have HO211 := n0_
  have HO217 := n1_
  have HO220 := n2_
  have HO224 := n3_
  have BK189 := n4_
  have BK191 := n5_
  have BK192 := n6_
  have BK193 := n7_
  have BK197 := n8_
  have BK201 := n9_
  have BK202 := n10_
  have HB := n11_
  clear n0_ n1_ n2_ n3_ n4_ n5_ n6_ n7_ n8_ n9_ n10_ n11_
  (try clear hb)
  (try clear hb2)
  (try clear hk)
  (try clear hi)
  (try clear ho0)
  exact arm1_6
  ) : P := h
set_option maxRecDepth 100000 in
theorem arm1_4 {P : Prop} (h : P := by
  have BK193 := n3_
  have BK197 := n4_
  have BK201 := n5_
  have BK202 := n6_
  have HO211 := n7_
  have HB := n8_
  have HO217 := n9_
  clear n0_ n1_ n2_ n3_ n4_ n5_ n6_ n7_ n8_ n9_
  clear ho hb hg hat
  obtain ⟨Ao146, co146, eo146⟩ := Kd.R_slice HO217.out
  (first | subst eo146 | (injection eo146 with f1_ f2_ f3_; have f4_ := f1_.symm; have f5_ := f3_.symm; clear f1_ f2_ f3_; subst f4_; subst f5_))
  refine hK.out _ _ ⟨(blk_cell BK202.out 0).trans rfl, (blk_cell BK202.out 1).trans rfl, (blk_cell BK202.out 2).trans rfl⟩ (fun hHeld => ?_)
  clear hK K
  refine norm_ (a' := ?_) ?_ ?_
  rotate_left
  · show Act.put _ (some 95) _ = _
    simp only [Act.put, List.setIfInBounds_toArray, List.set_cons_zero, List.set_cons_succ, i64_w, i32_w]
    rfl
  refine one_ (i := 8) (N := some 96) #[true, true, true, true, true, true, true, true, true, false, false, false, false, false, false] rfl rfl (one_of HT_.out (zq26_)) (zq43_) (fun K hK => ?_)
  refine goes_ Try.func14 (zq26_) rfl #[.slice Ao146 y215.length co146] (by rfl) rfl rfl (zq16_) ?_
  with_reducible refine (lombardlaw14_to.calls kj39 _ _ y215 t218 _ ?side1 ?side2 A83.out).mono ?_
  (case side1 => repeat (first | exact (Kd.R_reads' HO217.out).2.2 | (with_reducible refine Kd.C_alloc ?_ _) | (with_reducible refine Kd.C_drewN ?_ _) | (with_reducible refine Kd.C_drew ?_)))
  (case side2 => exact (Kd.R_reads' HO217.out).2.1)
  rintro e w147 ⟨v219, rfl, ho0, hb⟩
  refine ⟨_, rfl, ?_⟩
  have n0_ := Aside0.mk (Kd.R_below (zq11_) hb)
  have n1_ := Aside0.mk (Kd.R_below (zq17_) hb)
  have n2_ := Aside0.mk (Kd.R_lower ho0 zq73_)
  have n3_ := Aside0.mk (blk_below (g := gb189) (o := .cells #[.int .i64 a0_0, .int .i64 a0_1, .int .i64 a0_2, .int .i64 a0_3, .bool a0_4, .int .u8 a0_5, .int .u8 a0_6, .slice A0_7 l0_7.length c0_7, .slice A0_8 l0_8.length c0_8] 47 (0, 0)) (zq4_) hb)
  have n4_ := Aside0.mk (blk_below (g := gb191) (o := .cells #[.int .i64 a0_0, .int .i64 a0_1] 23 (0, 0)) (zq6_) hb)
  have n5_ := Aside0.mk (blk_below (g := gb192) (o := .cells #[.int .i64 a0_2, .int .i64 a0_3, .bool a0_4] 25 (0, 0)) (zq2_) hb)
  have n6_ := Aside0.mk (blk_below (g := gb193) (o := .cells #[.int .i64 x194000_17, .int .i64 x194001_17, .bool x194002_17] 25 (0, 0)) (zq3_) hb)
  have n7_ := Aside0.mk (blk_below (g := gb197) (o := .cells #[.int .i64 t194, .int .i64 t195] 27 (0, 0)) (zq7_) hb)
  have n8_ := Aside0.mk (blk_below (g := gb201) (o := .cells #[.int .i64 t198, .int .i64 t199] 27 (0, 0)) (zq8_) hb)
  have n9_ := Aside0.mk (blk_below (g := gb202) (o := .cells #[.int .i64 0, .int .i64 0, .bool true] 25 (0, 0)) (zq5_) hb)
  have n10_ := Aside0.mk (below_step (zq0_) hb)
  clear HO211
  clear HO217
  clear BK189
  clear BK191
  clear BK192
  clear BK193
  clear BK197
  clear BK201
  clear BK202
  clear HB
  have HO211 := n0_
  have HO217 := n1_
  have HO220 := n2_
  have BK189 := n3_
  have BK191 := n4_
  have BK192 := n5_
  have BK193 := n6_
  have BK197 := n7_
  have BK201 := n8_
  have BK202 := n9_
  have HB := n10_
  clear n0_ n1_ n2_ n3_ n4_ n5_ n6_ n7_ n8_ n9_ n10_
  (try clear hb)
  (try clear hb2)
  exact arm1_5
  ) : P := h
set_option maxRecDepth 100000 in
theorem arm1_3 {P : Prop} (h : P := by
  clear BK192
  clear BK193
  clear BK197
  clear BK201
  clear BK202
  clear HO211
  clear HB
  clear HO208
  have BK189 := n0_
  have BK191 := n1_
  have BK192 := n2_
  have BK193 := n3_
  have BK197 := n4_
  have BK201 := n5_
  have BK202 := n6_
  have HO211 := n7_
  have HB := n8_
  have HO214 := n9_
  clear n0_ n1_ n2_ n3_ n4_ n5_ n6_ n7_ n8_ n9_
  clear ho hb hg hat
  refine hK.out _ _ ⟨(blk_cell BK202.out 0).trans rfl, (blk_cell BK202.out 1).trans rfl, (blk_cell BK202.out 2).trans rfl⟩ (fun hHeld => ?_)
  clear hK K
  refine norm_ (a' := ?_) ?_ ?_
  rotate_left
  · show Act.put _ (some 93) _ = _
    simp only [Act.put, List.setIfInBounds_toArray, List.set_cons_zero, List.set_cons_succ, i64_w, i32_w]
    rfl
  refine one_ (i := 7) (N := some 95) #[true, true, true, true, true, true, true, true, false, false, false, false, false, false, false] rfl rfl (one_of HT_.out (zq26_)) (zq43_) (fun K hK => ?_)
  refine Kd.R_append_rows_step k25 (w0 := w) w.heap.size (by rfl) (.tmp 93) (.tmp 94) 37 25 (.agg #[(.int .i64 0), (.int .i64 0), (.bool false)]) 24 rfl Try.underlying37 info25 rfl (zq43_) (by omega) v213 y212 l0_8 _ _ _ (fun k_ => some k_ ≠ (.slice Ao144 y209.length co144 : Value).ownBlock ∧ k_ ≠ gb192 ∧ k_ ≠ gb193 ∧ k_ ≠ gb202) (fun _ => False) rfl rfl ?aO ?aR (fun _ _ h => h) (fun _ h => h.elim) ?aF ?aB ?aS ?aL ?_
  (case aR => repeat (first | exact (Kd.C_below HR0_8.out HB.out) | (with_reducible refine Kd.C_alloc ?_ _) | (with_reducible refine Kd.C_drewN ?_ _) | (with_reducible refine Kd.C_drew ?_)))
  (case aB => exact (zq0_))
  (case aF => exact zq1_)
  (case aO => exact (zq75_))
  (case aS => exact zq73_)
  (case aL => have := LMc82.out; omega)
  intro v216 w145 ho hb hg hat
  rw [← Ny215.out] at ho
  have n0_ := Aside0.mk (blk_grown (g := gb189) (o := .cells #[.int .i64 a0_0, .int .i64 a0_1, .int .i64 a0_2, .int .i64 a0_3, .bool a0_4, .int .u8 a0_5, .int .u8 a0_6, .slice A0_7 l0_7.length c0_7, .slice A0_8 l0_8.length c0_8] 47 (0, 0)) (zq4_) hg (Kd.R_ne HO214.out BK189.out (zq43_)))
  have n1_ := Aside0.mk (blk_grown (g := gb191) (o := .cells #[.int .i64 a0_0, .int .i64 a0_1] 23 (0, 0)) (zq6_) hg (Kd.R_ne HO214.out BK191.out (zq43_)))
  have n2_ := Aside0.mk (blk_grown (g := gb192) (o := .cells #[.int .i64 a0_2, .int .i64 a0_3, .bool a0_4] 25 (0, 0)) (zq2_) hg (Kd.R_away HO214.out (fun _ hk => hk.2.1)))
  have n3_ := Aside0.mk (blk_grown (g := gb193) (o := .cells #[.int .i64 x194000_17, .int .i64 x194001_17, .bool x194002_17] 25 (0, 0)) (zq3_) hg (Kd.R_away HO214.out (fun _ hk => hk.2.2.1)))
  have n4_ := Aside0.mk (blk_grown (g := gb197) (o := .cells #[.int .i64 t194, .int .i64 t195] 27 (0, 0)) (zq7_) hg (Kd.R_ne HO214.out BK197.out (zq43_)))
  have n5_ := Aside0.mk (blk_grown (g := gb201) (o := .cells #[.int .i64 t198, .int .i64 t199] 27 (0, 0)) (zq8_) hg (Kd.R_ne HO214.out BK201.out (zq43_)))
  have n6_ := Aside0.mk (blk_grown (g := gb202) (o := .cells #[.int .i64 0, .int .i64 0, .bool true] 25 (0, 0)) (zq5_) hg (Kd.R_away HO214.out (fun _ hk => hk.2.2.2)))
  have n7_ := Aside0.mk (Kd.R_after (ok := (fun k_ => k_ ≠ gb192 ∧ k_ ≠ gb193 ∧ k_ ≠ gb202)) (zq11_) hg hat)
  have n8_ := Aside0.mk (hb)
  have n9_ := Aside0.mk (ho)
  clear BK189
  clear BK191
  clear BK192
  clear BK193
  clear BK197
  clear BK201
  clear BK202
  clear HO211
  clear HB
  clear HO214
  have BK189 := n0_
  have BK191 := n1_
  have BK192 := n2_
  exact arm1_4
  ) : P := h
set_option maxRecDepth 100000 in
theorem arm1_2 {P : Prop} (h : P := by
  rintro ⟨v204, v207, v210⟩ w142 ⟨hS_, h0_, h1_, h2_, h3_, h4_, h5_, h6_, h7_, h8_, h9_⟩
  have n0_ : Aside0 (Kd.R k25 25 w142 w.heap.size (fun k_ => some k_ ≠ (v210 : Value).ownBlock ∧ k_ ≠ gb192 ∧ k_ ≠ gb193 ∧ k_ ≠ gb202) v207 y206) := ⟨h0_⟩
  have n1_ : Aside0 (Kd.R k25 25 w142 w.heap.size (fun k_ => some k_ ≠ (v207 : Value).ownBlock ∧ k_ ≠ gb192 ∧ k_ ≠ gb193 ∧ k_ ≠ gb202) v210 y209) := ⟨h1_⟩
  have n2_ : Aside0 (w142.heap[gb189]? = some (.cells #[.int .i64 a0_0, .int .i64 a0_1, .int .i64 a0_2, .int .i64 a0_3, .bool a0_4, .int .u8 a0_5, .int .u8 a0_6, .slice A0_7 l0_7.length c0_7, .slice A0_8 l0_8.length c0_8] 47 (0, 0))) := ⟨h2_⟩
  have n3_ : Aside0 (w142.heap[gb191]? = some (.cells #[.int .i64 a0_0, .int .i64 a0_1] 23 (0, 0))) := ⟨h3_⟩
  have n4_ : Aside0 (w142.heap[gb192]? = some (.cells #[.int .i64 a0_2, .int .i64 a0_3, .bool a0_4] 25 (0, 0))) := ⟨h4_⟩
  have n5_ : Aside0 (w142.heap[gb193]? = some (.cells #[.int .i64 x194000_17, .int .i64 x194001_17, .bool x194002_17] 25 (0, 0))) := ⟨h5_⟩
  have n6_ : Aside0 (w142.heap[gb197]? = some (.cells #[.int .i64 t194, .int .i64 t195] 27 (0, 0))) := ⟨h6_⟩
  have n7_ : Aside0 (w142.heap[gb201]? = some (.cells #[.int .i64 t198, .int .i64 t199] 27 (0, 0))) := ⟨h7_⟩
  have n8_ : Aside0 (w142.heap[gb202]? = some (.cells #[.int .i64 0, .int .i64 0, .bool true] 25 (0, 0))) := ⟨h8_⟩
  have n9_ : Aside0 (Below w.heap.size w w142) := ⟨h9_⟩
  clear BK189
  clear BK191
  clear BK192
  clear BK193
  clear BK197
  clear BK201
  clear BK202
  clear HB
  clear h0_ h1_ h2_ h3_ h4_ h5_ h6_ h7_ h8_ h9_
  have HO208 := n0_
  have HO211 := n1_
  have BK189 := n2_
  have BK191 := n3_
  have BK192 := n4_
  have BK193 := n5_
  have BK197 := n6_
  have BK201 := n7_
  have BK202 := n8_
  have HB := n9_
  clear n0_ n1_ n2_ n3_ n4_ n5_ n6_ n7_ n8_ n9_
  have hHeld : w142.cell? ⟨gb202, 0, none⟩ = some (.int .i64 0) ∧ w142.cell? ⟨gb202, 1, none⟩ = some (.int .i64 0) ∧ w142.cell? ⟨gb202, 2, none⟩ = some (.bool true) := hS_
  obtain ⟨Ao144, co144, eo144⟩ := Kd.R_slice HO211.out
  (first | subst eo144 | (injection eo144 with f1_ f2_ f3_; have f4_ := f1_.symm; have f5_ := f3_.symm; clear f1_ f2_ f3_; subst f4_; subst f5_))
  refine norm_ (a' := ?_) ?_ ?_
  rotate_left
  · simp only [putAll, Act.put, List.setIfInBounds_toArray, List.set_cons_zero, List.set_cons_succ]
    rfl
  refine one_ (i := 5) (N := some 93) #[true, true, true, true, true, true, true, false, false, false, false, false, false, false, false] rfl rfl (one_of HT_.out (zq26_)) (zq43_) (fun K hK => ?_)
  refine Kd.R_append_rows_step k25 (w0 := w) w.heap.size (by rfl) (.tmp 90) (.tmp 92) 37 25 (.agg #[(.int .i64 0), (.int .i64 0), (.bool false)]) 24 rfl Try.underlying37 info25 rfl (zq43_) (by omega) v207 y206 y209 _ _ _ (fun k_ => some k_ ≠ (.slice Ao144 y209.length co144 : Value).ownBlock ∧ k_ ≠ gb192 ∧ k_ ≠ gb193 ∧ k_ ≠ gb202) (fun _ => False) rfl rfl ?aO ?aR (fun _ _ h => h) (fun _ h => h.elim) ?aF ?aB ?aS ?aL ?_
  (case aR => repeat (first | exact (Kd.R_reads' HO211.out).2.2 | (with_reducible refine Kd.C_alloc ?_ _) | (with_reducible refine Kd.C_drewN ?_ _) | (with_reducible refine Kd.C_drew ?_)))
  (case aB => exact (zq0_))
  (case aF => exact zq1_)
  (case aO => exact (zq39_))
  (case aS => exact zq73_)
  (case aL => have := LMc81.out; omega)
  intro v213 w143 ho hb hg hat
  rw [← Ny212.out] at ho
  have n0_ := Aside0.mk (blk_grown (g := gb189) (o := .cells #[.int .i64 a0_0, .int .i64 a0_1, .int .i64 a0_2, .int .i64 a0_3, .bool a0_4, .int .u8 a0_5, .int .u8 a0_6, .slice A0_7 l0_7.length c0_7, .slice A0_8 l0_8.length c0_8] 47 (0, 0)) (zq4_) hg (Kd.R_ne HO208.out BK189.out (zq43_)))
  have n1_ := Aside0.mk (blk_grown (g := gb191) (o := .cells #[.int .i64 a0_0, .int .i64 a0_1] 23 (0, 0)) (zq6_) hg (Kd.R_ne HO208.out BK191.out (zq43_)))
  have n2_ := Aside0.mk (blk_grown (g := gb192) (o := .cells #[.int .i64 a0_2, .int .i64 a0_3, .bool a0_4] 25 (0, 0)) (zq2_) hg (Kd.R_away HO208.out (fun _ hk => hk.2.1)))
  have n3_ := Aside0.mk (blk_grown (g := gb193) (o := .cells #[.int .i64 x194000_17, .int .i64 x194001_17, .bool x194002_17] 25 (0, 0)) (zq3_) hg (Kd.R_away HO208.out (fun _ hk => hk.2.2.1)))
  have n4_ := Aside0.mk (blk_grown (g := gb197) (o := .cells #[.int .i64 t194, .int .i64 t195] 27 (0, 0)) (zq7_) hg (Kd.R_ne HO208.out BK197.out (zq43_)))
  have n5_ := Aside0.mk (blk_grown (g := gb201) (o := .cells #[.int .i64 t198, .int .i64 t199] 27 (0, 0)) (zq8_) hg (Kd.R_ne HO208.out BK201.out (zq43_)))
  have n6_ := Aside0.mk (blk_grown (g := gb202) (o := .cells #[.int .i64 0, .int .i64 0, .bool true] 25 (0, 0)) (zq5_) hg (Kd.R_away HO208.out (fun _ hk => hk.2.2.2)))
  have n7_ := Aside0.mk (Kd.R_after (ok := (fun k_ => k_ ≠ gb192 ∧ k_ ≠ gb193 ∧ k_ ≠ gb202)) (zq68_) hg hat)
  have n8_ := Aside0.mk (hb)
  have n9_ := Aside0.mk (ho)
  clear BK189
  clear BK191
  exact arm1_3
  ) : P := h
set_option maxRecDepth 100000 in
theorem arm1_1 {P : Prop} (h : P := by
  refine pure_ (i := 6) (N := some 94) (v := ?_) (a' := ?_) #[false, true, false, false, false, false, true, false, false, false, false, false, false, false, false] rfl rfl (any_of HT_.out (zq26_)) (fun _ _ _ h => h) (Or.inl ⟨by rfl, ?_⟩) ?_ ?_
  rotate_left
  · intro w'
    go_simp
    with_reducible rfl
  rotate_left
  · simp only [Act.put, List.setIfInBounds_toArray, List.set_cons_zero, List.set_cons_succ, i64_w, i32_w]
    rfl
  refine take_ (i := 3) (N := some 91) (v := ?_) (a' := ?_) #[false, true, false, true, false, false, true, false, false, false, false, false, false, false, false] rfl rfl (take_ofW HT_.out HW_.out (zq26_)) (fun _ _ _ h => h) (Or.inl ⟨by rfl, ?_⟩) hHeld ?_ ?_
  rotate_left
  · rintro w' ⟨s0, s1, s2⟩
    go_simp
    with_reducible rfl
  rotate_left
  · simp only [Act.put, List.setIfInBounds_toArray, List.set_cons_zero, List.set_cons_succ, i64_w, i32_w]
    rfl
  refine join_ (σ := Value × Value × Value) 9 #[true, true, true, true, true, false, true, false, false, false, false, false, false, false, false] (fun s_ => [(88, s_.1), (90, s_.2.1), (92, s_.2.2)]) (fun s_ w' => (w'.cell? ⟨gb202, 0, none⟩ = some (.int .i64 0) ∧ w'.cell? ⟨gb202, 1, none⟩ = some (.int .i64 0) ∧ w'.cell? ⟨gb202, 2, none⟩ = some (.bool true)) ∧ (Kd.R k25 25 w' w.heap.size (fun k_ => some k_ ≠ (s_.2.2 : Value).ownBlock ∧ k_ ≠ gb192 ∧ k_ ≠ gb193 ∧ k_ ≠ gb202) s_.2.1 y206) ∧ (Kd.R k25 25 w' w.heap.size (fun k_ => some k_ ≠ (s_.2.1 : Value).ownBlock ∧ k_ ≠ gb192 ∧ k_ ≠ gb193 ∧ k_ ≠ gb202) s_.2.2 y209) ∧ (w'.heap[gb189]? = some (.cells #[.int .i64 a0_0, .int .i64 a0_1, .int .i64 a0_2, .int .i64 a0_3, .bool a0_4, .int .u8 a0_5, .int .u8 a0_6, .slice A0_7 l0_7.length c0_7, .slice A0_8 l0_8.length c0_8] 47 (0, 0))) ∧ (w'.heap[gb191]? = some (.cells #[.int .i64 a0_0, .int .i64 a0_1] 23 (0, 0))) ∧ (w'.heap[gb192]? = some (.cells #[.int .i64 a0_2, .int .i64 a0_3, .bool a0_4] 25 (0, 0))) ∧ (w'.heap[gb193]? = some (.cells #[.int .i64 x194000_17, .int .i64 x194001_17, .bool x194002_17] 25 (0, 0))) ∧ (w'.heap[gb197]? = some (.cells #[.int .i64 t194, .int .i64 t195] 27 (0, 0))) ∧ (w'.heap[gb201]? = some (.cells #[.int .i64 t198, .int .i64 t199] 27 (0, 0))) ∧ (w'.heap[gb202]? = some (.cells #[.int .i64 0, .int .i64 0, .bool true] 25 (0, 0))) ∧ (Below w.heap.size w w')) ?_ ?_
  rotate_left
  · intro hCont
    refine two_ (i := 0) (j := 4) (Ni := some 88) (Nj := some 92) #[true, true, false, true, false, false, true, false, false, false, false, false, false, false, false] #[false, true, false, true, true, false, true, false, false, false, false, false, false, false, false] rfl rfl rfl rfl (two_of HT_.out (zq26_)) (zq43_) (zq43_) (fun K hK => ?_) (fun K hK => ?_)
    · skip
      refine Kd.R_lit_step k25 _ 25 ?hg (N := 88) ?hd (xs := ([] : List (S25))) (inner := []) (ok := fun _ => True) (okp := fun _ => True) ?hr ?hp (fun _ hk => hk) trivial (Below.refl _ _) (Nat.le_refl _) (by simp) ?_; (case hd => rfl); (case hg => rfl); (case hr => first | (go_simp; done) | (go_simp; rfl)); (case hp => exact (Reps.none _ _))
      intro v204 w137 ho138 hb hg_ hnew_
      clear hg_ hnew_
      (first | rw [← Ny203.out] at ho138 | (simp only [Int.reduceToNat] at ho138; rw [← Ny203.out] at ho138))
      have n0_ := Aside0.mk (Kd.R_lower (Kd.R_newB (Kd.R_newB (Kd.R_newB ho138 (g := gb192) (o := .cells #[.int .i64 a0_2, .int .i64 a0_3, .bool a0_4] 25 (0, 0)) (zq2_)) (g := gb193) (o := .cells #[.int .i64 x194000_17, .int .i64 x194001_17, .bool x194002_17] 25 (0, 0)) (zq3_)) (g := gb202) (o := .cells #[.int .i64 0, .int .i64 0, .bool true] 25 (0, 0)) (zq5_)) zq73_)
      have n1_ := Aside0.mk (blk_below (g := gb189) (o := .cells #[.int .i64 a0_0, .int .i64 a0_1, .int .i64 a0_2, .int .i64 a0_3, .bool a0_4, .int .u8 a0_5, .int .u8 a0_6, .slice A0_7 l0_7.length c0_7, .slice A0_8 l0_8.length c0_8] 47 (0, 0)) (zq4_) hb)
      have n2_ := Aside0.mk (blk_below (g := gb191) (o := .cells #[.int .i64 a0_0, .int .i64 a0_1] 23 (0, 0)) (zq6_) hb)
      have n3_ := Aside0.mk (blk_below (g := gb192) (o := .cells #[.int .i64 a0_2, .int .i64 a0_3, .bool a0_4] 25 (0, 0)) (zq2_) hb)
      have n4_ := Aside0.mk (blk_below (g := gb193) (o := .cells #[.int .i64 x194000_17, .int .i64 x194001_17, .bool x194002_17] 25 (0, 0)) (zq3_) hb)
      have n5_ := Aside0.mk (blk_below (g := gb197) (o := .cells #[.int .i64 t194, .int .i64 t195] 27 (0, 0)) (zq7_) hb)
      have n6_ := Aside0.mk (blk_below (g := gb201) (o := .cells #[.int .i64 t198, .int .i64 t199] 27 (0, 0)) (zq8_) hb)
      have n7_ := Aside0.mk (blk_below (g := gb202) (o := .cells #[.int .i64 0, .int .i64 0, .bool true] 25 (0, 0)) (zq5_) hb)
      have n8_ := Aside0.mk (below_step (zq0_) hb)
      clear BK189
      clear BK191
      clear BK192
      clear BK193
      clear BK197
      clear BK201
      clear BK202
      clear HB
      have HO205 := n0_
      have BK189 := n1_
      have BK191 := n2_
      have BK192 := n3_
      have BK193 := n4_
      have BK197 := n5_
      have BK201 := n6_
      have BK202 := n7_
      have HB := n8_
      clear n0_ n1_ n2_ n3_ n4_ n5_ n6_ n7_ n8_
      clear hb ho138
      refine hK.out _ _ ⟨(blk_cell BK202.out 0).trans rfl, (blk_cell BK202.out 1).trans rfl, (blk_cell BK202.out 2).trans rfl⟩ (fun hHeld => ?_)
      clear hK K
      refine norm_ (a' := ?_) ?_ ?_
      rotate_left
      · show Act.put _ (some 88) _ = _
        simp only [Act.put, List.setIfInBounds_toArray, List.set_cons_zero, List.set_cons_succ, i64_w, i32_w]
        rfl
      refine two_ (i := 2) (j := 4) (Ni := some 90) (Nj := some 92) #[true, true, true, true, false, false, true, false, false, false, false, false, false, false, false] #[true, true, false, true, true, false, true, false, false, false, false, false, false, false, false] rfl rfl rfl rfl (two_of HT_.out (zq26_)) (zq43_) (zq43_) (fun K hK => ?_) (fun K hK => ?_)
      · skip
        refine Kd.R_append_rows_step k25 (w0 := w) w.heap.size (by rfl) (.tmp 88) (.tmp 89) 37 25 (.agg #[(.int .i64 0), (.int .i64 0), (.bool false)]) 24 rfl Try.underlying37 info25 rfl (zq43_) (by omega) v204 y203 l0_7 _ _ _ (fun k_ => k_ ≠ gb192 ∧ k_ ≠ gb193 ∧ k_ ≠ gb202) (fun _ => False) rfl rfl ?aO ?aR (fun _ _ h => h) (fun _ h => h.elim) ?aF ?aB ?aS ?aL ?_
        (case aR => repeat (first | exact zq76_ | (with_reducible refine Kd.C_alloc ?_ _) | (with_reducible refine Kd.C_drewN ?_ _) | (with_reducible refine Kd.C_drew ?_)))
        (case aB => exact (zq0_))
        (case aF => exact zq20_)
        (case aO => exact (zq70_))
        (case aS => exact zq73_)
        (case aL => have := LMc80.out; omega)
        intro v207 w139 ho hb hg hat
        rw [← Ny206.out] at ho
        have n0_ := Aside0.mk (blk_grown (g := gb189) (o := .cells #[.int .i64 a0_0, .int .i64 a0_1, .int .i64 a0_2, .int .i64 a0_3, .bool a0_4, .int .u8 a0_5, .int .u8 a0_6, .slice A0_7 l0_7.length c0_7, .slice A0_8 l0_8.length c0_8] 47 (0, 0)) (zq4_) hg (Kd.R_ne HO205.out BK189.out (zq43_)))
        have n1_ := Aside0.mk (blk_grown (g := gb191) (o := .cells #[.int .i64 a0_0, .int .i64 a0_1] 23 (0, 0)) (zq6_) hg (Kd.R_ne HO205.out BK191.out (zq43_)))
        have n2_ := Aside0.mk (blk_grown (g := gb192) (o := .cells #[.int .i64 a0_2, .int .i64 a0_3, .bool a0_4] 25 (0, 0)) (zq2_) hg (Kd.R_away HO205.out (fun _ hk => hk.1.1.2)))
        have n3_ := Aside0.mk (blk_grown (g := gb193) (o := .cells #[.int .i64 x194000_17, .int .i64 x194001_17, .bool x194002_17] 25 (0, 0)) (zq3_) hg (Kd.R_away HO205.out (fun _ hk => hk.1.2)))
        have n4_ := Aside0.mk (blk_grown (g := gb197) (o := .cells #[.int .i64 t194, .int .i64 t195] 27 (0, 0)) (zq7_) hg (Kd.R_ne HO205.out BK197.out (zq43_)))
        have n5_ := Aside0.mk (blk_grown (g := gb201) (o := .cells #[.int .i64 t198, .int .i64 t199] 27 (0, 0)) (zq8_) hg (Kd.R_ne HO205.out BK201.out (zq43_)))
        have n6_ := Aside0.mk (blk_grown (g := gb202) (o := .cells #[.int .i64 0, .int .i64 0, .bool true] 25 (0, 0)) (zq5_) hg (Kd.R_away HO205.out (fun _ hk => hk.2)))
        have n7_ := Aside0.mk (hb)
        have n8_ := Aside0.mk (ho)
        clear BK189
        clear BK191
        clear BK192
        clear BK193
        clear BK197
        clear BK201
        clear BK202
        clear HB
        clear HO205
        have BK189 := n0_
        have BK191 := n1_
        have BK192 := n2_
        have BK193 := n3_
        have BK197 := n4_
        have BK201 := n5_
        have BK202 := n6_
        have HB := n7_
        have HO208 := n8_
        clear n0_ n1_ n2_ n3_ n4_ n5_ n6_ n7_ n8_
        clear ho hb hg hat
        refine hK.out _ _ ⟨(blk_cell BK202.out 0).trans rfl, (blk_cell BK202.out 1).trans rfl, (blk_cell BK202.out 2).trans rfl⟩ (fun hHeld => ?_)
        clear hK K
        refine norm_ (a' := ?_) ?_ ?_
        rotate_left
        · show Act.put _ (some 90) _ = _
          simp only [Act.put, List.setIfInBounds_toArray, List.set_cons_zero, List.set_cons_succ, i64_w, i32_w]
          rfl
        refine one_ (i := 4) (N := some 92) #[true, true, true, true, true, false, true, false, false, false, false, false, false, false, false] rfl rfl (one_of HT_.out (zq26_)) (zq43_) (fun K hK => ?_)
        refine Kd.R_lit_step k25 _ 25 ?hg (N := 92) ?hd (xs := ([(⟨0, 0, true⟩ : S25)] : List (S25))) (inner := [.int .i64 0, .int .i64 0, .bool true]) (ok := fun _ => True) (okp := fun _ => True) ?hr ?hp (fun _ hk => hk) trivial (Below.refl _ _) (Nat.le_refl _) (by simp) ?_; (case hd => rfl); (case hg => rfl); (case hr => first | (go_simp; done) | (go_simp; rfl)); (case hp => exact zq21_)
        intro v210 w140 ho141 hb hg_ hnew_
        clear hg_ hnew_
        (first | rw [← Ny209.out] at ho141 | (simp only [Int.reduceToNat] at ho141; rw [← Ny209.out] at ho141))
        have n0_ := Aside0.mk (Kd.R_elder' (zq39_) (Kd.R_base ho141) hb)
        have n1_ := Aside0.mk (Kd.R_lower (Kd.R_newB (Kd.R_newB (Kd.R_newB (Kd.R_new' ho141 (Kd.R_lt (zq39_))) (g := gb192) (o := .cells #[.int .i64 a0_2, .int .i64 a0_3, .bool a0_4] 25 (0, 0)) (zq2_)) (g := gb193) (o := .cells #[.int .i64 x194000_17, .int .i64 x194001_17, .bool x194002_17] 25 (0, 0)) (zq3_)) (g := gb202) (o := .cells #[.int .i64 0, .int .i64 0, .bool true] 25 (0, 0)) (zq5_)) zq73_)
        have n2_ := Aside0.mk (blk_below (g := gb189) (o := .cells #[.int .i64 a0_0, .int .i64 a0_1, .int .i64 a0_2, .int .i64 a0_3, .bool a0_4, .int .u8 a0_5, .int .u8 a0_6, .slice A0_7 l0_7.length c0_7, .slice A0_8 l0_8.length c0_8] 47 (0, 0)) (zq4_) hb)
        have n3_ := Aside0.mk (blk_below (g := gb191) (o := .cells #[.int .i64 a0_0, .int .i64 a0_1] 23 (0, 0)) (zq6_) hb)
        have n4_ := Aside0.mk (blk_below (g := gb192) (o := .cells #[.int .i64 a0_2, .int .i64 a0_3, .bool a0_4] 25 (0, 0)) (zq2_) hb)
        have n5_ := Aside0.mk (blk_below (g := gb193) (o := .cells #[.int .i64 x194000_17, .int .i64 x194001_17, .bool x194002_17] 25 (0, 0)) (zq3_) hb)
        have n6_ := Aside0.mk (blk_below (g := gb197) (o := .cells #[.int .i64 t194, .int .i64 t195] 27 (0, 0)) (zq7_) hb)
        have n7_ := Aside0.mk (blk_below (g := gb201) (o := .cells #[.int .i64 t198, .int .i64 t199] 27 (0, 0)) (zq8_) hb)
        have n8_ := Aside0.mk (blk_below (g := gb202) (o := .cells #[.int .i64 0, .int .i64 0, .bool true] 25 (0, 0)) (zq5_) hb)
        have n9_ := Aside0.mk (below_step (zq0_) hb)
        clear HO208
        clear BK189
        clear BK191
        clear BK192
        clear BK193
        clear BK197
        clear BK201
        clear BK202
        clear HB
        have HO208 := n0_
        have HO211 := n1_
        have BK189 := n2_
        have BK191 := n3_
        have BK192 := n4_
        have BK193 := n5_
        have BK197 := n6_
        have BK201 := n7_
        have BK202 := n8_
        have HB := n9_
        clear n0_ n1_ n2_ n3_ n4_ n5_ n6_ n7_ n8_ n9_
        clear hb ho141
        refine hK.out _ _ ⟨(blk_cell BK202.out 0).trans rfl, (blk_cell BK202.out 1).trans rfl, (blk_cell BK202.out 2).trans rfl⟩ (fun hHeld => ?_)
        clear hK K
        refine norm_ (a' := ?_) ?_ ?_
        rotate_left
        · show Act.put _ (some 92) _ = _
          simp only [Act.put, List.setIfInBounds_toArray, List.set_cons_zero, List.set_cons_succ, i64_w, i32_w]
          rfl
        exact zq29_
      · skip
        refine Kd.R_lit_step k25 _ 25 ?hg (N := 92) ?hd (xs := ([(⟨0, 0, true⟩ : S25)] : List (S25))) (inner := [.int .i64 0, .int .i64 0, .bool true]) (ok := fun _ => True) (okp := fun _ => True) ?hr ?hp (fun _ hk => hk) trivial (Below.refl _ _) (Nat.le_refl _) (by simp) ?_; (case hd => rfl); (case hg => rfl); (case hr => first | (go_simp; done) | (go_simp; rfl)); (case hp => exact zq21_)
        intro v210 w139 ho140 hb hg_ hnew_
        clear hg_ hnew_
        (first | rw [← Ny209.out] at ho140 | (simp only [Int.reduceToNat] at ho140; rw [← Ny209.out] at ho140))
        have n0_ := Aside0.mk (Kd.R_elder' (zq55_) (Kd.R_base ho140) hb)
        have n1_ := Aside0.mk (Kd.R_lower (Kd.R_newB (Kd.R_newB (Kd.R_newB (Kd.R_new' ho140 (Kd.R_lt (zq55_))) (g := gb192) (o := .cells #[.int .i64 a0_2, .int .i64 a0_3, .bool a0_4] 25 (0, 0)) (zq2_)) (g := gb193) (o := .cells #[.int .i64 x194000_17, .int .i64 x194001_17, .bool x194002_17] 25 (0, 0)) (zq3_)) (g := gb202) (o := .cells #[.int .i64 0, .int .i64 0, .bool true] 25 (0, 0)) (zq5_)) zq73_)
        have n2_ := Aside0.mk (blk_below (g := gb189) (o := .cells #[.int .i64 a0_0, .int .i64 a0_1, .int .i64 a0_2, .int .i64 a0_3, .bool a0_4, .int .u8 a0_5, .int .u8 a0_6, .slice A0_7 l0_7.length c0_7, .slice A0_8 l0_8.length c0_8] 47 (0, 0)) (zq4_) hb)
        have n3_ := Aside0.mk (blk_below (g := gb191) (o := .cells #[.int .i64 a0_0, .int .i64 a0_1] 23 (0, 0)) (zq6_) hb)
        have n4_ := Aside0.mk (blk_below (g := gb192) (o := .cells #[.int .i64 a0_2, .int .i64 a0_3, .bool a0_4] 25 (0, 0)) (zq2_) hb)
        have n5_ := Aside0.mk (blk_below (g := gb193) (o := .cells #[.int .i64 x194000_17, .int .i64 x194001_17, .bool x194002_17] 25 (0, 0)) (zq3_) hb)
        have n6_ := Aside0.mk (blk_below (g := gb197) (o := .cells #[.int .i64 t194, .int .i64 t195] 27 (0, 0)) (zq7_) hb)
        have n7_ := Aside0.mk (blk_below (g := gb201) (o := .cells #[.int .i64 t198, .int .i64 t199] 27 (0, 0)) (zq8_) hb)
        have n8_ := Aside0.mk (blk_below (g := gb202) (o := .cells #[.int .i64 0, .int .i64 0, .bool true] 25 (0, 0)) (zq5_) hb)
        have n9_ := Aside0.mk (below_step (zq0_) hb)
        clear HO205
        clear BK189
        clear BK191
        clear BK192
        clear BK193
        clear BK197
        clear BK201
        clear BK202
        clear HB
        have HO205 := n0_
        have HO211 := n1_
        have BK189 := n2_
        have BK191 := n3_
        have BK192 := n4_
        have BK193 := n5_
        have BK197 := n6_
        have BK201 := n7_
        have BK202 := n8_
        have HB := n9_
        clear n0_ n1_ n2_ n3_ n4_ n5_ n6_ n7_ n8_ n9_
        clear hb ho140
        refine hK.out _ _ ⟨(blk_cell BK202.out 0).trans rfl, (blk_cell BK202.out 1).trans rfl, (blk_cell BK202.out 2).trans rfl⟩ (fun hHeld => ?_)
        clear hK K
        refine norm_ (a' := ?_) ?_ ?_
        rotate_left
        · show Act.put _ (some 92) _ = _
          simp only [Act.put, List.setIfInBounds_toArray, List.set_cons_zero, List.set_cons_succ, i64_w, i32_w]
          rfl
        refine one_ (i := 2) (N := some 90) #[true, true, true, true, true, false, true, false, false, false, false, false, false, false, false] rfl rfl (one_of HT_.out (zq26_)) (zq43_) (fun K hK => ?_)
        refine Kd.R_append_rows_step k25 (w0 := w) w.heap.size (by rfl) (.tmp 88) (.tmp 89) 37 25 (.agg #[(.int .i64 0), (.int .i64 0), (.bool false)]) 24 rfl Try.underlying37 info25 rfl (zq43_) (by omega) v204 y203 l0_7 _ _ _ (fun k_ => some k_ ≠ (v210 : Value).ownBlock ∧ k_ ≠ gb192 ∧ k_ ≠ gb193 ∧ k_ ≠ gb202) (fun _ => False) rfl rfl ?aO ?aR (fun _ _ h => h) (fun _ h => h.elim) ?aF ?aB ?aS ?aL ?_
        (case aR => repeat (first | exact zq76_ | (with_reducible refine Kd.C_alloc ?_ _) | (with_reducible refine Kd.C_drewN ?_ _) | (with_reducible refine Kd.C_drew ?_)))
        (case aB => exact (zq0_))
        (case aF => exact zq1_)
        (case aO => exact (zq64_))
        (case aS => exact zq73_)
        (case aL => have := LMc80.out; omega)
        intro v207 w141 ho hb hg hat
        rw [← Ny206.out] at ho
        have n0_ := Aside0.mk (blk_grown (g := gb189) (o := .cells #[.int .i64 a0_0, .int .i64 a0_1, .int .i64 a0_2, .int .i64 a0_3, .bool a0_4, .int .u8 a0_5, .int .u8 a0_6, .slice A0_7 l0_7.length c0_7, .slice A0_8 l0_8.length c0_8] 47 (0, 0)) (zq4_) hg (Kd.R_ne HO205.out BK189.out (zq43_)))
        have n1_ := Aside0.mk (blk_grown (g := gb191) (o := .cells #[.int .i64 a0_0, .int .i64 a0_1] 23 (0, 0)) (zq6_) hg (Kd.R_ne HO205.out BK191.out (zq43_)))
        have n2_ := Aside0.mk (blk_grown (g := gb192) (o := .cells #[.int .i64 a0_2, .int .i64 a0_3, .bool a0_4] 25 (0, 0)) (zq2_) hg (Kd.R_away HO205.out (fun _ hk => hk.1.1.1.2)))
        have n3_ := Aside0.mk (blk_grown (g := gb193) (o := .cells #[.int .i64 x194000_17, .int .i64 x194001_17, .bool x194002_17] 25 (0, 0)) (zq3_) hg (Kd.R_away HO205.out (fun _ hk => hk.1.1.2)))
        have n4_ := Aside0.mk (blk_grown (g := gb197) (o := .cells #[.int .i64 t194, .int .i64 t195] 27 (0, 0)) (zq7_) hg (Kd.R_ne HO205.out BK197.out (zq43_)))
        have n5_ := Aside0.mk (blk_grown (g := gb201) (o := .cells #[.int .i64 t198, .int .i64 t199] 27 (0, 0)) (zq8_) hg (Kd.R_ne HO205.out BK201.out (zq43_)))
        have n6_ := Aside0.mk (blk_grown (g := gb202) (o := .cells #[.int .i64 0, .int .i64 0, .bool true] 25 (0, 0)) (zq5_) hg (Kd.R_away HO205.out (fun _ hk => hk.1.2)))
        have n7_ := Aside0.mk (Kd.R_after (ok := (fun k_ => k_ ≠ gb192 ∧ k_ ≠ gb193 ∧ k_ ≠ gb202)) (zq62_) hg hat)
        have n8_ := Aside0.mk (hb)
        have n9_ := Aside0.mk (ho)
        clear BK189
        clear BK191
        clear BK192
        clear BK193
        clear BK197
        clear BK201
        clear BK202
        clear HO211
        clear HB
        clear HO205
        have BK189 := n0_
        have BK191 := n1_
        have BK192 := n2_
        have BK193 := n3_
        have BK197 := n4_
        have BK201 := n5_
        have BK202 := n6_
        have HO211 := n7_
        have HB := n8_
        have HO208 := n9_
        clear n0_ n1_ n2_ n3_ n4_ n5_ n6_ n7_ n8_ n9_
        clear ho hb hg hat
        refine hK.out _ _ ⟨(blk_cell BK202.out 0).trans rfl, (blk_cell BK202.out 1).trans rfl, (blk_cell BK202.out 2).trans rfl⟩ (fun hHeld => ?_)
        clear hK K
        refine norm_ (a' := ?_) ?_ ?_
        rotate_left
        · show Act.put _ (some 90) _ = _
          simp only [Act.put, List.setIfInBounds_toArray, List.set_cons_zero, List.set_cons_succ, i64_w, i32_w]
          rfl
        exact zq13_
    · skip
      refine Kd.R_lit_step k25 _ 25 ?hg (N := 92) ?hd (xs := ([(⟨0, 0, true⟩ : S25)] : List (S25))) (inner := [.int .i64 0, .int .i64 0, .bool true]) (ok := fun _ => True) (okp := fun _ => True) ?hr ?hp (fun _ hk => hk) trivial (Below.refl _ _) (Nat.le_refl _) (by simp) ?_; (case hd => rfl); (case hg => rfl); (case hr => first | (go_simp; done) | (go_simp; rfl)); (case hp => exact zq21_)
      intro v210 w137 ho138 hb hg_ hnew_
      clear hg_ hnew_
      (first | rw [← Ny209.out] at ho138 | (simp only [Int.reduceToNat] at ho138; rw [← Ny209.out] at ho138))
      have n0_ := Aside0.mk (Kd.R_lower (Kd.R_newB (Kd.R_newB (Kd.R_newB ho138 (g := gb192) (o := .cells #[.int .i64 a0_2, .int .i64 a0_3, .bool a0_4] 25 (0, 0)) (zq2_)) (g := gb193) (o := .cells #[.int .i64 x194000_17, .int .i64 x194001_17, .bool x194002_17] 25 (0, 0)) (zq3_)) (g := gb202) (o := .cells #[.int .i64 0, .int .i64 0, .bool true] 25 (0, 0)) (zq5_)) zq73_)
      have n1_ := Aside0.mk (blk_below (g := gb189) (o := .cells #[.int .i64 a0_0, .int .i64 a0_1, .int .i64 a0_2, .int .i64 a0_3, .bool a0_4, .int .u8 a0_5, .int .u8 a0_6, .slice A0_7 l0_7.length c0_7, .slice A0_8 l0_8.length c0_8] 47 (0, 0)) (zq4_) hb)
      have n2_ := Aside0.mk (blk_below (g := gb191) (o := .cells #[.int .i64 a0_0, .int .i64 a0_1] 23 (0, 0)) (zq6_) hb)
      have n3_ := Aside0.mk (blk_below (g := gb192) (o := .cells #[.int .i64 a0_2, .int .i64 a0_3, .bool a0_4] 25 (0, 0)) (zq2_) hb)
      have n4_ := Aside0.mk (blk_below (g := gb193) (o := .cells #[.int .i64 x194000_17, .int .i64 x194001_17, .bool x194002_17] 25 (0, 0)) (zq3_) hb)
      have n5_ := Aside0.mk (blk_below (g := gb197) (o := .cells #[.int .i64 t194, .int .i64 t195] 27 (0, 0)) (zq7_) hb)
      have n6_ := Aside0.mk (blk_below (g := gb201) (o := .cells #[.int .i64 t198, .int .i64 t199] 27 (0, 0)) (zq8_) hb)
      have n7_ := Aside0.mk (blk_below (g := gb202) (o := .cells #[.int .i64 0, .int .i64 0, .bool true] 25 (0, 0)) (zq5_) hb)
      have n8_ := Aside0.mk (below_step (zq0_) hb)
      clear BK189
      clear BK191
      clear BK192
      clear BK193
      clear BK197
      clear BK201
      clear BK202
      clear HB
      have HO211 := n0_
      have BK189 := n1_
      have BK191 := n2_
      have BK192 := n3_
      have BK193 := n4_
      have BK197 := n5_
      have BK201 := n6_
      have BK202 := n7_
      have HB := n8_
      clear n0_ n1_ n2_ n3_ n4_ n5_ n6_ n7_ n8_
      clear hb ho138
      refine hK.out _ _ ⟨(blk_cell BK202.out 0).trans rfl, (blk_cell BK202.out 1).trans rfl, (blk_cell BK202.out 2).trans rfl⟩ (fun hHeld => ?_)
      clear hK K
      refine norm_ (a' := ?_) ?_ ?_
      rotate_left
      · show Act.put _ (some 92) _ = _
        simp only [Act.put, List.setIfInBounds_toArray, List.set_cons_zero, List.set_cons_succ, i64_w, i32_w]
        rfl
      refine one_ (i := 0) (N := some 88) #[true, true, false, true, true, false, true, false, false, false, false, false, false, false, false] rfl rfl (one_of HT_.out (zq26_)) (zq43_) (fun K hK => ?_)
      refine Kd.R_lit_step k25 _ 25 ?hg (N := 88) ?hd (xs := ([] : List (S25))) (inner := []) (ok := fun _ => True) (okp := fun _ => True) ?hr ?hp (fun _ hk => hk) trivial (Below.refl _ _) (Nat.le_refl _) (by simp) ?_; (case hd => rfl); (case hg => rfl); (case hr => first | (go_simp; done) | (go_simp; rfl)); (case hp => exact (Reps.none _ _))
      intro v204 w139 ho140 hb hg_ hnew_
      clear hg_ hnew_
      (first | rw [← Ny203.out] at ho140 | (simp only [Int.reduceToNat] at ho140; rw [← Ny203.out] at ho140))
      have n0_ := Aside0.mk (Kd.R_elder' (zq11_) (Kd.R_base ho140) hb)
      have n1_ := Aside0.mk (Kd.R_lower (Kd.R_newB (Kd.R_newB (Kd.R_newB (Kd.R_new' ho140 (Kd.R_lt (zq11_))) (g := gb192) (o := .cells #[.int .i64 a0_2, .int .i64 a0_3, .bool a0_4] 25 (0, 0)) (zq2_)) (g := gb193) (o := .cells #[.int .i64 x194000_17, .int .i64 x194001_17, .bool x194002_17] 25 (0, 0)) (zq3_)) (g := gb202) (o := .cells #[.int .i64 0, .int .i64 0, .bool true] 25 (0, 0)) (zq5_)) zq73_)
      have n2_ := Aside0.mk (blk_below (g := gb189) (o := .cells #[.int .i64 a0_0, .int .i64 a0_1, .int .i64 a0_2, .int .i64 a0_3, .bool a0_4, .int .u8 a0_5, .int .u8 a0_6, .slice A0_7 l0_7.length c0_7, .slice A0_8 l0_8.length c0_8] 47 (0, 0)) (zq4_) hb)
      have n3_ := Aside0.mk (blk_below (g := gb191) (o := .cells #[.int .i64 a0_0, .int .i64 a0_1] 23 (0, 0)) (zq6_) hb)
      have n4_ := Aside0.mk (blk_below (g := gb192) (o := .cells #[.int .i64 a0_2, .int .i64 a0_3, .bool a0_4] 25 (0, 0)) (zq2_) hb)
      have n5_ := Aside0.mk (blk_below (g := gb193) (o := .cells #[.int .i64 x194000_17, .int .i64 x194001_17, .bool x194002_17] 25 (0, 0)) (zq3_) hb)
      have n6_ := Aside0.mk (blk_below (g := gb197) (o := .cells #[.int .i64 t194, .int .i64 t195] 27 (0, 0)) (zq7_) hb)
      have n7_ := Aside0.mk (blk_below (g := gb201) (o := .cells #[.int .i64 t198, .int .i64 t199] 27 (0, 0)) (zq8_) hb)
      have n8_ := Aside0.mk (blk_below (g := gb202) (o := .cells #[.int .i64 0, .int .i64 0, .bool true] 25 (0, 0)) (zq5_) hb)
      have n9_ := Aside0.mk (below_step (zq0_) hb)
      clear HO211
      clear BK189
      clear BK191
      clear BK192
      clear BK193
      clear BK197
      clear BK201
      clear BK202
      clear HB
      have HO211 := n0_
      have HO205 := n1_
      have BK189 := n2_
      have BK191 := n3_
      have BK192 := n4_
      have BK193 := n5_
      have BK197 := n6_
      have BK201 := n7_
      have BK202 := n8_
      have HB := n9_
      clear n0_ n1_ n2_ n3_ n4_ n5_ n6_ n7_ n8_ n9_
      clear hb ho140
      refine hK.out _ _ ⟨(blk_cell BK202.out 0).trans rfl, (blk_cell BK202.out 1).trans rfl, (blk_cell BK202.out 2).trans rfl⟩ (fun hHeld => ?_)
      clear hK K
      refine norm_ (a' := ?_) ?_ ?_
      rotate_left
      · show Act.put _ (some 88) _ = _
        simp only [Act.put, List.setIfInBounds_toArray, List.set_cons_zero, List.set_cons_succ, i64_w, i32_w]
        rfl
      refine one_ (i := 2) (N := some 90) #[true, true, true, true, true, false, true, false, false, false, false, false, false, false, false] rfl rfl (one_of HT_.out (zq26_)) (zq43_) (fun K hK => ?_)
      refine Kd.R_append_rows_step k25 (w0 := w) w.heap.size (by rfl) (.tmp 88) (.tmp 89) 37 25 (.agg #[(.int .i64 0), (.int .i64 0), (.bool false)]) 24 rfl Try.underlying37 info25 rfl (zq43_) (by omega) v204 y203 l0_7 _ _ _ (fun k_ => some k_ ≠ (v210 : Value).ownBlock ∧ k_ ≠ gb192 ∧ k_ ≠ gb193 ∧ k_ ≠ gb202) (fun _ => False) rfl rfl ?aO ?aR (fun _ _ h => h) (fun _ h => h.elim) ?aF ?aB ?aS ?aL ?_
      (case aR => repeat (first | exact zq76_ | (with_reducible refine Kd.C_alloc ?_ _) | (with_reducible refine Kd.C_drewN ?_ _) | (with_reducible refine Kd.C_drew ?_)))
      (case aB => exact (zq0_))
      (case aF => exact zq1_)
      (case aO => exact (zq65_))
      (case aS => exact zq73_)
      (case aL => have := LMc80.out; omega)
      intro v207 w141 ho hb hg hat
      rw [← Ny206.out] at ho
      have n0_ := Aside0.mk (blk_grown (g := gb189) (o := .cells #[.int .i64 a0_0, .int .i64 a0_1, .int .i64 a0_2, .int .i64 a0_3, .bool a0_4, .int .u8 a0_5, .int .u8 a0_6, .slice A0_7 l0_7.length c0_7, .slice A0_8 l0_8.length c0_8] 47 (0, 0)) (zq4_) hg (Kd.R_ne HO205.out BK189.out (zq43_)))
      have n1_ := Aside0.mk (blk_grown (g := gb191) (o := .cells #[.int .i64 a0_0, .int .i64 a0_1] 23 (0, 0)) (zq6_) hg (Kd.R_ne HO205.out BK191.out (zq43_)))
      have n2_ := Aside0.mk (blk_grown (g := gb192) (o := .cells #[.int .i64 a0_2, .int .i64 a0_3, .bool a0_4] 25 (0, 0)) (zq2_) hg (Kd.R_away HO205.out (fun _ hk => hk.1.1.2)))
      have n3_ := Aside0.mk (blk_grown (g := gb193) (o := .cells #[.int .i64 x194000_17, .int .i64 x194001_17, .bool x194002_17] 25 (0, 0)) (zq3_) hg (Kd.R_away HO205.out (fun _ hk => hk.1.2)))
      have n4_ := Aside0.mk (blk_grown (g := gb197) (o := .cells #[.int .i64 t194, .int .i64 t195] 27 (0, 0)) (zq7_) hg (Kd.R_ne HO205.out BK197.out (zq43_)))
      have n5_ := Aside0.mk (blk_grown (g := gb201) (o := .cells #[.int .i64 t198, .int .i64 t199] 27 (0, 0)) (zq8_) hg (Kd.R_ne HO205.out BK201.out (zq43_)))
      have n6_ := Aside0.mk (blk_grown (g := gb202) (o := .cells #[.int .i64 0, .int .i64 0, .bool true] 25 (0, 0)) (zq5_) hg (Kd.R_away HO205.out (fun _ hk => hk.2)))
      have n7_ := Aside0.mk (Kd.R_after (ok := (fun k_ => k_ ≠ gb192 ∧ k_ ≠ gb193 ∧ k_ ≠ gb202)) (zq63_) hg hat)
      have n8_ := Aside0.mk (hb)
      have n9_ := Aside0.mk (ho)
      clear BK189
      clear BK191
      clear BK192
      clear BK193
      clear BK197
      clear BK201
      clear BK202
      clear HO211
      clear HB
      clear HO205
      have BK189 := n0_
      have BK191 := n1_
      have BK192 := n2_
      have BK193 := n3_
      have BK197 := n4_
      have BK201 := n5_
      have BK202 := n6_
      have HO211 := n7_
      have HB := n8_
      have HO208 := n9_
      clear n0_ n1_ n2_ n3_ n4_ n5_ n6_ n7_ n8_ n9_
      clear ho hb hg hat
      refine hK.out _ _ ⟨(blk_cell BK202.out 0).trans rfl, (blk_cell BK202.out 1).trans rfl, (blk_cell BK202.out 2).trans rfl⟩ (fun hHeld => ?_)
      clear hK K
      refine norm_ (a' := ?_) ?_ ?_
      rotate_left
      · show Act.put _ (some 90) _ = _
        simp only [Act.put, List.setIfInBounds_toArray, List.set_cons_zero, List.set_cons_succ, i64_w, i32_w]
        rfl
      exact zq13_
  exact arm1_2
  ) : P := h
set_option maxRecDepth 100000 in
theorem arm1_0 {P : Prop} (h : P := by
  try go_wp2_with (first | ((with_reducible refine gate_dst (N := 14) rfl ?_); (try (refine gate_guard (by rfl) ?_; dsimp only)); refine box_event ?hg (N := 14) ?hd (cs := #[.int .i64 0, .int .i64 0, .bool false]) (t := 25) ?hr ?_; (case hd => rfl); (case hg => rfl); (case hr => first | (go_simp; done) | (go_simp; rfl)); intro gb202 hg w127 hbox hb; have n0_ := Aside0.mk (blk_below (g := gb189) (o := .cells #[.int .i64 a0_0, .int .i64 a0_1, .int .i64 a0_2, .int .i64 a0_3, .bool a0_4, .int .u8 a0_5, .int .u8 a0_6, .slice A0_7 l0_7.length c0_7, .slice A0_8 l0_8.length c0_8] 47 (0, 0)) (zq4_) hb); have n1_ := Aside0.mk (blk_below (g := gb191) (o := .cells #[.int .i64 a0_0, .int .i64 a0_1] 23 (0, 0)) (zq6_) hb); have n2_ := Aside0.mk (blk_below (g := gb192) (o := .cells #[.int .i64 a0_2, .int .i64 a0_3, .bool a0_4] 25 (0, 0)) (zq2_) hb); have n3_ := Aside0.mk (blk_below (g := gb193) (o := .cells #[.int .i64 x194000_17, .int .i64 x194001_17, .bool x194002_17] 25 (0, 0)) (zq3_) hb); have n4_ := Aside0.mk (blk_below (g := gb197) (o := .cells #[.int .i64 t194, .int .i64 t195] 27 (0, 0)) (zq7_) hb); have n5_ := Aside0.mk (blk_below (g := gb201) (o := .cells #[.int .i64 t198, .int .i64 t199] 27 (0, 0)) (zq8_) hb); have n6_ := Aside0.mk (below_step (zq12_) hb); have n7_ := Aside0.mk (hbox); have n8_ := Aside0.mk ((by rw [hg]; exact (below_size (zq12_)) : w.heap.size ≤ gb202)); have n9_ := Aside0.mk ((by rw [hg]; exact (below_size (zq12_)) : w.heap.size ≤ gb202)); have n10_ := Aside0.mk ((zq14_ : gb189 ≠ gb202)); have n11_ := Aside0.mk ((zq15_ : gb202 ≠ gb189)); have n12_ := Aside0.mk ((zq51_ : gb191 ≠ gb202)); have n13_ := Aside0.mk ((zq52_ : gb202 ≠ gb191)); have n14_ := Aside0.mk ((zq47_ : gb192 ≠ gb202)); have n15_ := Aside0.mk ((zq48_ : gb202 ≠ gb192)); have n16_ := Aside0.mk ((zq49_ : gb193 ≠ gb202)); have n17_ := Aside0.mk ((zq50_ : gb202 ≠ gb193)); have n18_ := Aside0.mk ((zq66_ : gb197 ≠ gb202)); have n19_ := Aside0.mk ((zq67_ : gb202 ≠ gb197)); have n20_ := Aside0.mk ((zq71_ : gb201 ≠ gb202)); have n21_ := Aside0.mk ((zq72_ : gb202 ≠ gb201)); clear BK189; clear BK191; clear BK192; clear BK193; clear BK197; clear BK201; clear HB; have BK189 := n0_; have BK191 := n1_; have BK192 := n2_; have BK193 := n3_; have BK197 := n4_; have BK201 := n5_; have HB := n6_; have BK202 := n7_; have GW202 := n8_; have GE202 := n9_; have NB189_202 := n10_; have NB202_189 := n11_; have NB191_202 := n12_; have NB202_191 := n13_; have NB192_202 := n14_; have NB202_192 := n15_; have NB193_202 := n16_; have NB202_193 := n17_; have NB197_202 := n18_; have NB202_197 := n19_; have NB201_202 := n20_; have NB202_201 := n21_; clear n0_ n1_ n2_ n3_ n4_ n5_ n6_ n7_ n8_ n9_ n10_ n11_ n12_ n13_ n14_ n15_ n16_ n17_ n18_ n19_ n20_ n21_; clear hb hbox hg; have hnb128 := NB202_189.out; have hnc128 := NB189_202.out; have hnb129 := NB202_191.out; have hnc129 := NB191_202.out; have hnb130 := NB202_192.out; have hnc130 := NB192_202.out; have hnb131 := NB202_193.out; have hnc131 := NB193_202.out; have hnb132 := NB202_197.out; have hnc132 := NB197_202.out; have hnb133 := NB202_201.out; have hnc133 := NB201_202.out; have hcz134_0 : w127.cell? ⟨gb202, 0, none⟩ = some (.int .i64 0) := (blk_cell BK202.out 0).trans rfl; have hcz134_1 : w127.cell? ⟨gb202, 1, none⟩ = some (.int .i64 0) := (blk_cell BK202.out 1).trans rfl; have hcz134_2 : w127.cell? ⟨gb202, 2, none⟩ = some (.bool false) := (blk_cell BK202.out 2).trans rfl; have hfz134_0 := blk_frozen BK202.out 0; have hfz134_1 := blk_frozen BK202.out 1; have hfz134_2 := blk_frozen BK202.out 2))
  have n0_ : Aside0 ((((w127.setCell ⟨gb202, 0, none⟩ (.int .i64 0)).setCell ⟨gb202, 1, none⟩ (.int .i64 0)).setCell ⟨gb202, 2, none⟩ (.bool true)).heap[gb189]? = some (.cells #[.int .i64 a0_0, .int .i64 a0_1, .int .i64 a0_2, .int .i64 a0_3, .bool a0_4, .int .u8 a0_5, .int .u8 a0_6, .slice A0_7 l0_7.length c0_7, .slice A0_8 l0_8.length c0_8] 47 (0, 0))) := ⟨zq35_⟩
  have n1_ : Aside0 ((((w127.setCell ⟨gb202, 0, none⟩ (.int .i64 0)).setCell ⟨gb202, 1, none⟩ (.int .i64 0)).setCell ⟨gb202, 2, none⟩ (.bool true)).heap[gb191]? = some (.cells #[.int .i64 a0_0, .int .i64 a0_1] 23 (0, 0))) := ⟨zq34_⟩
  have n2_ : Aside0 ((((w127.setCell ⟨gb202, 0, none⟩ (.int .i64 0)).setCell ⟨gb202, 1, none⟩ (.int .i64 0)).setCell ⟨gb202, 2, none⟩ (.bool true)).heap[gb192]? = some (.cells #[.int .i64 a0_2, .int .i64 a0_3, .bool a0_4] 25 (0, 0))) := ⟨zq33_⟩
  have n3_ : Aside0 ((((w127.setCell ⟨gb202, 0, none⟩ (.int .i64 0)).setCell ⟨gb202, 1, none⟩ (.int .i64 0)).setCell ⟨gb202, 2, none⟩ (.bool true)).heap[gb193]? = some (.cells #[.int .i64 x194000_17, .int .i64 x194001_17, .bool x194002_17] 25 (0, 0))) := ⟨zq32_⟩
  have n4_ : Aside0 ((((w127.setCell ⟨gb202, 0, none⟩ (.int .i64 0)).setCell ⟨gb202, 1, none⟩ (.int .i64 0)).setCell ⟨gb202, 2, none⟩ (.bool true)).heap[gb197]? = some (.cells #[.int .i64 t194, .int .i64 t195] 27 (0, 0))) := ⟨zq31_⟩
  have n5_ : Aside0 ((((w127.setCell ⟨gb202, 0, none⟩ (.int .i64 0)).setCell ⟨gb202, 1, none⟩ (.int .i64 0)).setCell ⟨gb202, 2, none⟩ (.bool true)).heap[gb201]? = some (.cells #[.int .i64 t198, .int .i64 t199] 27 (0, 0))) := ⟨zq30_⟩
  have n6_ : Aside0 ((((w127.setCell ⟨gb202, 0, none⟩ (.int .i64 0)).setCell ⟨gb202, 1, none⟩ (.int .i64 0)).setCell ⟨gb202, 2, none⟩ (.bool true)).heap[gb202]? = some (.cells #[.int .i64 0, .int .i64 0, .bool true] 25 (0, 0))) := ⟨zq27_⟩
  have n7_ : Aside0 (Below w.heap.size w (((w127.setCell ⟨gb202, 0, none⟩ (.int .i64 0)).setCell ⟨gb202, 1, none⟩ (.int .i64 0)).setCell ⟨gb202, 2, none⟩ (.bool true))) := ⟨zq18_⟩
  (try clear BK189)
  (try clear BK191)
  (try clear BK192)
  (try clear BK193)
  (try clear BK197)
  (try clear BK201)
  (try clear BK202)
  (try clear HB)
  generalize (((w127.setCell ⟨gb202, 0, none⟩ (.int .i64 0)).setCell ⟨gb202, 1, none⟩ (.int .i64 0)).setCell ⟨gb202, 2, none⟩ (.bool true)) = w135 at n0_ n1_ n2_ n3_ n4_ n5_ n6_ n7_ ⊢
  have BK189 := n0_
  have BK191 := n1_
  have BK192 := n2_
  have BK193 := n3_
  have BK197 := n4_
  have BK201 := n5_
  have BK202 := n6_
  have HB := n7_
  clear n0_ n1_ n2_ n3_ n4_ n5_ n6_ n7_
  have n0_ := Aside0.mk (blk_drew BK189.out)
  have n1_ := Aside0.mk (blk_drew BK191.out)
  have n2_ := Aside0.mk (blk_drew BK192.out)
  have n3_ := Aside0.mk (blk_drew BK193.out)
  have n4_ := Aside0.mk (blk_drew BK197.out)
  have n5_ := Aside0.mk (blk_drew BK201.out)
  have n6_ := Aside0.mk (blk_drew BK202.out)
  have n7_ := Aside0.mk (below_drew1 HB.out)
  clear BK189
  clear BK191
  clear BK192
  clear BK193
  clear BK197
  clear BK201
  clear BK202
  clear HB
  have BK189 := n0_
  have BK191 := n1_
  have BK192 := n2_
  have BK193 := n3_
  have BK197 := n4_
  have BK201 := n5_
  have BK202 := n6_
  have HB := n7_
  clear n0_ n1_ n2_ n3_ n4_ n5_ n6_ n7_
  refine start_ (n := 15) (S := fun w' => w'.cell? ⟨gb202, 0, none⟩ = some (.int .i64 0) ∧ w'.cell? ⟨gb202, 1, none⟩ = some (.int .i64 0) ∧ w'.cell? ⟨gb202, 2, none⟩ = some (.bool true)) (ds := []) #[false, false, false, false, false, false, false, false, false, false, false, false, false, false, false] (zq26_) rfl rfl ⟨(blk_cell BK202.out 0).trans rfl, (blk_cell BK202.out 1).trans rfl, (blk_cell BK202.out 2).trans rfl⟩ (fun hHeld => ?_); refine with_tabW lombardlaw14_StageWorse.tab13 lombardlaw14_StageWorse.bits13 (fun HT_ HW_ => ?_)
  generalize w135.drew = w136 at BK189 BK191 BK192 BK193 BK197 BK201 BK202 HB hHeld ⊢
  refine pure_ (i := 1) (N := some 89) (v := ?_) (a' := ?_) #[false, true, false, false, false, false, false, false, false, false, false, false, false, false, false] rfl rfl (any_of HT_.out (zq26_)) (fun _ _ _ h => h) (Or.inl ⟨by rfl, ?_⟩) ?_ ?_
  rotate_left
  · intro w'
    go_simp
    with_reducible rfl
  rotate_left
  · simp only [Act.put, List.setIfInBounds_toArray, List.set_cons_zero, List.set_cons_succ, i64_w, i32_w]
    rfl
  exact arm1_1
  ) : P := h
set_option maxHeartbeats 8000000 in
set_option maxRecDepth 100000 in
theorem lombardlaw14_StageWorse.calls (k : Nat) (a0_0 : Int) (a0_1 : Int) (a0_2 : Int) (a0_3 : Int) (a0_4 : Bool) (a0_5 : Int) (a0_6 : Int) (A0_7 : Option Addr) (c0_7 : Nat) (l0_7 : List (S25)) (A0_8 : Option Addr) (c0_8 : Nat) (l0_8 : List (S25)) (r : Bool) (w : World) (hr0_7 : Kd.C k25 w A0_7 l0_7.length l0_7) (hc0_7 : l0_7.length ≤ c0_7) (hr0_8 : Kd.C k25 w A0_8 l0_8.length l0_8) (hc0_8 : l0_8.length ≤ c0_8) (h : lombardlaw14_StageWorse.f k a0_0 a0_1 a0_2 a0_3 a0_4 a0_5 a0_6 l0_7 l0_8 = some r) :
    Calls Try.prog 6 #[.agg #[.int .i64 a0_0, .int .i64 a0_1, .int .i64 a0_2, .int .i64 a0_3, .bool a0_4, .int .u8 a0_5, .int .u8 a0_6, .slice A0_7 l0_7.length c0_7, .slice A0_8 l0_8.length c0_8]] w fun e w' => e = .returned (.bool r) ∧ Below w.heap.size w w' := by
  have hu47 := Try.underlying47
  have hu23 := Try.underlying23
  have hu25 := Try.underlying25
  have hu27 := Try.underlying27
  have HR0_7 := Aside0.mk hr0_7
  have HC0_7 := Aside0.mk hc0_7
  clear hr0_7 hc0_7
  have HR0_8 := Aside0.mk hr0_8
  have HC0_8 := Aside0.mk hc0_8
  clear hr0_8 hc0_8
  have HB := Aside0.mk (Below.refl w.heap.size w)
  have H : ((lombardlaw14_alive.f k).bind fun t190 => (if t190 = true then (if (l0_7.length : Int) > 100 then (lombardlaw14_StageWorse.j0 k a0_5 a0_6 l0_7 l0_8 true a0_0 a0_1 a0_2 a0_3 a0_4) else (lombardlaw14_StageWorse.j0 k a0_5 a0_6 l0_7 l0_8 (decide ((l0_8.length : Int) > 100)) a0_0 a0_1 a0_2 a0_3 a0_4)) else (some false))) = some r := h
  clear h
  replace H := Option.bind_eq_some_iff.mp H
  obtain ⟨t190, A20, H⟩ := H
  replace H : (if t190 = true then (if (l0_7.length : Int) > 100 then (lombardlaw14_StageWorse.j0 k a0_5 a0_6 l0_7 l0_8 true a0_0 a0_1 a0_2 a0_3 a0_4) else (lombardlaw14_StageWorse.j0 k a0_5 a0_6 l0_7 l0_8 (decide ((l0_8.length : Int) > 100)) a0_0 a0_1 a0_2 a0_3 a0_4)) else (some false)) = some r := H
  have A2 := Aside0.mk A20
  clear A20
  by_cases c3 : t190 = true
  · subst c3
    have H1 : (if (l0_7.length : Int) > 100 then (lombardlaw14_StageWorse.j0 k a0_5 a0_6 l0_7 l0_8 true a0_0 a0_1 a0_2 a0_3 a0_4) else (lombardlaw14_StageWorse.j0 k a0_5 a0_6 l0_7 l0_8 (decide ((l0_8.length : Int) > 100)) a0_0 a0_1 a0_2 a0_3 a0_4)) = some r := by rw [if_pos rfl] at H; exact H
    clear H
    have H := H1
    clear H1
    have HC4 := Aside0.mk H
    clear H
    go_enter Try.func6, Try.ntmps6
    try go_wp2_with (first | ((with_reducible refine gate_dst (N := 1) rfl ?_); (try (refine gate_guard (by rfl) ?_; dsimp only)); refine box_event ?hg (N := 1) ?hd (cs := #[.int .i64 a0_0, .int .i64 a0_1, .int .i64 a0_2, .int .i64 a0_3, .bool a0_4, .int .u8 a0_5, .int .u8 a0_6, .slice A0_7 l0_7.length c0_7, .slice A0_8 l0_8.length c0_8]) (t := 47) ?hr ?_; (case hd => rfl); (case hg => rfl); (case hr => first | (go_simp; done) | (go_simp; rfl)); intro gb189 hg w5 hbox hb; have n0_ := Aside0.mk (below_step (zq46_) hb); have n1_ := Aside0.mk (hbox); have n2_ := Aside0.mk ((by rw [hg]; exact (below_size (zq46_)) : w.heap.size ≤ gb189)); have n3_ := Aside0.mk ((by rw [hg]; exact (below_size (zq46_)) : w.heap.size ≤ gb189)); clear HB; have HB := n0_; have BK189 := n1_; have GW189 := n2_; have GE189 := n3_; clear n0_ n1_ n2_ n3_; clear hb hbox hg) | ((with_reducible refine gate_callee (f := 8) rfl ?_); refine goesL_ (some 19) rfl rfl Try.func8 (zq26_) rfl #[] rfl (zq16_) ?_; (with_reducible refine (lombardlaw14_alive.calls k  true _ A2.out).mono ?_); rintro e w6 ⟨rfl, hb⟩; refine ⟨_, rfl, ?_⟩; have n0_ := Aside0.mk (blk_below (g := gb189) (o := .cells #[.int .i64 a0_0, .int .i64 a0_1, .int .i64 a0_2, .int .i64 a0_3, .bool a0_4, .int .u8 a0_5, .int .u8 a0_6, .slice A0_7 l0_7.length c0_7, .slice A0_8 l0_8.length c0_8] 47 (0, 0)) (zq4_) hb); have n1_ := Aside0.mk (below_step (zq28_) hb); clear BK189; clear HB; have BK189 := n0_; have HB := n1_; clear n0_ n1_; (try clear hb); (try clear hb2); (try clear hk); (try clear hi)))
    have n0_ := Aside0.mk (blk_drew BK189.out)
    have n1_ := Aside0.mk (below_drew1 HB.out)
    clear BK189
    clear HB
    have BK189 := n0_
    have HB := n1_
    clear n0_ n1_
    refine start_ (n := 20) (S := fun w' => w'.cell? ⟨gb189, 0, none⟩ = some (.int .i64 a0_0) ∧ w'.cell? ⟨gb189, 1, none⟩ = some (.int .i64 a0_1) ∧ w'.cell? ⟨gb189, 2, none⟩ = some (.int .i64 a0_2) ∧ w'.cell? ⟨gb189, 3, none⟩ = some (.int .i64 a0_3) ∧ w'.cell? ⟨gb189, 4, none⟩ = some (.bool a0_4) ∧ w'.cell? ⟨gb189, 5, none⟩ = some (.int .u8 a0_5) ∧ w'.cell? ⟨gb189, 6, none⟩ = some (.int .u8 a0_6) ∧ w'.cell? ⟨gb189, 7, none⟩ = some (.slice A0_7 l0_7.length c0_7) ∧ w'.cell? ⟨gb189, 8, none⟩ = some (.slice A0_8 l0_8.length c0_8)) (ds := []) #[false, false, false, false, false, false, false, false, false, false, false, false, false, false, false, false, false, false, false, false] (zq26_) rfl rfl ⟨(blk_cell BK189.out 0).trans rfl, (blk_cell BK189.out 1).trans rfl, (blk_cell BK189.out 2).trans rfl, (blk_cell BK189.out 3).trans rfl, (blk_cell BK189.out 4).trans rfl, (blk_cell BK189.out 5).trans rfl, (blk_cell BK189.out 6).trans rfl, (blk_cell BK189.out 7).trans rfl, (blk_cell BK189.out 8).trans rfl⟩ (fun hHeld => ?_); refine with_tabW lombardlaw14_StageWorse.tab3 lombardlaw14_StageWorse.bits3 (fun HT_ HW_ => ?_)
    generalize w6.drew = w7 at BK189 HB hHeld ⊢
    refine pure_ (i := 0) (N := some 21) (v := ?_) (a' := ?_) #[true, false, false, false, false, false, false, false, false, false, false, false, false, false, false, false, false, false, false, false] rfl rfl (any_of HT_.out (zq26_)) (fun _ _ _ h => h) (Or.inl ⟨by rfl, ?_⟩) ?_ ?_
    rotate_left
    · intro w'
      go_simp
      with_reducible rfl
    rotate_left
    · simp only [Act.put, List.setIfInBounds_toArray, List.set_cons_zero, List.set_cons_succ, i64_w, i32_w]
      rfl
    refine pure_ (i := 2) (N := some 23) (v := ?_) (a' := ?_) #[true, false, true, false, false, false, false, false, false, false, false, false, false, false, false, false, false, false, false, false] rfl rfl (any_of HT_.out (zq26_)) (fun _ _ _ h => h) (Or.inl ⟨by rfl, ?_⟩) ?_ ?_
    rotate_left
    · intro w'
      go_simp
      with_reducible rfl
    rotate_left
    · simp only [Act.put, List.setIfInBounds_toArray, List.set_cons_zero, List.set_cons_succ, i64_w, i32_w]
      rfl
    refine pure_ (i := 4) (N := some 25) (v := ?_) (a' := ?_) #[true, false, true, false, true, false, false, false, false, false, false, false, false, false, false, false, false, false, false, false] rfl rfl (any_of HT_.out (zq26_)) (fun _ _ _ h => h) (Or.inl ⟨by rfl, ?_⟩) ?_ ?_
    rotate_left
    · intro w'
      go_simp
      with_reducible rfl
    rotate_left
    · simp only [Act.put, List.setIfInBounds_toArray, List.set_cons_zero, List.set_cons_succ, i64_w, i32_w]
      rfl
    refine pure_ (i := 6) (N := some 27) (v := ?_) (a' := ?_) #[true, false, true, false, true, false, true, false, false, false, false, false, false, false, false, false, false, false, false, false] rfl rfl (any_of HT_.out (zq26_)) (fun _ _ _ h => h) (Or.inl ⟨by rfl, ?_⟩) ?_ ?_
    rotate_left
    · intro w'
      go_simp
      with_reducible rfl
    rotate_left
    · simp only [Act.put, List.setIfInBounds_toArray, List.set_cons_zero, List.set_cons_succ, i64_w, i32_w]
      rfl
    refine pure_ (i := 8) (N := some 29) (v := ?_) (a' := ?_) #[true, false, true, false, true, false, true, false, true, false, false, false, false, false, false, false, false, false, false, false] rfl rfl (any_of HT_.out (zq26_)) (fun _ _ _ h => h) (Or.inl ⟨by rfl, ?_⟩) ?_ ?_
    rotate_left
    · intro w'
      go_simp
      with_reducible rfl
    rotate_left
    · simp only [Act.put, List.setIfInBounds_toArray, List.set_cons_zero, List.set_cons_succ, i64_w, i32_w]
      rfl
    refine pure_ (i := 10) (N := some 31) (v := ?_) (a' := ?_) #[true, false, true, false, true, false, true, false, true, false, true, false, false, false, false, false, false, false, false, false] rfl rfl (any_of HT_.out (zq26_)) (fun _ _ _ h => h) (Or.inl ⟨by rfl, ?_⟩) ?_ ?_
    rotate_left
    · intro w'
      go_simp
      with_reducible rfl
    rotate_left
    · simp only [Act.put, List.setIfInBounds_toArray, List.set_cons_zero, List.set_cons_succ, i64_w, i32_w]
      rfl
    refine take_ (i := 1) (N := some 22) (v := ?_) (a' := ?_) #[true, true, true, false, true, false, true, false, true, false, true, false, false, false, false, false, false, false, false, false] rfl rfl (take_ofW HT_.out HW_.out (zq26_)) (fun _ _ _ h => h) (Or.inl ⟨by rfl, ?_⟩) hHeld ?_ ?_
    rotate_left
    · rintro w' ⟨s0, s1, s2, s3, s4, s5, s6, s7, s8⟩
      go_simp
      with_reducible rfl
    rotate_left
    · simp only [Act.put, List.setIfInBounds_toArray, List.set_cons_zero, List.set_cons_succ, i64_w, i32_w]
      rfl
    refine take_ (i := 3) (N := some 24) (v := ?_) (a' := ?_) #[true, true, true, true, true, false, true, false, true, false, true, false, false, false, false, false, false, false, false, false] rfl rfl (take_ofW HT_.out HW_.out (zq26_)) (fun _ _ _ h => h) (Or.inl ⟨by rfl, ?_⟩) hHeld ?_ ?_
    rotate_left
    · rintro w' ⟨s0, s1, s2, s3, s4, s5, s6, s7, s8⟩
      go_simp
      with_reducible rfl
    rotate_left
    · simp only [Act.put, List.setIfInBounds_toArray, List.set_cons_zero, List.set_cons_succ, i64_w, i32_w]
      rfl
    refine take_ (i := 5) (N := some 26) (v := ?_) (a' := ?_) #[true, true, true, true, true, true, true, false, true, false, true, false, false, false, false, false, false, false, false, false] rfl rfl (take_ofW HT_.out HW_.out (zq26_)) (fun _ _ _ h => h) (Or.inl ⟨by rfl, ?_⟩) hHeld ?_ ?_
    rotate_left
    · rintro w' ⟨s0, s1, s2, s3, s4, s5, s6, s7, s8⟩
      go_simp
      with_reducible rfl
    rotate_left
    · simp only [Act.put, List.setIfInBounds_toArray, List.set_cons_zero, List.set_cons_succ, i64_w, i32_w]
      rfl
    refine take_ (i := 7) (N := some 28) (v := ?_) (a' := ?_) #[true, true, true, true, true, true, true, true, true, false, true, false, false, false, false, false, false, false, false, false] rfl rfl (take_ofW HT_.out HW_.out (zq26_)) (fun _ _ _ h => h) (Or.inl ⟨by rfl, ?_⟩) hHeld ?_ ?_
    rotate_left
    · rintro w' ⟨s0, s1, s2, s3, s4, s5, s6, s7, s8⟩
      go_simp
      with_reducible rfl
    rotate_left
    · simp only [Act.put, List.setIfInBounds_toArray, List.set_cons_zero, List.set_cons_succ, i64_w, i32_w]
      rfl
    refine take_ (i := 9) (N := some 30) (v := ?_) (a' := ?_) #[true, true, true, true, true, true, true, true, true, true, true, false, false, false, false, false, false, false, false, false] rfl rfl (take_ofW HT_.out HW_.out (zq26_)) (fun _ _ _ h => h) (Or.inl ⟨by rfl, ?_⟩) hHeld ?_ ?_
    rotate_left
    · rintro w' ⟨s0, s1, s2, s3, s4, s5, s6, s7, s8⟩
      go_simp
      with_reducible rfl
    rotate_left
    · simp only [Act.put, List.setIfInBounds_toArray, List.set_cons_zero, List.set_cons_succ, i64_w, i32_w]
      rfl
    refine take_ (i := 11) (N := some 32) (v := ?_) (a' := ?_) #[true, true, true, true, true, true, true, true, true, true, true, true, false, false, false, false, false, false, false, false] rfl rfl (take_ofW HT_.out HW_.out (zq26_)) (fun _ _ _ h => h) (Or.inl ⟨by rfl, ?_⟩) hHeld ?_ ?_
    rotate_left
    · rintro w' ⟨s0, s1, s2, s3, s4, s5, s6, s7, s8⟩
      go_simp
      with_reducible rfl
    rotate_left
    · simp only [Act.put, List.setIfInBounds_toArray, List.set_cons_zero, List.set_cons_succ, i64_w, i32_w]
      rfl
    refine join_ (σ := Nat × Nat) 6 #[true, true, true, true, true, true, true, true, true, true, true, true, true, true, false, false, false, false, false, false] (fun s_ => [(3, .pointer (some ⟨s_.1, 0, none⟩)), (4, .pointer (some ⟨s_.2, 0, none⟩))]) (fun s_ w' => (w'.cell? ⟨gb189, 0, none⟩ = some (.int .i64 a0_0) ∧ w'.cell? ⟨gb189, 1, none⟩ = some (.int .i64 a0_1) ∧ w'.cell? ⟨gb189, 2, none⟩ = some (.int .i64 a0_2) ∧ w'.cell? ⟨gb189, 3, none⟩ = some (.int .i64 a0_3) ∧ w'.cell? ⟨gb189, 4, none⟩ = some (.bool a0_4) ∧ w'.cell? ⟨gb189, 5, none⟩ = some (.int .u8 a0_5) ∧ w'.cell? ⟨gb189, 6, none⟩ = some (.int .u8 a0_6) ∧ w'.cell? ⟨gb189, 7, none⟩ = some (.slice A0_7 l0_7.length c0_7) ∧ w'.cell? ⟨gb189, 8, none⟩ = some (.slice A0_8 l0_8.length c0_8)) ∧ (w'.heap[gb189]? = some (.cells #[.int .i64 a0_0, .int .i64 a0_1, .int .i64 a0_2, .int .i64 a0_3, .bool a0_4, .int .u8 a0_5, .int .u8 a0_6, .slice A0_7 l0_7.length c0_7, .slice A0_8 l0_8.length c0_8] 47 (0, 0))) ∧ (w'.heap[s_.1]? = some (.cells #[.int .i64 0, .int .i64 0] 23 (0, 0))) ∧ (w'.heap[s_.2]? = some (.cells #[.int .i64 0, .int .i64 0, .bool false] 25 (0, 0))) ∧ (w.heap.size ≤ s_.1) ∧ (w.heap.size ≤ s_.1) ∧ (gb189 ≠ s_.1) ∧ (s_.1 ≠ gb189) ∧ (s_.2 ≠ s_.1) ∧ (s_.1 ≠ s_.2) ∧ (w.heap.size ≤ s_.2) ∧ (w.heap.size ≤ s_.2) ∧ (gb189 ≠ s_.2) ∧ (s_.2 ≠ gb189) ∧ (Below w.heap.size w w')) ?_ ?_
    rotate_left
    · intro hCont
      refine two_ (i := 12) (j := 13) (Ni := some 3) (Nj := some 4) #[true, true, true, true, true, true, true, true, true, true, true, true, true, false, false, false, false, false, false, false] #[true, true, true, true, true, true, true, true, true, true, true, true, false, true, false, false, false, false, false, false] rfl rfl rfl rfl (two_of HT_.out (zq26_)) (zq43_) (zq43_) (fun K hK => ?_) (fun K hK => ?_)
      · skip
        refine box_step ?hg (N := 3) ?hd (cs := #[.int .i64 0, .int .i64 0]) (t := 23) ?hr ?_; (case hd => rfl); (case hg => rfl); (case hr => first | (go_simp; done) | (go_simp; rfl))
        intro gb191 hg w8 hbox hb
        have n0_ := Aside0.mk (blk_below (g := gb189) (o := .cells #[.int .i64 a0_0, .int .i64 a0_1, .int .i64 a0_2, .int .i64 a0_3, .bool a0_4, .int .u8 a0_5, .int .u8 a0_6, .slice A0_7 l0_7.length c0_7, .slice A0_8 l0_8.length c0_8] 47 (0, 0)) (zq4_) hb)
        have n1_ := Aside0.mk (below_step (zq28_) hb)
        have n2_ := Aside0.mk (hbox)
        have n3_ := Aside0.mk ((by rw [hg]; exact (below_size (zq28_)) : w.heap.size ≤ gb191))
        have n4_ := Aside0.mk ((by rw [hg]; exact (below_size (zq28_)) : w.heap.size ≤ gb191))
        have n5_ := Aside0.mk ((zq14_ : gb189 ≠ gb191))
        have n6_ := Aside0.mk ((zq15_ : gb191 ≠ gb189))
        clear BK189
        clear HB
        have BK189 := n0_
        have HB := n1_
        have BK191 := n2_
        have GW191 := n3_
        have GE191 := n4_
        have NB189_191 := n5_
        have NB191_189 := n6_
        clear n0_ n1_ n2_ n3_ n4_ n5_ n6_
        clear hb hbox hg
        refine hK.out _ _ ⟨(blk_cell BK189.out 0).trans rfl, (blk_cell BK189.out 1).trans rfl, (blk_cell BK189.out 2).trans rfl, (blk_cell BK189.out 3).trans rfl, (blk_cell BK189.out 4).trans rfl, (blk_cell BK189.out 5).trans rfl, (blk_cell BK189.out 6).trans rfl, (blk_cell BK189.out 7).trans rfl, (blk_cell BK189.out 8).trans rfl⟩ (fun hHeld => ?_)
        clear hK K
        refine norm_ (a' := ?_) ?_ ?_
        rotate_left
        · show Act.put _ (some 3) _ = _
          simp only [Act.put, List.setIfInBounds_toArray, List.set_cons_zero, List.set_cons_succ, i64_w, i32_w]
          rfl
        refine one_ (i := 13) (N := some 4) #[true, true, true, true, true, true, true, true, true, true, true, true, true, true, false, false, false, false, false, false] rfl rfl (one_of HT_.out (zq26_)) (zq43_) (fun K hK => ?_)
        refine box_step ?hg (N := 4) ?hd (cs := #[.int .i64 0, .int .i64 0, .bool false]) (t := 25) ?hr ?_; (case hd => rfl); (case hg => rfl); (case hr => first | (go_simp; done) | (go_simp; rfl))
        intro gb192 hg w9 hbox hb
        have n0_ := Aside0.mk (blk_below (g := gb189) (o := .cells #[.int .i64 a0_0, .int .i64 a0_1, .int .i64 a0_2, .int .i64 a0_3, .bool a0_4, .int .u8 a0_5, .int .u8 a0_6, .slice A0_7 l0_7.length c0_7, .slice A0_8 l0_8.length c0_8] 47 (0, 0)) (zq4_) hb)
        have n1_ := Aside0.mk (blk_below (g := gb191) (o := .cells #[.int .i64 0, .int .i64 0] 23 (0, 0)) (zq6_) hb)
        have n2_ := Aside0.mk (below_step (zq59_) hb)
        have n3_ := Aside0.mk (hbox)
        have n4_ := Aside0.mk ((by rw [hg]; exact (below_size (zq59_)) : w.heap.size ≤ gb192))
        have n5_ := Aside0.mk ((by rw [hg]; exact (below_size (zq59_)) : w.heap.size ≤ gb192))
        have n6_ := Aside0.mk ((zq14_ : gb189 ≠ gb192))
        have n7_ := Aside0.mk ((zq15_ : gb192 ≠ gb189))
        have n8_ := Aside0.mk ((by rw [hg]; exact Nat.ne_of_lt (blk_lt (g := gb191) (o := .cells #[.int .i64 0, .int .i64 0] 23 (0, 0)) (zq6_)) : gb191 ≠ gb192))
        have n9_ := Aside0.mk ((by rw [hg]; exact Nat.ne_of_gt (blk_lt (g := gb191) (o := .cells #[.int .i64 0, .int .i64 0] 23 (0, 0)) (zq6_)) : gb192 ≠ gb191))
        clear BK189
        clear BK191
        clear HB
        have BK189 := n0_
        have BK191 := n1_
        have HB := n2_
        have BK192 := n3_
        have GW192 := n4_
        have GE192 := n5_
        have NB189_192 := n6_
        have NB192_189 := n7_
        have NB191_192 := n8_
        have NB192_191 := n9_
        clear n0_ n1_ n2_ n3_ n4_ n5_ n6_ n7_ n8_ n9_
        clear hb hbox hg
        refine hK.out _ _ ⟨(blk_cell BK189.out 0).trans rfl, (blk_cell BK189.out 1).trans rfl, (blk_cell BK189.out 2).trans rfl, (blk_cell BK189.out 3).trans rfl, (blk_cell BK189.out 4).trans rfl, (blk_cell BK189.out 5).trans rfl, (blk_cell BK189.out 6).trans rfl, (blk_cell BK189.out 7).trans rfl, (blk_cell BK189.out 8).trans rfl⟩ (fun hHeld => ?_)
        clear hK K
        refine norm_ (a' := ?_) ?_ ?_
        rotate_left
        · show Act.put _ (some 4) _ = _
          simp only [Act.put, List.setIfInBounds_toArray, List.set_cons_zero, List.set_cons_succ, i64_w, i32_w]
          rfl
        exact norm_ (by simp only [putAll, Act.put, List.setIfInBounds_toArray, List.set_cons_zero, List.set_cons_succ]) (hCont (gb191, gb192) _ ⟨hHeld, (zq4_), (zq6_), (zq2_), GW191.out, GE191.out, NB189_191.out, NB191_189.out, NB192_191.out, NB191_192.out, GW192.out, GE192.out, NB189_192.out, NB192_189.out, (zq44_)⟩)
      · skip
        refine box_step ?hg (N := 4) ?hd (cs := #[.int .i64 0, .int .i64 0, .bool false]) (t := 25) ?hr ?_; (case hd => rfl); (case hg => rfl); (case hr => first | (go_simp; done) | (go_simp; rfl))
        intro gb192 hg w8 hbox hb
        have n0_ := Aside0.mk (blk_below (g := gb189) (o := .cells #[.int .i64 a0_0, .int .i64 a0_1, .int .i64 a0_2, .int .i64 a0_3, .bool a0_4, .int .u8 a0_5, .int .u8 a0_6, .slice A0_7 l0_7.length c0_7, .slice A0_8 l0_8.length c0_8] 47 (0, 0)) (zq4_) hb)
        have n1_ := Aside0.mk (below_step (zq28_) hb)
        have n2_ := Aside0.mk (hbox)
        have n3_ := Aside0.mk ((by rw [hg]; exact (below_size (zq28_)) : w.heap.size ≤ gb192))
        have n4_ := Aside0.mk ((by rw [hg]; exact (below_size (zq28_)) : w.heap.size ≤ gb192))
        have n5_ := Aside0.mk ((zq14_ : gb189 ≠ gb192))
        have n6_ := Aside0.mk ((zq15_ : gb192 ≠ gb189))
        clear BK189
        clear HB
        have BK189 := n0_
        have HB := n1_
        have BK192 := n2_
        have GW192 := n3_
        have GE192 := n4_
        have NB189_192 := n5_
        have NB192_189 := n6_
        clear n0_ n1_ n2_ n3_ n4_ n5_ n6_
        clear hb hbox hg
        refine hK.out _ _ ⟨(blk_cell BK189.out 0).trans rfl, (blk_cell BK189.out 1).trans rfl, (blk_cell BK189.out 2).trans rfl, (blk_cell BK189.out 3).trans rfl, (blk_cell BK189.out 4).trans rfl, (blk_cell BK189.out 5).trans rfl, (blk_cell BK189.out 6).trans rfl, (blk_cell BK189.out 7).trans rfl, (blk_cell BK189.out 8).trans rfl⟩ (fun hHeld => ?_)
        clear hK K
        refine norm_ (a' := ?_) ?_ ?_
        rotate_left
        · show Act.put _ (some 4) _ = _
          simp only [Act.put, List.setIfInBounds_toArray, List.set_cons_zero, List.set_cons_succ, i64_w, i32_w]
          rfl
        refine one_ (i := 12) (N := some 3) #[true, true, true, true, true, true, true, true, true, true, true, true, true, true, false, false, false, false, false, false] rfl rfl (one_of HT_.out (zq26_)) (zq43_) (fun K hK => ?_)
        refine box_step ?hg (N := 3) ?hd (cs := #[.int .i64 0, .int .i64 0]) (t := 23) ?hr ?_; (case hd => rfl); (case hg => rfl); (case hr => first | (go_simp; done) | (go_simp; rfl))
        intro gb191 hg w9 hbox hb
        have n0_ := Aside0.mk (blk_below (g := gb189) (o := .cells #[.int .i64 a0_0, .int .i64 a0_1, .int .i64 a0_2, .int .i64 a0_3, .bool a0_4, .int .u8 a0_5, .int .u8 a0_6, .slice A0_7 l0_7.length c0_7, .slice A0_8 l0_8.length c0_8] 47 (0, 0)) (zq4_) hb)
        have n1_ := Aside0.mk (blk_below (g := gb192) (o := .cells #[.int .i64 0, .int .i64 0, .bool false] 25 (0, 0)) (zq2_) hb)
        have n2_ := Aside0.mk (below_step (zq58_) hb)
        have n3_ := Aside0.mk (hbox)
        have n4_ := Aside0.mk ((by rw [hg]; exact (below_size (zq58_)) : w.heap.size ≤ gb191))
        have n5_ := Aside0.mk ((by rw [hg]; exact (below_size (zq58_)) : w.heap.size ≤ gb191))
        have n6_ := Aside0.mk ((zq14_ : gb189 ≠ gb191))
        have n7_ := Aside0.mk ((zq15_ : gb191 ≠ gb189))
        have n8_ := Aside0.mk ((by rw [hg]; exact Nat.ne_of_lt (blk_lt (g := gb192) (o := .cells #[.int .i64 0, .int .i64 0, .bool false] 25 (0, 0)) (zq2_)) : gb192 ≠ gb191))
        have n9_ := Aside0.mk ((by rw [hg]; exact Nat.ne_of_gt (blk_lt (g := gb192) (o := .cells #[.int .i64 0, .int .i64 0, .bool false] 25 (0, 0)) (zq2_)) : gb191 ≠ gb192))
        clear BK189
        clear BK192
        clear HB
        have BK189 := n0_
        have BK192 := n1_
        have HB := n2_
        have BK191 := n3_
        have GW191 := n4_
        have GE191 := n5_
        have NB189_191 := n6_
        have NB191_189 := n7_
        have NB192_191 := n8_
        have NB191_192 := n9_
        clear n0_ n1_ n2_ n3_ n4_ n5_ n6_ n7_ n8_ n9_
        clear hb hbox hg
        refine hK.out _ _ ⟨(blk_cell BK189.out 0).trans rfl, (blk_cell BK189.out 1).trans rfl, (blk_cell BK189.out 2).trans rfl, (blk_cell BK189.out 3).trans rfl, (blk_cell BK189.out 4).trans rfl, (blk_cell BK189.out 5).trans rfl, (blk_cell BK189.out 6).trans rfl, (blk_cell BK189.out 7).trans rfl, (blk_cell BK189.out 8).trans rfl⟩ (fun hHeld => ?_)
        clear hK K
        refine norm_ (a' := ?_) ?_ ?_
        rotate_left
        · show Act.put _ (some 3) _ = _
          simp only [Act.put, List.setIfInBounds_toArray, List.set_cons_zero, List.set_cons_succ, i64_w, i32_w]
          rfl
        exact norm_ (by simp only [putAll, Act.put, List.setIfInBounds_toArray, List.set_cons_zero, List.set_cons_succ]) (hCont (gb191, gb192) _ ⟨hHeld, (zq4_), (zq6_), (zq2_), GW191.out, GE191.out, NB189_191.out, NB191_189.out, NB192_191.out, NB191_192.out, GW192.out, GE192.out, NB189_192.out, NB192_189.out, (by repeat (first | (with_reducible first | exact HB.out | apply below_alloc | apply pw_below_drewN | apply below_drew1 | refine below_set ?_ GE189.out | refine below_set ?_ GE192.out | refine below_set ?_ GE191.out) | exact HB.out))⟩)
    rintro ⟨gb191, gb192⟩ w10 ⟨hS_, h0_, h1_, h2_, h3_, h4_, h5_, h6_, h7_, h8_, h9_, h10_, h11_, h12_, h13_⟩
    have n0_ : Aside0 (w10.heap[gb189]? = some (.cells #[.int .i64 a0_0, .int .i64 a0_1, .int .i64 a0_2, .int .i64 a0_3, .bool a0_4, .int .u8 a0_5, .int .u8 a0_6, .slice A0_7 l0_7.length c0_7, .slice A0_8 l0_8.length c0_8] 47 (0, 0))) := ⟨h0_⟩
    have n1_ : Aside0 (w10.heap[gb191]? = some (.cells #[.int .i64 0, .int .i64 0] 23 (0, 0))) := ⟨h1_⟩
    have n2_ : Aside0 (w10.heap[gb192]? = some (.cells #[.int .i64 0, .int .i64 0, .bool false] 25 (0, 0))) := ⟨h2_⟩
    have n3_ : Aside0 (w.heap.size ≤ gb191) := ⟨h3_⟩
    have n4_ : Aside0 (w.heap.size ≤ gb191) := ⟨h4_⟩
    have n5_ : Aside0 (gb189 ≠ gb191) := ⟨h5_⟩
    have n6_ : Aside0 (gb191 ≠ gb189) := ⟨h6_⟩
    have n7_ : Aside0 (gb192 ≠ gb191) := ⟨h7_⟩
    have n8_ : Aside0 (gb191 ≠ gb192) := ⟨h8_⟩
    have n9_ : Aside0 (w.heap.size ≤ gb192) := ⟨h9_⟩
    have n10_ : Aside0 (w.heap.size ≤ gb192) := ⟨h10_⟩
    have n11_ : Aside0 (gb189 ≠ gb192) := ⟨h11_⟩
    have n12_ : Aside0 (gb192 ≠ gb189) := ⟨h12_⟩
    have n13_ : Aside0 (Below w.heap.size w w10) := ⟨h13_⟩
    clear BK189
    clear HB
    clear h0_ h1_ h2_ h3_ h4_ h5_ h6_ h7_ h8_ h9_ h10_ h11_ h12_ h13_
    have BK189 := n0_
    have BK191 := n1_
    have BK192 := n2_
    have GW191 := n3_
    have GE191 := n4_
    have NB189_191 := n5_
    have NB191_189 := n6_
    have NB192_191 := n7_
    have NB191_192 := n8_
    have GW192 := n9_
    have GE192 := n10_
    have NB189_192 := n11_
    have NB192_189 := n12_
    have HB := n13_
    clear n0_ n1_ n2_ n3_ n4_ n5_ n6_ n7_ n8_ n9_ n10_ n11_ n12_ n13_
    have hHeld : w10.cell? ⟨gb189, 0, none⟩ = some (.int .i64 a0_0) ∧ w10.cell? ⟨gb189, 1, none⟩ = some (.int .i64 a0_1) ∧ w10.cell? ⟨gb189, 2, none⟩ = some (.int .i64 a0_2) ∧ w10.cell? ⟨gb189, 3, none⟩ = some (.int .i64 a0_3) ∧ w10.cell? ⟨gb189, 4, none⟩ = some (.bool a0_4) ∧ w10.cell? ⟨gb189, 5, none⟩ = some (.int .u8 a0_5) ∧ w10.cell? ⟨gb189, 6, none⟩ = some (.int .u8 a0_6) ∧ w10.cell? ⟨gb189, 7, none⟩ = some (.slice A0_7 l0_7.length c0_7) ∧ w10.cell? ⟨gb189, 8, none⟩ = some (.slice A0_8 l0_8.length c0_8) := hS_
    refine norm_ (a' := ?_) ?_ ?_
    rotate_left
    · simp only [putAll, Act.put, List.setIfInBounds_toArray, List.set_cons_zero, List.set_cons_succ]
      rfl
    refine one_ (i := 14) (N := none) #[true, true, true, true, true, true, true, true, true, true, true, true, true, true, true, false, false, false, false, false] rfl rfl (one_of HT_.out (zq26_)) (zq43_) (fun K hK => ?_)
    have hs11 : w10.cell? ⟨gb191, 0, none⟩ = some (.int .i64 0) := (blk_cell BK191.out 0).trans rfl
    have hfs11 := blk_frozen BK191.out 0
    have hns11_0 := NB189_191.out
    have hns11_2 := NB192_191.out
    have hms11_0 := NB191_189.out
    have hms11_2 := NB191_192.out
    have hs12 : w10.cell? ⟨gb191, 1, none⟩ = some (.int .i64 0) := (blk_cell BK191.out 1).trans rfl
    have hfs12 := blk_frozen BK191.out 1
    have hns12_0 := NB189_191.out
    have hns12_2 := NB192_191.out
    have hms12_0 := NB191_189.out
    have hms12_2 := NB191_192.out
    refine skip_ (w1 := ?_) (by rfl) rfl ?_ ?_
    rotate_left
    · go_simp
      rfl
    refine hK.out _ _ ⟨((cell_far (p := ⟨gb191, _, none⟩) NB189_191.out _).trans (((cell_far (p := ⟨gb191, _, none⟩) NB189_191.out _).trans (hHeld.1)))), ((cell_far (p := ⟨gb191, _, none⟩) NB189_191.out _).trans (((cell_far (p := ⟨gb191, _, none⟩) NB189_191.out _).trans (hHeld.2.1)))), ((cell_far (p := ⟨gb191, _, none⟩) NB189_191.out _).trans (((cell_far (p := ⟨gb191, _, none⟩) NB189_191.out _).trans (hHeld.2.2.1)))), ((cell_far (p := ⟨gb191, _, none⟩) NB189_191.out _).trans (((cell_far (p := ⟨gb191, _, none⟩) NB189_191.out _).trans (hHeld.2.2.2.1)))), ((cell_far (p := ⟨gb191, _, none⟩) NB189_191.out _).trans (((cell_far (p := ⟨gb191, _, none⟩) NB189_191.out _).trans (hHeld.2.2.2.2.1)))), ((cell_far (p := ⟨gb191, _, none⟩) NB189_191.out _).trans (((cell_far (p := ⟨gb191, _, none⟩) NB189_191.out _).trans (hHeld.2.2.2.2.2.1)))), ((cell_far (p := ⟨gb191, _, none⟩) NB189_191.out _).trans (((cell_far (p := ⟨gb191, _, none⟩) NB189_191.out _).trans (hHeld.2.2.2.2.2.2.1)))), ((cell_far (p := ⟨gb191, _, none⟩) NB189_191.out _).trans (((cell_far (p := ⟨gb191, _, none⟩) NB189_191.out _).trans (hHeld.2.2.2.2.2.2.2.1)))), ((cell_far (p := ⟨gb191, _, none⟩) NB189_191.out _).trans (((cell_far (p := ⟨gb191, _, none⟩) NB189_191.out _).trans (hHeld.2.2.2.2.2.2.2.2))))⟩ (fun hHeld => ?_)
    clear hK K
    refine one_ (i := 15) (N := none) #[true, true, true, true, true, true, true, true, true, true, true, true, true, true, true, true, false, false, false, false] rfl rfl (one_of HT_.out (zq26_)) (zq43_) (fun K hK => ?_)
    have hs13 : w10.cell? ⟨gb192, 0, none⟩ = some (.int .i64 0) := (blk_cell BK192.out 0).trans rfl
    have hfs13 := blk_frozen BK192.out 0
    have hns13_0 := NB189_192.out
    have hns13_1 := NB191_192.out
    have hms13_0 := NB192_189.out
    have hms13_1 := NB192_191.out
    have hs14 : w10.cell? ⟨gb192, 1, none⟩ = some (.int .i64 0) := (blk_cell BK192.out 1).trans rfl
    have hfs14 := blk_frozen BK192.out 1
    have hns14_0 := NB189_192.out
    have hns14_1 := NB191_192.out
    have hms14_0 := NB192_189.out
    have hms14_1 := NB192_191.out
    have hs15 : w10.cell? ⟨gb192, 2, none⟩ = some (.bool false) := (blk_cell BK192.out 2).trans rfl
    have hfs15 := blk_frozen BK192.out 2
    have hns15_0 := NB189_192.out
    have hns15_1 := NB191_192.out
    have hms15_0 := NB192_189.out
    have hms15_1 := NB192_191.out
    refine skip_ (w1 := ?_) (by rfl) rfl ?_ ?_
    rotate_left
    · go_simp
      rfl
    refine hK.out _ _ ⟨((cell_far (p := ⟨gb192, _, none⟩) NB189_192.out _).trans (((cell_far (p := ⟨gb192, _, none⟩) NB189_192.out _).trans (((cell_far (p := ⟨gb192, _, none⟩) NB189_192.out _).trans (hHeld.1)))))), ((cell_far (p := ⟨gb192, _, none⟩) NB189_192.out _).trans (((cell_far (p := ⟨gb192, _, none⟩) NB189_192.out _).trans (((cell_far (p := ⟨gb192, _, none⟩) NB189_192.out _).trans (hHeld.2.1)))))), ((cell_far (p := ⟨gb192, _, none⟩) NB189_192.out _).trans (((cell_far (p := ⟨gb192, _, none⟩) NB189_192.out _).trans (((cell_far (p := ⟨gb192, _, none⟩) NB189_192.out _).trans (hHeld.2.2.1)))))), ((cell_far (p := ⟨gb192, _, none⟩) NB189_192.out _).trans (((cell_far (p := ⟨gb192, _, none⟩) NB189_192.out _).trans (((cell_far (p := ⟨gb192, _, none⟩) NB189_192.out _).trans (hHeld.2.2.2.1)))))), ((cell_far (p := ⟨gb192, _, none⟩) NB189_192.out _).trans (((cell_far (p := ⟨gb192, _, none⟩) NB189_192.out _).trans (((cell_far (p := ⟨gb192, _, none⟩) NB189_192.out _).trans (hHeld.2.2.2.2.1)))))), ((cell_far (p := ⟨gb192, _, none⟩) NB189_192.out _).trans (((cell_far (p := ⟨gb192, _, none⟩) NB189_192.out _).trans (((cell_far (p := ⟨gb192, _, none⟩) NB189_192.out _).trans (hHeld.2.2.2.2.2.1)))))), ((cell_far (p := ⟨gb192, _, none⟩) NB189_192.out _).trans (((cell_far (p := ⟨gb192, _, none⟩) NB189_192.out _).trans (((cell_far (p := ⟨gb192, _, none⟩) NB189_192.out _).trans (hHeld.2.2.2.2.2.2.1)))))), ((cell_far (p := ⟨gb192, _, none⟩) NB189_192.out _).trans (((cell_far (p := ⟨gb192, _, none⟩) NB189_192.out _).trans (((cell_far (p := ⟨gb192, _, none⟩) NB189_192.out _).trans (hHeld.2.2.2.2.2.2.2.1)))))), ((cell_far (p := ⟨gb192, _, none⟩) NB189_192.out _).trans (((cell_far (p := ⟨gb192, _, none⟩) NB189_192.out _).trans (((cell_far (p := ⟨gb192, _, none⟩) NB189_192.out _).trans (hHeld.2.2.2.2.2.2.2.2))))))⟩ (fun hHeld => ?_)
    clear hK K
    refine pure_ (i := 16) (N := some 5) (v := ?_) (a' := ?_) #[true, true, true, true, true, true, true, true, true, true, true, true, true, true, true, true, true, false, false, false] rfl rfl (any_of HT_.out (zq26_)) (fun _ _ _ h => h) (Or.inl ⟨by rfl, ?_⟩) ?_ ?_
    rotate_left
    · intro w'
      go_simp
      with_reducible rfl
    rotate_left
    · simp only [Act.put, List.setIfInBounds_toArray, List.set_cons_zero, List.set_cons_succ, i64_w, i32_w]
      rfl
    refine pure_ (i := 17) (N := some 6) (v := ?_) (a' := ?_) #[true, true, true, true, true, true, true, true, true, true, true, true, true, true, true, true, true, true, false, false] rfl rfl (any_of HT_.out (zq26_)) (fun _ _ _ h => h) (Or.inl ⟨by rfl, ?_⟩) ?_ ?_
    rotate_left
    · intro w'
      go_simp
      with_reducible rfl
    rotate_left
    · simp only [Act.put, List.setIfInBounds_toArray, List.set_cons_zero, List.set_cons_succ, i64_w, i32_w]
      rfl
    refine pure_ (i := 18) (N := some 7) (v := ?_) (a' := ?_) #[true, true, true, true, true, true, true, true, true, true, true, true, true, true, true, true, true, true, true, false] rfl rfl (any_of HT_.out (zq26_)) (fun _ _ _ h => h) (Or.inl ⟨by rfl, ?_⟩) ?_ ?_
    rotate_left
    · intro w'
      go_simp
      with_reducible rfl
    rotate_left
    · simp only [Act.put, List.setIfInBounds_toArray, List.set_cons_zero, List.set_cons_succ, i64_w, i32_w]
      rfl
    refine pure_ (i := 19) (N := some 8) (v := ?_) (a' := ?_) #[true, true, true, true, true, true, true, true, true, true, true, true, true, true, true, true, true, true, true, true] rfl rfl (any_of HT_.out (zq26_)) (fun _ _ _ h => h) (Or.inl ⟨by rfl, ?_⟩) ?_ ?_
    rotate_left
    · intro w'
      go_simp
      with_reducible rfl
    rotate_left
    · simp only [Act.put, List.setIfInBounds_toArray, List.set_cons_zero, List.set_cons_succ, i64_w, i32_w]
      rfl
    refine done_ (done_of HT_.out (zq26_)) ?_
    go_upto_region 4 with (fail)
    go_cut [40] (fun v40 wc => ∃ (kq : Nat) (x40_3 : Bool), v40 = .bool x40_3 ∧ Aside0 (lombardlaw14_StageWorse.j0 kq a0_5 a0_6 l0_7 l0_8 x40_3 a0_0 a0_1 a0_2 a0_3 a0_4 = some r) ∧ Aside0 (kq ≤ k) ∧ Aside0 (wc.heap[gb189]? = some (.cells #[.int .i64 a0_0, .int .i64 a0_1, .int .i64 a0_2, .int .i64 a0_3, .bool a0_4, .int .u8 a0_5, .int .u8 a0_6, (.slice A0_7 l0_7.length c0_7), (.slice A0_8 l0_8.length c0_8)] 47 (0, 0))) ∧ Aside0 (wc.heap[gb191]? = some (.cells #[.int .i64 a0_0, .int .i64 a0_1] 23 (0, 0))) ∧ Aside0 (wc.heap[gb192]? = some (.cells #[.int .i64 a0_2, .int .i64 a0_3, .bool a0_4] 25 (0, 0))) ∧ Aside0 (Below w.heap.size w wc))
    case first =>
      have H := HC4.out
      clear HC4
      by_cases c16 : (l0_7.length : Int) > 100
      · rw [if_pos c16] at H
        have c16b0 : decide (100 < (l0_7.length : Int)) = true := decide_eq_true c16
        have c16b1 : decide (100 < l0_7.length) = true := decide_eq_true (by omega)
        clear c16
        (first | rw [c16b0] | (simp only [i64_w, i32_w]; rw [c16b0]) | skip)
        have H' := Aside0.mk H
        clear H
        go_wp2
        go_meet
        case rel => exact ⟨_, (true), (by first | rfl | (simp; done) | (simp [*]; done)), H', ⟨by first | omega | exact Nat.le_refl _⟩, ⟨zq40_⟩, ⟨zq38_⟩, ⟨zq36_⟩, ⟨zq57_⟩⟩
      · rw [if_neg c16] at H
        have c16b0 : decide (100 < (l0_7.length : Int)) = false := decide_eq_false c16
        have c16b1 : decide (100 < l0_7.length) = false := decide_eq_false (by omega)
        clear c16
        (first | rw [c16b0] | (simp only [i64_w, i32_w]; rw [c16b0]) | skip)
        have H' := Aside0.mk H
        clear H
        go_wp2
        go_meet
        case rel => exact ⟨_, (decide ((l0_8.length : Int) > 100)), (by first | rfl | (simp; done) | (simp [*]; done)), H', ⟨by first | omega | exact Nat.le_refl _⟩, ⟨zq40_⟩, ⟨zq38_⟩, ⟨zq36_⟩, ⟨zq57_⟩⟩
    case rest =>
      clear HC4
      try clear c1
      try clear p2
      try clear c3
      try clear c6
      try clear c8
      try clear c16
      try clear c16b0
      try clear c16b1
      obtain ⟨kq, x40_3, rfl, HA, HJ3, BK189, BK191, BK192, HB⟩ := hcut
      cases kq with
      | zero => exact absurd HA.out (by simp [lombardlaw14_StageWorse.j0])
      | succ kj3 =>
        have H := HA.out
        clear HA
        simp only [lombardlaw14_StageWorse.j0] at H
        by_cases c17 : x40_3 = true
        · subst c17
          have H1 : (some true) = some r := by rw [if_pos rfl] at H; exact H
          clear H
          have H := H1
          clear H1
          obtain rfl := Option.some.inj H
          go_wp2
          go_ret
          exact ⟨zq56_, zq57_⟩
        · replace c17 := Bool.eq_false_iff.mpr c17
          subst c17
          have H1 : (if a0_4 = true then (lombardlaw14_StageWorse.j1 kj3 l0_7 l0_8 a0_0 a0_1 a0_2 a0_3 a0_4 (wrap64 (a0_2 + (wrap64 (a0_5)))) (wrap64 (a0_3 + (wrap64 (a0_6)))) true) else (lombardlaw14_StageWorse.j1 kj3 l0_7 l0_8 a0_0 a0_1 a0_2 a0_3 a0_4 (wrap64 (a0_2 + (wrap64 (a0_5)))) (wrap64 (a0_3 + (wrap64 (a0_6)))) (decide (a0_5 > 200)))) = some r := by rw [if_neg (show ¬ (false = true) by decide)] at H; exact H
          clear H
          have H := H1
          clear H1
          have HC18 := Aside0.mk H
          clear H
          have hnb19 := NB192_189.out
          have hnc19 := NB189_192.out
          have hnb20 := NB192_191.out
          have hnc20 := NB191_192.out
          have hcz21_0 : wc.cell? ⟨gb192, 0, none⟩ = some (.int .i64 a0_2) := (blk_cell BK192.out 0).trans rfl
          have hcz21_1 : wc.cell? ⟨gb192, 1, none⟩ = some (.int .i64 a0_3) := (blk_cell BK192.out 1).trans rfl
          have hcz21_2 : wc.cell? ⟨gb192, 2, none⟩ = some (.bool a0_4) := (blk_cell BK192.out 2).trans rfl
          have hfz21_0 := blk_frozen BK192.out 0
          have hfz21_1 := blk_frozen BK192.out 1
          have hfz21_2 := blk_frozen BK192.out 2
          go_upto_region 7 with (first | ((with_reducible refine gate_dst (N := 9) rfl ?_); (try (refine gate_guard (by rfl) ?_; dsimp only)); refine box_event ?hg (N := 9) ?hd (cs := #[.int .i64 0, .int .i64 0, .bool false]) (t := 25) ?hr ?_; (case hd => rfl); (case hg => rfl); (case hr => first | (go_simp; done) | (go_simp; rfl)); intro gb193 hg w22 hbox hb; have n0_ := Aside0.mk (blk_below (g := gb189) (o := .cells #[.int .i64 a0_0, .int .i64 a0_1, .int .i64 a0_2, .int .i64 a0_3, .bool a0_4, .int .u8 a0_5, .int .u8 a0_6, .slice A0_7 l0_7.length c0_7, .slice A0_8 l0_8.length c0_8] 47 (0, 0)) (zq4_) hb); have n1_ := Aside0.mk (blk_below (g := gb191) (o := .cells #[.int .i64 a0_0, .int .i64 a0_1] 23 (0, 0)) (zq6_) hb); have n2_ := Aside0.mk (blk_below (g := gb192) (o := .cells #[.int .i64 a0_2, .int .i64 a0_3, .bool a0_4] 25 (0, 0)) (zq2_) hb); have n3_ := Aside0.mk (below_step (zq44_) hb); have n4_ := Aside0.mk (hbox); have n5_ := Aside0.mk ((by rw [hg]; exact (below_size (zq44_)) : w.heap.size ≤ gb193)); have n6_ := Aside0.mk ((by rw [hg]; exact (below_size (zq44_)) : w.heap.size ≤ gb193)); have n7_ := Aside0.mk ((zq14_ : gb189 ≠ gb193)); have n8_ := Aside0.mk ((zq15_ : gb193 ≠ gb189)); have n9_ := Aside0.mk ((zq51_ : gb191 ≠ gb193)); have n10_ := Aside0.mk ((zq52_ : gb193 ≠ gb191)); have n11_ := Aside0.mk ((zq47_ : gb192 ≠ gb193)); have n12_ := Aside0.mk ((zq48_ : gb193 ≠ gb192)); clear BK189; clear BK191; clear BK192; clear HB; have BK189 := n0_; have BK191 := n1_; have BK192 := n2_; have HB := n3_; have BK193 := n4_; have GW193 := n5_; have GE193 := n6_; have NB189_193 := n7_; have NB193_189 := n8_; have NB191_193 := n9_; have NB193_191 := n10_; have NB192_193 := n11_; have NB193_192 := n12_; clear n0_ n1_ n2_ n3_ n4_ n5_ n6_ n7_ n8_ n9_ n10_ n11_ n12_; clear hb hbox hg; have hnb23 := NB193_189.out; have hnc23 := NB189_193.out; have hnb24 := NB193_191.out; have hnc24 := NB191_193.out; have hnb25 := NB193_192.out; have hnc25 := NB192_193.out; have hcz26_0 : w22.cell? ⟨gb193, 0, none⟩ = some (.int .i64 0) := (blk_cell BK193.out 0).trans rfl; have hcz26_1 : w22.cell? ⟨gb193, 1, none⟩ = some (.int .i64 0) := (blk_cell BK193.out 1).trans rfl; have hcz26_2 : w22.cell? ⟨gb193, 2, none⟩ = some (.bool false) := (blk_cell BK193.out 2).trans rfl; have hfz26_0 := blk_frozen BK193.out 0; have hfz26_1 := blk_frozen BK193.out 1; have hfz26_2 := blk_frozen BK193.out 2))
          (try simp only [Act.put, List.setIfInBounds_toArray, List.set_cons_zero, List.set_cons_succ])
          go_cut [] (fun wc => ∃ (kq : Nat) (x194000_17 : Int) (x194001_17 : Int) (x194002_17 : Bool), Aside0 (lombardlaw14_StageWorse.j1 kq l0_7 l0_8 a0_0 a0_1 a0_2 a0_3 a0_4 x194000_17 x194001_17 x194002_17 = some r) ∧ Aside0 (kq ≤ kj3) ∧ Aside0 (wc.heap[gb189]? = some (.cells #[.int .i64 a0_0, .int .i64 a0_1, .int .i64 a0_2, .int .i64 a0_3, .bool a0_4, .int .u8 a0_5, .int .u8 a0_6, (.slice A0_7 l0_7.length c0_7), (.slice A0_8 l0_8.length c0_8)] 47 (0, 0))) ∧ Aside0 (wc.heap[gb191]? = some (.cells #[.int .i64 a0_0, .int .i64 a0_1] 23 (0, 0))) ∧ Aside0 (wc.heap[gb192]? = some (.cells #[.int .i64 a0_2, .int .i64 a0_3, .bool a0_4] 25 (0, 0))) ∧ Aside0 (wc.heap[gb193]? = some (.cells #[.int .i64 x194000_17, .int .i64 x194001_17, .bool x194002_17] 25 (0, 0))) ∧ Aside0 (Below w.heap.size w wc))
          case first =>
            have H := HC18.out
            clear HC18
            by_cases c27 : a0_4 = true
            · subst c27
              have H1 : (lombardlaw14_StageWorse.j1 kj3 l0_7 l0_8 a0_0 a0_1 a0_2 a0_3 true (wrap64 (a0_2 + (wrap64 (a0_5)))) (wrap64 (a0_3 + (wrap64 (a0_6)))) true) = some r := by rw [if_pos rfl] at H; exact H
              clear H
              have H := H1
              clear H1
              have H' := Aside0.mk H
              clear H
              try go_wp2
              have n0_ : Aside0 ((((w22.setCell ⟨gb193, 0, none⟩ (.int .i64 a0_2)).setCell ⟨gb193, 1, none⟩ (.int .i64 a0_3)).setCell ⟨gb193, 2, none⟩ (.bool true)).heap[gb189]? = some (.cells #[.int .i64 a0_0, .int .i64 a0_1, .int .i64 a0_2, .int .i64 a0_3, .bool true, .int .u8 a0_5, .int .u8 a0_6, .slice A0_7 l0_7.length c0_7, .slice A0_8 l0_8.length c0_8] 47 (0, 0))) := ⟨zq24_⟩
              have n1_ : Aside0 ((((w22.setCell ⟨gb193, 0, none⟩ (.int .i64 a0_2)).setCell ⟨gb193, 1, none⟩ (.int .i64 a0_3)).setCell ⟨gb193, 2, none⟩ (.bool true)).heap[gb191]? = some (.cells #[.int .i64 a0_0, .int .i64 a0_1] 23 (0, 0))) := ⟨zq23_⟩
              have n2_ : Aside0 ((((w22.setCell ⟨gb193, 0, none⟩ (.int .i64 a0_2)).setCell ⟨gb193, 1, none⟩ (.int .i64 a0_3)).setCell ⟨gb193, 2, none⟩ (.bool true)).heap[gb192]? = some (.cells #[.int .i64 a0_2, .int .i64 a0_3, .bool true] 25 (0, 0))) := ⟨zq22_⟩
              have n3_ : Aside0 ((((w22.setCell ⟨gb193, 0, none⟩ (.int .i64 a0_2)).setCell ⟨gb193, 1, none⟩ (.int .i64 a0_3)).setCell ⟨gb193, 2, none⟩ (.bool true)).heap[gb193]? = some (.cells #[.int .i64 a0_2, .int .i64 a0_3, .bool true] 25 (0, 0))) := ⟨zq45_⟩
              have n4_ : Aside0 (Below w.heap.size w (((w22.setCell ⟨gb193, 0, none⟩ (.int .i64 a0_2)).setCell ⟨gb193, 1, none⟩ (.int .i64 a0_3)).setCell ⟨gb193, 2, none⟩ (.bool true))) := ⟨zq42_⟩
              (try clear BK189)
              (try clear BK191)
              (try clear BK192)
              (try clear BK193)
              (try clear HB)
              generalize (((w22.setCell ⟨gb193, 0, none⟩ (.int .i64 a0_2)).setCell ⟨gb193, 1, none⟩ (.int .i64 a0_3)).setCell ⟨gb193, 2, none⟩ (.bool true)) = w28 at n0_ n1_ n2_ n3_ n4_ ⊢
              have BK189 := n0_
              have BK191 := n1_
              have BK192 := n2_
              have BK193 := n3_
              have HB := n4_
              clear n0_ n1_ n2_ n3_ n4_
              have n0_ := Aside0.mk (blk_drew BK189.out)
              have n1_ := Aside0.mk (blk_drew BK191.out)
              have n2_ := Aside0.mk (blk_drew BK192.out)
              have n3_ := Aside0.mk (blk_drew BK193.out)
              have n4_ := Aside0.mk (below_drew1 HB.out)
              clear BK189
              clear BK191
              clear BK192
              clear BK193
              clear HB
              have BK189 := n0_
              have BK191 := n1_
              have BK192 := n2_
              have BK193 := n3_
              have HB := n4_
              clear n0_ n1_ n2_ n3_ n4_
              refine start_ (n := 22) (S := fun w' => w'.cell? ⟨gb192, 0, none⟩ = some (.int .i64 a0_2) ∧ w'.cell? ⟨gb192, 1, none⟩ = some (.int .i64 a0_3) ∧ w'.cell? ⟨gb192, 2, none⟩ = some (.bool true)) (ds := []) #[false, false, false, false, false, false, false, false, false, false, false, false, false, false, false, false, false, false, false, false, false, false] (zq26_) rfl rfl ⟨(blk_cell BK192.out 0).trans rfl, (blk_cell BK192.out 1).trans rfl, (blk_cell BK192.out 2).trans rfl⟩ (fun hHeld => ?_); refine with_tabW lombardlaw14_StageWorse.tab7 lombardlaw14_StageWorse.bits7 (fun HT_ HW_ => ?_)
              generalize w28.drew = w29 at BK189 BK191 BK192 BK193 HB hHeld ⊢
              refine pure_ (i := 0) (N := some 42) (v := ?_) (a' := ?_) #[true, false, false, false, false, false, false, false, false, false, false, false, false, false, false, false, false, false, false, false, false, false] rfl rfl (any_of HT_.out (zq26_)) (fun _ _ _ h => h) (Or.inl ⟨by rfl, ?_⟩) ?_ ?_
              rotate_left
              · intro w'
                go_simp
                with_reducible rfl
              rotate_left
              · simp only [Act.put, List.setIfInBounds_toArray, List.set_cons_zero, List.set_cons_succ, i64_w, i32_w]
                rfl
              refine pure_ (i := 2) (N := some 44) (v := ?_) (a' := ?_) #[true, false, true, false, false, false, false, false, false, false, false, false, false, false, false, false, false, false, false, false, false, false] rfl rfl (any_of HT_.out (zq26_)) (fun _ _ _ h => h) (Or.inl ⟨by rfl, ?_⟩) ?_ ?_
              rotate_left
              · intro w'
                go_simp
                with_reducible rfl
              rotate_left
              · simp only [Act.put, List.setIfInBounds_toArray, List.set_cons_zero, List.set_cons_succ, i64_w, i32_w]
                rfl
              refine pure_ (i := 3) (N := some 45) (v := ?_) (a' := ?_) #[true, false, true, true, false, false, false, false, false, false, false, false, false, false, false, false, false, false, false, false, false, false] rfl rfl (any_of HT_.out (zq26_)) (fun _ _ _ h => h) (Or.inl ⟨by rfl, ?_⟩) ?_ ?_
              rotate_left
              · intro w'
                go_simp
                with_reducible rfl
              rotate_left
              · simp only [Act.put, List.setIfInBounds_toArray, List.set_cons_zero, List.set_cons_succ, i64_w, i32_w]
                rfl
              refine pure_ (i := 5) (N := some 47) (v := ?_) (a' := ?_) #[true, false, true, true, false, true, false, false, false, false, false, false, false, false, false, false, false, false, false, false, false, false] rfl rfl (any_of HT_.out (zq26_)) (fun _ _ _ h => h) (Or.inl ⟨by rfl, ?_⟩) ?_ ?_
              rotate_left
              · intro w'
                go_simp
                with_reducible rfl
              rotate_left
              · simp only [Act.put, List.setIfInBounds_toArray, List.set_cons_zero, List.set_cons_succ, i64_w, i32_w]
                rfl
              refine pure_ (i := 7) (N := some 49) (v := ?_) (a' := ?_) #[true, false, true, true, false, true, false, true, false, false, false, false, false, false, false, false, false, false, false, false, false, false] rfl rfl (any_of HT_.out (zq26_)) (fun _ _ _ h => h) (Or.inl ⟨by rfl, ?_⟩) ?_ ?_
              rotate_left
              · intro w'
                go_simp
                with_reducible rfl
              rotate_left
              · simp only [Act.put, List.setIfInBounds_toArray, List.set_cons_zero, List.set_cons_succ, i64_w, i32_w]
                rfl
              refine pure_ (i := 8) (N := some 50) (v := ?_) (a' := ?_) #[true, false, true, true, false, true, false, true, true, false, false, false, false, false, false, false, false, false, false, false, false, false] rfl rfl (any_of HT_.out (zq26_)) (fun _ _ _ h => h) (Or.inl ⟨by rfl, ?_⟩) ?_ ?_
              rotate_left
              · intro w'
                go_simp
                with_reducible rfl
              rotate_left
              · simp only [Act.put, List.setIfInBounds_toArray, List.set_cons_zero, List.set_cons_succ, i64_w, i32_w]
                rfl
              refine pure_ (i := 10) (N := some 52) (v := ?_) (a' := ?_) #[true, false, true, true, false, true, false, true, true, false, true, false, false, false, false, false, false, false, false, false, false, false] rfl rfl (any_of HT_.out (zq26_)) (fun _ _ _ h => h) (Or.inl ⟨by rfl, ?_⟩) ?_ ?_
              rotate_left
              · intro w'
                go_simp
                with_reducible rfl
              rotate_left
              · simp only [Act.put, List.setIfInBounds_toArray, List.set_cons_zero, List.set_cons_succ, i64_w, i32_w]
                rfl
              refine take_ (i := 1) (N := some 43) (v := ?_) (a' := ?_) #[true, true, true, true, false, true, false, true, true, false, true, false, false, false, false, false, false, false, false, false, false, false] rfl rfl (take_ofW HT_.out HW_.out (zq26_)) (fun _ _ _ h => h) (Or.inl ⟨by rfl, ?_⟩) hHeld ?_ ?_
              rotate_left
              · rintro w' ⟨s0, s1, s2⟩
                go_simp
                with_reducible rfl
              rotate_left
              · simp only [Act.put, List.setIfInBounds_toArray, List.set_cons_zero, List.set_cons_succ, i64_w, i32_w]
                rfl
              refine pure_ (i := 4) (N := some 46) (v := ?_) (a' := ?_) #[true, true, true, true, true, true, false, true, true, false, true, false, false, false, false, false, false, false, false, false, false, false] rfl rfl (any_of HT_.out (zq26_)) (fun _ _ _ h => h) (Or.inl ⟨by rfl, ?_⟩) ?_ ?_
              rotate_left
              · intro w'
                go_simp
                with_reducible rfl
              rotate_left
              · simp only [Act.put, List.setIfInBounds_toArray, List.set_cons_zero, List.set_cons_succ, i64_w, i32_w]
                rfl
              refine pure_ (i := 16) (N := some 58) (v := ?_) (a' := ?_) #[true, true, true, true, true, true, false, true, true, false, true, false, false, false, false, false, true, false, false, false, false, false] rfl rfl (any_of HT_.out (zq26_)) (fun _ _ _ h => h) (Or.inl ⟨by rfl, ?_⟩) ?_ ?_
              rotate_left
              · intro w'
                go_simp
                with_reducible rfl
              rotate_left
              · simp only [Act.put, List.setIfInBounds_toArray, List.set_cons_zero, List.set_cons_succ, i64_w, i32_w]
                rfl
              refine take_ (i := 6) (N := some 48) (v := ?_) (a' := ?_) #[true, true, true, true, true, true, true, true, true, false, true, false, false, false, false, false, true, false, false, false, false, false] rfl rfl (take_ofW HT_.out HW_.out (zq26_)) (fun _ _ _ h => h) (Or.inl ⟨by rfl, ?_⟩) hHeld ?_ ?_
              rotate_left
              · rintro w' ⟨s0, s1, s2⟩
                go_simp
                with_reducible rfl
              rotate_left
              · simp only [Act.put, List.setIfInBounds_toArray, List.set_cons_zero, List.set_cons_succ, i64_w, i32_w]
                rfl
              refine pure_ (i := 9) (N := some 51) (v := ?_) (a' := ?_) #[true, true, true, true, true, true, true, true, true, true, true, false, false, false, false, false, true, false, false, false, false, false] rfl rfl (any_of HT_.out (zq26_)) (fun _ _ _ h => h) (Or.inl ⟨by rfl, ?_⟩) ?_ ?_
              rotate_left
              · intro w'
                go_simp
                with_reducible rfl
              rotate_left
              · simp only [Act.put, List.setIfInBounds_toArray, List.set_cons_zero, List.set_cons_succ, i64_w, i32_w]
                rfl
              refine take_ (i := 11) (N := some 53) (v := ?_) (a' := ?_) #[true, true, true, true, true, true, true, true, true, true, true, true, false, false, false, false, true, false, false, false, false, false] rfl rfl (take_ofW HT_.out HW_.out (zq26_)) (fun _ _ _ h => h) (Or.inl ⟨by rfl, ?_⟩) hHeld ?_ ?_
              rotate_left
              · rintro w' ⟨s0, s1, s2⟩
                go_simp
                with_reducible rfl
              rotate_left
              · simp only [Act.put, List.setIfInBounds_toArray, List.set_cons_zero, List.set_cons_succ, i64_w, i32_w]
                rfl
              refine pure_ (i := 12) (N := some 54) (v := ?_) (a' := ?_) #[true, true, true, true, true, true, true, true, true, true, true, true, true, false, false, false, true, false, false, false, false, false] rfl rfl (any_of HT_.out (zq26_)) (fun _ _ _ h => h) (Or.inl ⟨by rfl, ?_⟩) ?_ ?_
              rotate_left
              · intro w'
                go_simp
                with_reducible rfl
              rotate_left
              · simp only [Act.put, List.setIfInBounds_toArray, List.set_cons_zero, List.set_cons_succ, i64_w, i32_w]
                rfl
              refine pure_ (i := 13) (N := some 55) (v := undef) (a' := ?_) #[true, true, true, true, true, true, true, true, true, true, true, true, true, true, false, false, true, false, false, false, false, false] rfl rfl (any_of HT_.out (zq26_)) (fun _ _ _ h => h) (Or.inr ⟨by rfl, rfl⟩) ?_ ?_
              rotate_left
              · simp only [Act.put, List.setIfInBounds_toArray, List.set_cons_zero, List.set_cons_succ, i64_w, i32_w]
                rfl
              refine pure_ (i := 14) (N := some 56) (v := undef) (a' := ?_) #[true, true, true, true, true, true, true, true, true, true, true, true, true, true, true, false, true, false, false, false, false, false] rfl rfl (any_of HT_.out (zq26_)) (fun _ _ _ h => h) (Or.inr ⟨by rfl, rfl⟩) ?_ ?_
              rotate_left
              · simp only [Act.put, List.setIfInBounds_toArray, List.set_cons_zero, List.set_cons_succ, i64_w, i32_w]
                rfl
              refine pure_ (i := 15) (N := some 57) (v := ?_) (a' := ?_) #[true, true, true, true, true, true, true, true, true, true, true, true, true, true, true, true, true, false, false, false, false, false] rfl rfl (any_of HT_.out (zq26_)) (fun _ _ _ h => h) (Or.inl ⟨by rfl, ?_⟩) ?_ ?_
              rotate_left
              · intro w'
                go_simp
                with_reducible rfl
              rotate_left
              · simp only [Act.put, List.setIfInBounds_toArray, List.set_cons_zero, List.set_cons_succ, i64_w, i32_w]
                rfl
              refine one_ (i := 17) (N := none) #[true, true, true, true, true, true, true, true, true, true, true, true, true, true, true, true, true, true, false, false, false, false] rfl rfl (one_of HT_.out (zq26_)) (zq43_) (fun K hK => ?_)
              have hs30 : w29.cell? ⟨gb193, 0, none⟩ = some (.int .i64 a0_2) := (blk_cell BK193.out 0).trans rfl
              have hfs30 := blk_frozen BK193.out 0
              have hns30_0 := NB189_193.out
              have hns30_1 := NB191_193.out
              have hns30_2 := NB192_193.out
              have hms30_0 := NB193_189.out
              have hms30_1 := NB193_191.out
              have hms30_2 := NB193_192.out
              refine skip_ (w1 := ?_) (by rfl) rfl ?_ ?_
              rotate_left
              · go_simp
                rfl
              refine hK.out _ _ ⟨((cell_far (p := ⟨gb193, _, none⟩) NB192_193.out _).trans (hHeld.1)), ((cell_far (p := ⟨gb193, _, none⟩) NB192_193.out _).trans (hHeld.2.1)), ((cell_far (p := ⟨gb193, _, none⟩) NB192_193.out _).trans (hHeld.2.2))⟩ (fun hHeld => ?_)
              clear hK K
              refine pure_ (i := 18) (N := some 59) (v := ?_) (a' := ?_) #[true, true, true, true, true, true, true, true, true, true, true, true, true, true, true, true, true, true, true, false, false, false] rfl rfl (any_of HT_.out (zq26_)) (fun _ _ _ h => h) (Or.inl ⟨by rfl, ?_⟩) ?_ ?_
              rotate_left
              · intro w'
                go_simp
                with_reducible rfl
              rotate_left
              · simp only [Act.put, List.setIfInBounds_toArray, List.set_cons_zero, List.set_cons_succ, i64_w, i32_w]
                rfl
              refine one_ (i := 19) (N := none) #[true, true, true, true, true, true, true, true, true, true, true, true, true, true, true, true, true, true, true, true, false, false] rfl rfl (one_of HT_.out (zq26_)) (zq43_) (fun K hK => ?_)
              have hs31 : w29.cell? ⟨gb193, 1, none⟩ = some (.int .i64 a0_3) := (blk_cell BK193.out 1).trans rfl
              have hfs31 := blk_frozen BK193.out 1
              have hns31_0 := NB189_193.out
              have hns31_1 := NB191_193.out
              have hns31_2 := NB192_193.out
              have hms31_0 := NB193_189.out
              have hms31_1 := NB193_191.out
              have hms31_2 := NB193_192.out
              refine skip_ (w1 := ?_) (by rfl) rfl ?_ ?_
              rotate_left
              · go_simp
                rfl
              refine hK.out _ _ ⟨((cell_far (p := ⟨gb193, _, none⟩) NB192_193.out _).trans (hHeld.1)), ((cell_far (p := ⟨gb193, _, none⟩) NB192_193.out _).trans (hHeld.2.1)), ((cell_far (p := ⟨gb193, _, none⟩) NB192_193.out _).trans (hHeld.2.2))⟩ (fun hHeld => ?_)
              clear hK K
              refine pure_ (i := 20) (N := some 60) (v := ?_) (a' := ?_) #[true, true, true, true, true, true, true, true, true, true, true, true, true, true, true, true, true, true, true, true, true, false] rfl rfl (any_of HT_.out (zq26_)) (fun _ _ _ h => h) (Or.inl ⟨by rfl, ?_⟩) ?_ ?_
              rotate_left
              · intro w'
                go_simp
                with_reducible rfl
              rotate_left
              · simp only [Act.put, List.setIfInBounds_toArray, List.set_cons_zero, List.set_cons_succ, i64_w, i32_w]
                rfl
              refine one_ (i := 21) (N := none) #[true, true, true, true, true, true, true, true, true, true, true, true, true, true, true, true, true, true, true, true, true, true] rfl rfl (one_of HT_.out (zq26_)) (zq43_) (fun K hK => ?_)
              have hs32 : w29.cell? ⟨gb193, 2, none⟩ = some (.bool true) := (blk_cell BK193.out 2).trans rfl
              have hfs32 := blk_frozen BK193.out 2
              have hns32_0 := NB189_193.out
              have hns32_1 := NB191_193.out
              have hns32_2 := NB192_193.out
              have hms32_0 := NB193_189.out
              have hms32_1 := NB193_191.out
              have hms32_2 := NB193_192.out
              refine skip_ (w1 := ?_) (by rfl) rfl ?_ ?_
              rotate_left
              · go_simp
                rfl
              refine hK.out _ _ ⟨((cell_far (p := ⟨gb193, _, none⟩) NB192_193.out _).trans (hHeld.1)), ((cell_far (p := ⟨gb193, _, none⟩) NB192_193.out _).trans (hHeld.2.1)), ((cell_far (p := ⟨gb193, _, none⟩) NB192_193.out _).trans (hHeld.2.2))⟩ (fun hHeld => ?_)
              clear hK K
              refine done_ (done_of HT_.out (zq26_)) ?_
              try go_wp2
              go_meet
              case rel => exact ⟨_, (wrap64 (a0_2 + (wrap64 (a0_5)))), (wrap64 (a0_3 + (wrap64 (a0_6)))), (true), H', ⟨by have := HJ3.out; first | omega | exact Nat.le_refl _⟩, ⟨zq24_⟩, ⟨zq23_⟩, ⟨zq22_⟩, ⟨by (with_reducible repeat (first | refine blk_drewN ?_ _ | refine blk_drew ?_ | refine blk_alloc ?_ _)); refine blk_put (cs := #[.int .i64 (wrap64 (a0_2 + (wrap64 (a0_5)))), .int .i64 (wrap64 (a0_3 + (wrap64 (a0_6)))), .bool true]) ?_ 2 _ rfl; (with_reducible repeat (first | refine blk_drewN ?_ _ | refine blk_drew ?_ | refine blk_alloc ?_ _)); refine blk_put (cs := #[.int .i64 (wrap64 (a0_2 + (wrap64 (a0_5)))), .int .i64 a0_3, .bool true]) ?_ 1 _ rfl; (with_reducible repeat (first | refine blk_drewN ?_ _ | refine blk_drew ?_ | refine blk_alloc ?_ _)); refine blk_put (cs := #[.int .i64 a0_2, .int .i64 a0_3, .bool true]) ?_ 0 _ rfl; (with_reducible repeat (first | refine blk_drewN ?_ _ | refine blk_drew ?_ | refine blk_alloc ?_ _)); exact BK193.out⟩, ⟨zq42_⟩⟩
            · replace c27 := Bool.eq_false_iff.mpr c27
              subst c27
              have H1 : (lombardlaw14_StageWorse.j1 kj3 l0_7 l0_8 a0_0 a0_1 a0_2 a0_3 false (wrap64 (a0_2 + (wrap64 (a0_5)))) (wrap64 (a0_3 + (wrap64 (a0_6)))) (decide (a0_5 > 200))) = some r := by rw [if_neg (show ¬ (false = true) by decide)] at H; exact H
              clear H
              have H := H1
              clear H1
              have H' := Aside0.mk H
              clear H
              try go_wp2
              have n0_ : Aside0 ((((w22.setCell ⟨gb193, 0, none⟩ (.int .i64 a0_2)).setCell ⟨gb193, 1, none⟩ (.int .i64 a0_3)).setCell ⟨gb193, 2, none⟩ (.bool false)).heap[gb189]? = some (.cells #[.int .i64 a0_0, .int .i64 a0_1, .int .i64 a0_2, .int .i64 a0_3, .bool false, .int .u8 a0_5, .int .u8 a0_6, .slice A0_7 l0_7.length c0_7, .slice A0_8 l0_8.length c0_8] 47 (0, 0))) := ⟨zq24_⟩
              have n1_ : Aside0 ((((w22.setCell ⟨gb193, 0, none⟩ (.int .i64 a0_2)).setCell ⟨gb193, 1, none⟩ (.int .i64 a0_3)).setCell ⟨gb193, 2, none⟩ (.bool false)).heap[gb191]? = some (.cells #[.int .i64 a0_0, .int .i64 a0_1] 23 (0, 0))) := ⟨zq23_⟩
              have n2_ : Aside0 ((((w22.setCell ⟨gb193, 0, none⟩ (.int .i64 a0_2)).setCell ⟨gb193, 1, none⟩ (.int .i64 a0_3)).setCell ⟨gb193, 2, none⟩ (.bool false)).heap[gb192]? = some (.cells #[.int .i64 a0_2, .int .i64 a0_3, .bool false] 25 (0, 0))) := ⟨zq22_⟩
              have n3_ : Aside0 ((((w22.setCell ⟨gb193, 0, none⟩ (.int .i64 a0_2)).setCell ⟨gb193, 1, none⟩ (.int .i64 a0_3)).setCell ⟨gb193, 2, none⟩ (.bool false)).heap[gb193]? = some (.cells #[.int .i64 a0_2, .int .i64 a0_3, .bool false] 25 (0, 0))) := ⟨zq45_⟩
              have n4_ : Aside0 (Below w.heap.size w (((w22.setCell ⟨gb193, 0, none⟩ (.int .i64 a0_2)).setCell ⟨gb193, 1, none⟩ (.int .i64 a0_3)).setCell ⟨gb193, 2, none⟩ (.bool false))) := ⟨zq42_⟩
              (try clear BK189)
              (try clear BK191)
              (try clear BK192)
              (try clear BK193)
              (try clear HB)
              generalize (((w22.setCell ⟨gb193, 0, none⟩ (.int .i64 a0_2)).setCell ⟨gb193, 1, none⟩ (.int .i64 a0_3)).setCell ⟨gb193, 2, none⟩ (.bool false)) = w33 at n0_ n1_ n2_ n3_ n4_ ⊢
              have BK189 := n0_
              have BK191 := n1_
              have BK192 := n2_
              have BK193 := n3_
              have HB := n4_
              clear n0_ n1_ n2_ n3_ n4_
              have n0_ := Aside0.mk (blk_drew BK189.out)
              have n1_ := Aside0.mk (blk_drew BK191.out)
              have n2_ := Aside0.mk (blk_drew BK192.out)
              have n3_ := Aside0.mk (blk_drew BK193.out)
              have n4_ := Aside0.mk (below_drew1 HB.out)
              clear BK189
              clear BK191
              clear BK192
              clear BK193
              clear HB
              have BK189 := n0_
              have BK191 := n1_
              have BK192 := n2_
              have BK193 := n3_
              have HB := n4_
              clear n0_ n1_ n2_ n3_ n4_
              refine start_ (n := 22) (S := fun w' => w'.cell? ⟨gb192, 0, none⟩ = some (.int .i64 a0_2) ∧ w'.cell? ⟨gb192, 1, none⟩ = some (.int .i64 a0_3) ∧ w'.cell? ⟨gb192, 2, none⟩ = some (.bool false)) (ds := []) #[false, false, false, false, false, false, false, false, false, false, false, false, false, false, false, false, false, false, false, false, false, false] (zq26_) rfl rfl ⟨(blk_cell BK192.out 0).trans rfl, (blk_cell BK192.out 1).trans rfl, (blk_cell BK192.out 2).trans rfl⟩ (fun hHeld => ?_); refine with_tabW lombardlaw14_StageWorse.tab7 lombardlaw14_StageWorse.bits7 (fun HT_ HW_ => ?_)
              generalize w33.drew = w34 at BK189 BK191 BK192 BK193 HB hHeld ⊢
              refine pure_ (i := 0) (N := some 42) (v := ?_) (a' := ?_) #[true, false, false, false, false, false, false, false, false, false, false, false, false, false, false, false, false, false, false, false, false, false] rfl rfl (any_of HT_.out (zq26_)) (fun _ _ _ h => h) (Or.inl ⟨by rfl, ?_⟩) ?_ ?_
              rotate_left
              · intro w'
                go_simp
                with_reducible rfl
              rotate_left
              · simp only [Act.put, List.setIfInBounds_toArray, List.set_cons_zero, List.set_cons_succ, i64_w, i32_w]
                rfl
              refine pure_ (i := 2) (N := some 44) (v := ?_) (a' := ?_) #[true, false, true, false, false, false, false, false, false, false, false, false, false, false, false, false, false, false, false, false, false, false] rfl rfl (any_of HT_.out (zq26_)) (fun _ _ _ h => h) (Or.inl ⟨by rfl, ?_⟩) ?_ ?_
              rotate_left
              · intro w'
                go_simp
                with_reducible rfl
              rotate_left
              · simp only [Act.put, List.setIfInBounds_toArray, List.set_cons_zero, List.set_cons_succ, i64_w, i32_w]
                rfl
              refine pure_ (i := 3) (N := some 45) (v := ?_) (a' := ?_) #[true, false, true, true, false, false, false, false, false, false, false, false, false, false, false, false, false, false, false, false, false, false] rfl rfl (any_of HT_.out (zq26_)) (fun _ _ _ h => h) (Or.inl ⟨by rfl, ?_⟩) ?_ ?_
              rotate_left
              · intro w'
                go_simp
                with_reducible rfl
              rotate_left
              · simp only [Act.put, List.setIfInBounds_toArray, List.set_cons_zero, List.set_cons_succ, i64_w, i32_w]
                rfl
              refine pure_ (i := 5) (N := some 47) (v := ?_) (a' := ?_) #[true, false, true, true, false, true, false, false, false, false, false, false, false, false, false, false, false, false, false, false, false, false] rfl rfl (any_of HT_.out (zq26_)) (fun _ _ _ h => h) (Or.inl ⟨by rfl, ?_⟩) ?_ ?_
              rotate_left
              · intro w'
                go_simp
                with_reducible rfl
              rotate_left
              · simp only [Act.put, List.setIfInBounds_toArray, List.set_cons_zero, List.set_cons_succ, i64_w, i32_w]
                rfl
              refine pure_ (i := 7) (N := some 49) (v := ?_) (a' := ?_) #[true, false, true, true, false, true, false, true, false, false, false, false, false, false, false, false, false, false, false, false, false, false] rfl rfl (any_of HT_.out (zq26_)) (fun _ _ _ h => h) (Or.inl ⟨by rfl, ?_⟩) ?_ ?_
              rotate_left
              · intro w'
                go_simp
                with_reducible rfl
              rotate_left
              · simp only [Act.put, List.setIfInBounds_toArray, List.set_cons_zero, List.set_cons_succ, i64_w, i32_w]
                rfl
              refine pure_ (i := 8) (N := some 50) (v := ?_) (a' := ?_) #[true, false, true, true, false, true, false, true, true, false, false, false, false, false, false, false, false, false, false, false, false, false] rfl rfl (any_of HT_.out (zq26_)) (fun _ _ _ h => h) (Or.inl ⟨by rfl, ?_⟩) ?_ ?_
              rotate_left
              · intro w'
                go_simp
                with_reducible rfl
              rotate_left
              · simp only [Act.put, List.setIfInBounds_toArray, List.set_cons_zero, List.set_cons_succ, i64_w, i32_w]
                rfl
              refine pure_ (i := 10) (N := some 52) (v := ?_) (a' := ?_) #[true, false, true, true, false, true, false, true, true, false, true, false, false, false, false, false, false, false, false, false, false, false] rfl rfl (any_of HT_.out (zq26_)) (fun _ _ _ h => h) (Or.inl ⟨by rfl, ?_⟩) ?_ ?_
              rotate_left
              · intro w'
                go_simp
                with_reducible rfl
              rotate_left
              · simp only [Act.put, List.setIfInBounds_toArray, List.set_cons_zero, List.set_cons_succ, i64_w, i32_w]
                rfl
              refine take_ (i := 1) (N := some 43) (v := ?_) (a' := ?_) #[true, true, true, true, false, true, false, true, true, false, true, false, false, false, false, false, false, false, false, false, false, false] rfl rfl (take_ofW HT_.out HW_.out (zq26_)) (fun _ _ _ h => h) (Or.inl ⟨by rfl, ?_⟩) hHeld ?_ ?_
              rotate_left
              · rintro w' ⟨s0, s1, s2⟩
                go_simp
                with_reducible rfl
              rotate_left
              · simp only [Act.put, List.setIfInBounds_toArray, List.set_cons_zero, List.set_cons_succ, i64_w, i32_w]
                rfl
              refine pure_ (i := 4) (N := some 46) (v := ?_) (a' := ?_) #[true, true, true, true, true, true, false, true, true, false, true, false, false, false, false, false, false, false, false, false, false, false] rfl rfl (any_of HT_.out (zq26_)) (fun _ _ _ h => h) (Or.inl ⟨by rfl, ?_⟩) ?_ ?_
              rotate_left
              · intro w'
                go_simp
                with_reducible rfl
              rotate_left
              · simp only [Act.put, List.setIfInBounds_toArray, List.set_cons_zero, List.set_cons_succ, i64_w, i32_w]
                rfl
              refine pure_ (i := 16) (N := some 58) (v := ?_) (a' := ?_) #[true, true, true, true, true, true, false, true, true, false, true, false, false, false, false, false, true, false, false, false, false, false] rfl rfl (any_of HT_.out (zq26_)) (fun _ _ _ h => h) (Or.inl ⟨by rfl, ?_⟩) ?_ ?_
              rotate_left
              · intro w'
                go_simp
                with_reducible rfl
              rotate_left
              · simp only [Act.put, List.setIfInBounds_toArray, List.set_cons_zero, List.set_cons_succ, i64_w, i32_w]
                rfl
              refine take_ (i := 6) (N := some 48) (v := ?_) (a' := ?_) #[true, true, true, true, true, true, true, true, true, false, true, false, false, false, false, false, true, false, false, false, false, false] rfl rfl (take_ofW HT_.out HW_.out (zq26_)) (fun _ _ _ h => h) (Or.inl ⟨by rfl, ?_⟩) hHeld ?_ ?_
              rotate_left
              · rintro w' ⟨s0, s1, s2⟩
                go_simp
                with_reducible rfl
              rotate_left
              · simp only [Act.put, List.setIfInBounds_toArray, List.set_cons_zero, List.set_cons_succ, i64_w, i32_w]
                rfl
              refine pure_ (i := 9) (N := some 51) (v := ?_) (a' := ?_) #[true, true, true, true, true, true, true, true, true, true, true, false, false, false, false, false, true, false, false, false, false, false] rfl rfl (any_of HT_.out (zq26_)) (fun _ _ _ h => h) (Or.inl ⟨by rfl, ?_⟩) ?_ ?_
              rotate_left
              · intro w'
                go_simp
                with_reducible rfl
              rotate_left
              · simp only [Act.put, List.setIfInBounds_toArray, List.set_cons_zero, List.set_cons_succ, i64_w, i32_w]
                rfl
              refine take_ (i := 11) (N := some 53) (v := ?_) (a' := ?_) #[true, true, true, true, true, true, true, true, true, true, true, true, false, false, false, false, true, false, false, false, false, false] rfl rfl (take_ofW HT_.out HW_.out (zq26_)) (fun _ _ _ h => h) (Or.inl ⟨by rfl, ?_⟩) hHeld ?_ ?_
              rotate_left
              · rintro w' ⟨s0, s1, s2⟩
                go_simp
                with_reducible rfl
              rotate_left
              · simp only [Act.put, List.setIfInBounds_toArray, List.set_cons_zero, List.set_cons_succ, i64_w, i32_w]
                rfl
              refine pure_ (i := 12) (N := some 54) (v := ?_) (a' := ?_) #[true, true, true, true, true, true, true, true, true, true, true, true, true, false, false, false, true, false, false, false, false, false] rfl rfl (any_of HT_.out (zq26_)) (fun _ _ _ h => h) (Or.inl ⟨by rfl, ?_⟩) ?_ ?_
              rotate_left
              · intro w'
                go_simp
                with_reducible rfl
              rotate_left
              · simp only [Act.put, List.setIfInBounds_toArray, List.set_cons_zero, List.set_cons_succ, i64_w, i32_w]
                rfl
              refine pure_ (i := 13) (N := some 55) (v := ?_) (a' := ?_) #[true, true, true, true, true, true, true, true, true, true, true, true, true, true, false, false, true, false, false, false, false, false] rfl rfl (any_of HT_.out (zq26_)) (fun _ _ _ h => h) (Or.inl ⟨by rfl, ?_⟩) ?_ ?_
              rotate_left
              · intro w'
                go_simp
                with_reducible rfl
              rotate_left
              · simp only [Act.put, List.setIfInBounds_toArray, List.set_cons_zero, List.set_cons_succ, i64_w, i32_w]
                rfl
              refine pure_ (i := 14) (N := some 56) (v := ?_) (a' := ?_) #[true, true, true, true, true, true, true, true, true, true, true, true, true, true, true, false, true, false, false, false, false, false] rfl rfl (any_of HT_.out (zq26_)) (fun _ _ _ h => h) (Or.inl ⟨by rfl, ?_⟩) ?_ ?_
              rotate_left
              · intro w'
                go_simp
                with_reducible rfl
              rotate_left
              · simp only [Act.put, List.setIfInBounds_toArray, List.set_cons_zero, List.set_cons_succ, i64_w, i32_w]
                rfl
              refine pure_ (i := 15) (N := some 57) (v := ?_) (a' := ?_) #[true, true, true, true, true, true, true, true, true, true, true, true, true, true, true, true, true, false, false, false, false, false] rfl rfl (any_of HT_.out (zq26_)) (fun _ _ _ h => h) (Or.inl ⟨by rfl, ?_⟩) ?_ ?_
              rotate_left
              · intro w'
                go_simp
                with_reducible rfl
              rotate_left
              · simp only [Act.put, List.setIfInBounds_toArray, List.set_cons_zero, List.set_cons_succ, i64_w, i32_w]
                rfl
              refine one_ (i := 17) (N := none) #[true, true, true, true, true, true, true, true, true, true, true, true, true, true, true, true, true, true, false, false, false, false] rfl rfl (one_of HT_.out (zq26_)) (zq43_) (fun K hK => ?_)
              have hs35 : w34.cell? ⟨gb193, 0, none⟩ = some (.int .i64 a0_2) := (blk_cell BK193.out 0).trans rfl
              have hfs35 := blk_frozen BK193.out 0
              have hns35_0 := NB189_193.out
              have hns35_1 := NB191_193.out
              have hns35_2 := NB192_193.out
              have hms35_0 := NB193_189.out
              have hms35_1 := NB193_191.out
              have hms35_2 := NB193_192.out
              refine skip_ (w1 := ?_) (by rfl) rfl ?_ ?_
              rotate_left
              · go_simp
                rfl
              refine hK.out _ _ ⟨((cell_far (p := ⟨gb193, _, none⟩) NB192_193.out _).trans (hHeld.1)), ((cell_far (p := ⟨gb193, _, none⟩) NB192_193.out _).trans (hHeld.2.1)), ((cell_far (p := ⟨gb193, _, none⟩) NB192_193.out _).trans (hHeld.2.2))⟩ (fun hHeld => ?_)
              clear hK K
              refine pure_ (i := 18) (N := some 59) (v := ?_) (a' := ?_) #[true, true, true, true, true, true, true, true, true, true, true, true, true, true, true, true, true, true, true, false, false, false] rfl rfl (any_of HT_.out (zq26_)) (fun _ _ _ h => h) (Or.inl ⟨by rfl, ?_⟩) ?_ ?_
              rotate_left
              · intro w'
                go_simp
                with_reducible rfl
              rotate_left
              · simp only [Act.put, List.setIfInBounds_toArray, List.set_cons_zero, List.set_cons_succ, i64_w, i32_w]
                rfl
              refine one_ (i := 19) (N := none) #[true, true, true, true, true, true, true, true, true, true, true, true, true, true, true, true, true, true, true, true, false, false] rfl rfl (one_of HT_.out (zq26_)) (zq43_) (fun K hK => ?_)
              have hs36 : w34.cell? ⟨gb193, 1, none⟩ = some (.int .i64 a0_3) := (blk_cell BK193.out 1).trans rfl
              have hfs36 := blk_frozen BK193.out 1
              have hns36_0 := NB189_193.out
              have hns36_1 := NB191_193.out
              have hns36_2 := NB192_193.out
              have hms36_0 := NB193_189.out
              have hms36_1 := NB193_191.out
              have hms36_2 := NB193_192.out
              refine skip_ (w1 := ?_) (by rfl) rfl ?_ ?_
              rotate_left
              · go_simp
                rfl
              refine hK.out _ _ ⟨((cell_far (p := ⟨gb193, _, none⟩) NB192_193.out _).trans (hHeld.1)), ((cell_far (p := ⟨gb193, _, none⟩) NB192_193.out _).trans (hHeld.2.1)), ((cell_far (p := ⟨gb193, _, none⟩) NB192_193.out _).trans (hHeld.2.2))⟩ (fun hHeld => ?_)
              clear hK K
              refine pure_ (i := 20) (N := some 60) (v := ?_) (a' := ?_) #[true, true, true, true, true, true, true, true, true, true, true, true, true, true, true, true, true, true, true, true, true, false] rfl rfl (any_of HT_.out (zq26_)) (fun _ _ _ h => h) (Or.inl ⟨by rfl, ?_⟩) ?_ ?_
              rotate_left
              · intro w'
                go_simp
                with_reducible rfl
              rotate_left
              · simp only [Act.put, List.setIfInBounds_toArray, List.set_cons_zero, List.set_cons_succ, i64_w, i32_w]
                rfl
              refine one_ (i := 21) (N := none) #[true, true, true, true, true, true, true, true, true, true, true, true, true, true, true, true, true, true, true, true, true, true] rfl rfl (one_of HT_.out (zq26_)) (zq43_) (fun K hK => ?_)
              have hs37 : w34.cell? ⟨gb193, 2, none⟩ = some (.bool false) := (blk_cell BK193.out 2).trans rfl
              have hfs37 := blk_frozen BK193.out 2
              have hns37_0 := NB189_193.out
              have hns37_1 := NB191_193.out
              have hns37_2 := NB192_193.out
              have hms37_0 := NB193_189.out
              have hms37_1 := NB193_191.out
              have hms37_2 := NB193_192.out
              refine skip_ (w1 := ?_) (by rfl) rfl ?_ ?_
              rotate_left
              · go_simp
                rfl
              refine hK.out _ _ ⟨((cell_far (p := ⟨gb193, _, none⟩) NB192_193.out _).trans (hHeld.1)), ((cell_far (p := ⟨gb193, _, none⟩) NB192_193.out _).trans (hHeld.2.1)), ((cell_far (p := ⟨gb193, _, none⟩) NB192_193.out _).trans (hHeld.2.2))⟩ (fun hHeld => ?_)
              clear hK K
              refine done_ (done_of HT_.out (zq26_)) ?_
              try go_wp2
              go_meet
              case rel => exact ⟨_, (wrap64 (a0_2 + (wrap64 (a0_5)))), (wrap64 (a0_3 + (wrap64 (a0_6)))), (decide (a0_5 > 200)), H', ⟨by have := HJ3.out; first | omega | exact Nat.le_refl _⟩, ⟨zq24_⟩, ⟨zq23_⟩, ⟨zq22_⟩, ⟨by (with_reducible repeat (first | refine blk_drewN ?_ _ | refine blk_drew ?_ | refine blk_alloc ?_ _)); refine blk_put (cs := #[.int .i64 (wrap64 (a0_2 + (wrap64 (a0_5)))), .int .i64 (wrap64 (a0_3 + (wrap64 (a0_6)))), .bool false]) ?_ 2 _ rfl; (with_reducible repeat (first | refine blk_drewN ?_ _ | refine blk_drew ?_ | refine blk_alloc ?_ _)); refine blk_put (cs := #[.int .i64 (wrap64 (a0_2 + (wrap64 (a0_5)))), .int .i64 a0_3, .bool false]) ?_ 1 _ rfl; (with_reducible repeat (first | refine blk_drewN ?_ _ | refine blk_drew ?_ | refine blk_alloc ?_ _)); refine blk_put (cs := #[.int .i64 a0_2, .int .i64 a0_3, .bool false]) ?_ 0 _ rfl; (with_reducible repeat (first | refine blk_drewN ?_ _ | refine blk_drew ?_ | refine blk_alloc ?_ _)); exact BK193.out⟩, ⟨zq42_⟩⟩
          case rest =>
            clear HC18
            try clear c1
            try clear c2
            try clear p2
            try clear c3
            try clear c6
            try clear p6
            try clear c8
            try clear c16
            try clear c16b0
            try clear c16b1
            try clear c17
            try clear c19
            try clear c20
            try clear c23
            try clear c24
            try clear c25
            try clear c27
            try clear hcz21_0
            try clear hcz21_1
            try clear hcz21_2
            try clear hcz26_0
            try clear hcz26_1
            try clear hcz26_2
            try clear hfz21_0
            try clear hfz21_1
            try clear hfz21_2
            try clear hfz26_0
            try clear hfz26_1
            try clear hfz26_2
            try clear p2
            obtain ⟨kq, x194000_17, x194001_17, x194002_17, HA, HJ17, BK189, BK191, BK192, BK193, HB⟩ := hcut
            cases kq with
            | zero => exact absurd HA.out (by simp [lombardlaw14_StageWorse.j1])
            | succ kj17 =>
              have H := HA.out
              clear HA
              simp only [lombardlaw14_StageWorse.j1] at H
              replace H := Option.bind_eq_some_iff.mp H
              obtain ⟨⟨t194, t195, t196⟩, A380, H⟩ := H
              replace H : ((stage_Next.f kj17 a0_0 a0_1 x194000_17 x194001_17 x194002_17).bind fun bt198 => (if t196 = 0 then (if bt198.2.2 = 0 then (lombardlaw14_StageWorse.j2 kj17 l0_7 l0_8 (decide (bt198.1 < t194))) else (lombardlaw14_StageWorse.j2 kj17 l0_7 l0_8 false)) else (lombardlaw14_StageWorse.j2 kj17 l0_7 l0_8 false))) = some r := H
              have A38 := Aside0.mk A380
              clear A380
              replace H := Option.bind_eq_some_iff.mp H
              obtain ⟨⟨t198, t199, t200⟩, A390, H⟩ := H
              replace H : (if t196 = 0 then (if t200 = 0 then (lombardlaw14_StageWorse.j2 kj17 l0_7 l0_8 (decide (t198 < t194))) else (lombardlaw14_StageWorse.j2 kj17 l0_7 l0_8 false)) else (lombardlaw14_StageWorse.j2 kj17 l0_7 l0_8 false)) = some r := H
              have A39 := Aside0.mk A390
              clear A390
              have HC40 := Aside0.mk H
              clear H
              have hnb41 := NB191_189.out
              have hnc41 := NB189_191.out
              have hnb42 := NB191_192.out
              have hnc42 := NB192_191.out
              have hnb43 := NB191_193.out
              have hnc43 := NB193_191.out
              have hcz44_0 : wc.cell? ⟨gb191, 0, none⟩ = some (.int .i64 a0_0) := (blk_cell BK191.out 0).trans rfl
              have hcz44_1 : wc.cell? ⟨gb191, 1, none⟩ = some (.int .i64 a0_1) := (blk_cell BK191.out 1).trans rfl
              have hfz44_0 := blk_frozen BK191.out 0
              have hfz44_1 := blk_frozen BK191.out 1
              have hnb45 := NB192_189.out
              have hnc45 := NB189_192.out
              have hnb46 := NB192_193.out
              have hnc46 := NB193_192.out
              have hcz47_0 : wc.cell? ⟨gb192, 0, none⟩ = some (.int .i64 a0_2) := (blk_cell BK192.out 0).trans rfl
              have hcz47_1 : wc.cell? ⟨gb192, 1, none⟩ = some (.int .i64 a0_3) := (blk_cell BK192.out 1).trans rfl
              have hcz47_2 : wc.cell? ⟨gb192, 2, none⟩ = some (.bool a0_4) := (blk_cell BK192.out 2).trans rfl
              have hfz47_0 := blk_frozen BK192.out 0
              have hfz47_1 := blk_frozen BK192.out 1
              have hfz47_2 := blk_frozen BK192.out 2
              go_upto_region 10 with (first | ((with_reducible refine gate_callee (f := 9) rfl ?_); refine goesL_ (some 64) rfl rfl Try.func9 (zq26_) rfl #[.agg #[.int .i64 a0_0, .int .i64 a0_1], .agg #[.int .i64 a0_2, .int .i64 a0_3, .bool a0_4]] rfl (zq16_) ?_; (with_reducible refine (stage_Next.calls kj17 a0_0 a0_1 a0_2 a0_3 a0_4 t194 t195 t196 _ A38.out).mono ?_); rintro e w48 ⟨rfl, hb⟩; refine ⟨_, rfl, ?_⟩; have n0_ := Aside0.mk (blk_below (g := gb189) (o := .cells #[.int .i64 a0_0, .int .i64 a0_1, .int .i64 a0_2, .int .i64 a0_3, .bool a0_4, .int .u8 a0_5, .int .u8 a0_6, .slice A0_7 l0_7.length c0_7, .slice A0_8 l0_8.length c0_8] 47 (0, 0)) (zq4_) hb); have n1_ := Aside0.mk (blk_below (g := gb191) (o := .cells #[.int .i64 a0_0, .int .i64 a0_1] 23 (0, 0)) (zq6_) hb); have n2_ := Aside0.mk (blk_below (g := gb192) (o := .cells #[.int .i64 a0_2, .int .i64 a0_3, .bool a0_4] 25 (0, 0)) (zq2_) hb); have n3_ := Aside0.mk (blk_below (g := gb193) (o := .cells #[.int .i64 x194000_17, .int .i64 x194001_17, .bool x194002_17] 25 (0, 0)) (zq3_) hb); have n4_ := Aside0.mk (below_step (zq41_) hb); clear BK189; clear BK191; clear BK192; clear BK193; clear HB; have BK189 := n0_; have BK191 := n1_; have BK192 := n2_; have BK193 := n3_; have HB := n4_; clear n0_ n1_ n2_ n3_ n4_; (try clear hb); (try clear hb2); (try clear hk); (try clear hi)) | ((with_reducible refine gate_dst (N := 10) rfl ?_); (try (refine gate_guard (by rfl) ?_; dsimp only)); refine box_event ?hg (N := 10) ?hd (cs := #[.int .i64 0, .int .i64 0]) (t := 27) ?hr ?_; (case hd => rfl); (case hg => rfl); (case hr => first | (go_simp; done) | (go_simp; rfl)); intro gb197 hg w49 hbox hb; have n0_ := Aside0.mk (blk_below (g := gb189) (o := .cells #[.int .i64 a0_0, .int .i64 a0_1, .int .i64 a0_2, .int .i64 a0_3, .bool a0_4, .int .u8 a0_5, .int .u8 a0_6, .slice A0_7 l0_7.length c0_7, .slice A0_8 l0_8.length c0_8] 47 (0, 0)) (zq4_) hb); have n1_ := Aside0.mk (blk_below (g := gb191) (o := .cells #[.int .i64 a0_0, .int .i64 a0_1] 23 (0, 0)) (zq6_) hb); have n2_ := Aside0.mk (blk_below (g := gb192) (o := .cells #[.int .i64 a0_2, .int .i64 a0_3, .bool a0_4] 25 (0, 0)) (zq2_) hb); have n3_ := Aside0.mk (blk_below (g := gb193) (o := .cells #[.int .i64 x194000_17, .int .i64 x194001_17, .bool x194002_17] 25 (0, 0)) (zq3_) hb); have n4_ := Aside0.mk (below_step (zq41_) hb); have n5_ := Aside0.mk (hbox); have n6_ := Aside0.mk ((by rw [hg]; exact (below_size (zq41_)) : w.heap.size ≤ gb197)); have n7_ := Aside0.mk ((by rw [hg]; exact (below_size (zq41_)) : w.heap.size ≤ gb197)); have n8_ := Aside0.mk ((zq14_ : gb189 ≠ gb197)); have n9_ := Aside0.mk ((zq15_ : gb197 ≠ gb189)); have n10_ := Aside0.mk ((zq51_ : gb191 ≠ gb197)); have n11_ := Aside0.mk ((zq52_ : gb197 ≠ gb191)); have n12_ := Aside0.mk ((zq47_ : gb192 ≠ gb197)); have n13_ := Aside0.mk ((zq48_ : gb197 ≠ gb192)); have n14_ := Aside0.mk ((zq49_ : gb193 ≠ gb197)); have n15_ := Aside0.mk ((zq50_ : gb197 ≠ gb193)); clear BK189; clear BK191; clear BK192; clear BK193; clear HB; have BK189 := n0_; have BK191 := n1_; have BK192 := n2_; have BK193 := n3_; have HB := n4_; have BK197 := n5_; have GW197 := n6_; have GE197 := n7_; have NB189_197 := n8_; have NB197_189 := n9_; have NB191_197 := n10_; have NB197_191 := n11_; have NB192_197 := n12_; have NB197_192 := n13_; have NB193_197 := n14_; have NB197_193 := n15_; clear n0_ n1_ n2_ n3_ n4_ n5_ n6_ n7_ n8_ n9_ n10_ n11_ n12_ n13_ n14_ n15_; clear hb hbox hg; have hnb50 := NB197_189.out; have hnc50 := NB189_197.out; have hnb51 := NB197_191.out; have hnc51 := NB191_197.out; have hnb52 := NB197_192.out; have hnc52 := NB192_197.out; have hnb53 := NB197_193.out; have hnc53 := NB193_197.out; have hcz54_0 : w49.cell? ⟨gb197, 0, none⟩ = some (.int .i64 0) := (blk_cell BK197.out 0).trans rfl; have hcz54_1 : w49.cell? ⟨gb197, 1, none⟩ = some (.int .i64 0) := (blk_cell BK197.out 1).trans rfl; have hfz54_0 := blk_frozen BK197.out 0; have hfz54_1 := blk_frozen BK197.out 1; have hcz55_0 : w49.cell? ⟨gb191, 0, none⟩ = some (.int .i64 a0_0) := (blk_cell BK191.out 0).trans rfl; have hcz55_1 : w49.cell? ⟨gb191, 1, none⟩ = some (.int .i64 a0_1) := (blk_cell BK191.out 1).trans rfl; have hfz55_0 := blk_frozen BK191.out 0; have hfz55_1 := blk_frozen BK191.out 1; have hnb56 := NB193_189.out; have hnc56 := NB189_193.out; have hcz57_0 : w49.cell? ⟨gb193, 0, none⟩ = some (.int .i64 x194000_17) := (blk_cell BK193.out 0).trans rfl; have hcz57_1 : w49.cell? ⟨gb193, 1, none⟩ = some (.int .i64 x194001_17) := (blk_cell BK193.out 1).trans rfl; have hcz57_2 : w49.cell? ⟨gb193, 2, none⟩ = some (.bool x194002_17) := (blk_cell BK193.out 2).trans rfl; have hfz57_0 := blk_frozen BK193.out 0; have hfz57_1 := blk_frozen BK193.out 1; have hfz57_2 := blk_frozen BK193.out 2) | ((with_reducible refine gate_callee (f := 9) rfl ?_); refine goesL_ (some 70) rfl rfl Try.func9 (zq26_) rfl #[.agg #[.int .i64 a0_0, .int .i64 a0_1], .agg #[.int .i64 x194000_17, .int .i64 x194001_17, .bool x194002_17]] rfl (zq16_) ?_; (with_reducible refine (stage_Next.calls kj17 a0_0 a0_1 x194000_17 x194001_17 x194002_17 t198 t199 t200 _ A39.out).mono ?_); rintro e w58 ⟨rfl, hb⟩; refine ⟨_, rfl, ?_⟩; have n0_ := Aside0.mk (blk_below (g := gb189) (o := .cells #[.int .i64 a0_0, .int .i64 a0_1, .int .i64 a0_2, .int .i64 a0_3, .bool a0_4, .int .u8 a0_5, .int .u8 a0_6, .slice A0_7 l0_7.length c0_7, .slice A0_8 l0_8.length c0_8] 47 (0, 0)) (by (with_reducible repeat (first | refine blk_drewN ?_ _ | refine blk_drew ?_ | refine blk_alloc ?_ _)); refine blk_far ?_ NB189_197.out _; (with_reducible repeat (first | refine blk_drewN ?_ _ | refine blk_drew ?_ | refine blk_alloc ?_ _)); refine blk_far ?_ NB189_197.out _; (with_reducible repeat (first | refine blk_drewN ?_ _ | refine blk_drew ?_ | refine blk_alloc ?_ _)); exact BK189.out) hb); have n1_ := Aside0.mk (blk_below (g := gb191) (o := .cells #[.int .i64 a0_0, .int .i64 a0_1] 23 (0, 0)) (by (with_reducible repeat (first | refine blk_drewN ?_ _ | refine blk_drew ?_ | refine blk_alloc ?_ _)); refine blk_far ?_ NB191_197.out _; (with_reducible repeat (first | refine blk_drewN ?_ _ | refine blk_drew ?_ | refine blk_alloc ?_ _)); refine blk_far ?_ NB191_197.out _; (with_reducible repeat (first | refine blk_drewN ?_ _ | refine blk_drew ?_ | refine blk_alloc ?_ _)); exact BK191.out) hb); have n2_ := Aside0.mk (blk_below (g := gb192) (o := .cells #[.int .i64 a0_2, .int .i64 a0_3, .bool a0_4] 25 (0, 0)) (by (with_reducible repeat (first | refine blk_drewN ?_ _ | refine blk_drew ?_ | refine blk_alloc ?_ _)); refine blk_far ?_ NB192_197.out _; (with_reducible repeat (first | refine blk_drewN ?_ _ | refine blk_drew ?_ | refine blk_alloc ?_ _)); refine blk_far ?_ NB192_197.out _; (with_reducible repeat (first | refine blk_drewN ?_ _ | refine blk_drew ?_ | refine blk_alloc ?_ _)); exact BK192.out) hb); have n3_ := Aside0.mk (blk_below (g := gb193) (o := .cells #[.int .i64 x194000_17, .int .i64 x194001_17, .bool x194002_17] 25 (0, 0)) (by (with_reducible repeat (first | refine blk_drewN ?_ _ | refine blk_drew ?_ | refine blk_alloc ?_ _)); refine blk_far ?_ NB193_197.out _; (with_reducible repeat (first | refine blk_drewN ?_ _ | refine blk_drew ?_ | refine blk_alloc ?_ _)); refine blk_far ?_ NB193_197.out _; (with_reducible repeat (first | refine blk_drewN ?_ _ | refine blk_drew ?_ | refine blk_alloc ?_ _)); exact BK193.out) hb); have n4_ := Aside0.mk (blk_below (g := gb197) (o := .cells #[.int .i64 t194, .int .i64 t195] 27 (0, 0)) (by (with_reducible repeat (first | refine blk_drewN ?_ _ | refine blk_drew ?_ | refine blk_alloc ?_ _)); refine blk_put (cs := #[.int .i64 t194, .int .i64 0]) ?_ 1 _ rfl; (with_reducible repeat (first | refine blk_drewN ?_ _ | refine blk_drew ?_ | refine blk_alloc ?_ _)); refine blk_put (cs := #[.int .i64 0, .int .i64 0]) ?_ 0 _ rfl; (with_reducible repeat (first | refine blk_drewN ?_ _ | refine blk_drew ?_ | refine blk_alloc ?_ _)); exact BK197.out) hb); have n5_ := Aside0.mk (below_step (zq37_) hb); clear BK189; clear BK191; clear BK192; clear BK193; clear BK197; clear HB; have BK189 := n0_; have BK191 := n1_; have BK192 := n2_; have BK193 := n3_; have BK197 := n4_; have HB := n5_; clear n0_ n1_ n2_ n3_ n4_ n5_; (try clear hb); (try clear hb2); (try clear hk); (try clear hi)) | ((with_reducible refine gate_dst (N := 12) rfl ?_); (try (refine gate_guard (by rfl) ?_; dsimp only)); refine box_event ?hg (N := 12) ?hd (cs := #[.int .i64 0, .int .i64 0]) (t := 27) ?hr ?_; (case hd => rfl); (case hg => rfl); (case hr => first | (go_simp; done) | (go_simp; rfl)); intro gb201 hg w59 hbox hb; have n0_ := Aside0.mk (blk_below (g := gb189) (o := .cells #[.int .i64 a0_0, .int .i64 a0_1, .int .i64 a0_2, .int .i64 a0_3, .bool a0_4, .int .u8 a0_5, .int .u8 a0_6, .slice A0_7 l0_7.length c0_7, .slice A0_8 l0_8.length c0_8] 47 (0, 0)) (zq4_) hb); have n1_ := Aside0.mk (blk_below (g := gb191) (o := .cells #[.int .i64 a0_0, .int .i64 a0_1] 23 (0, 0)) (zq6_) hb); have n2_ := Aside0.mk (blk_below (g := gb192) (o := .cells #[.int .i64 a0_2, .int .i64 a0_3, .bool a0_4] 25 (0, 0)) (zq2_) hb); have n3_ := Aside0.mk (blk_below (g := gb193) (o := .cells #[.int .i64 x194000_17, .int .i64 x194001_17, .bool x194002_17] 25 (0, 0)) (zq3_) hb); have n4_ := Aside0.mk (blk_below (g := gb197) (o := .cells #[.int .i64 t194, .int .i64 t195] 27 (0, 0)) (zq7_) hb); have n5_ := Aside0.mk (below_step (zq37_) hb); have n6_ := Aside0.mk (hbox); have n7_ := Aside0.mk ((by rw [hg]; exact (below_size (zq37_)) : w.heap.size ≤ gb201)); have n8_ := Aside0.mk ((by rw [hg]; exact (below_size (zq37_)) : w.heap.size ≤ gb201)); have n9_ := Aside0.mk ((zq14_ : gb189 ≠ gb201)); have n10_ := Aside0.mk ((zq15_ : gb201 ≠ gb189)); have n11_ := Aside0.mk ((zq51_ : gb191 ≠ gb201)); have n12_ := Aside0.mk ((zq52_ : gb201 ≠ gb191)); have n13_ := Aside0.mk ((zq47_ : gb192 ≠ gb201)); have n14_ := Aside0.mk ((zq48_ : gb201 ≠ gb192)); have n15_ := Aside0.mk ((zq49_ : gb193 ≠ gb201)); have n16_ := Aside0.mk ((zq50_ : gb201 ≠ gb193)); have n17_ := Aside0.mk ((zq66_ : gb197 ≠ gb201)); have n18_ := Aside0.mk ((zq67_ : gb201 ≠ gb197)); clear BK189; clear BK191; clear BK192; clear BK193; clear BK197; clear HB; have BK189 := n0_; have BK191 := n1_; have BK192 := n2_; have BK193 := n3_; have BK197 := n4_; have HB := n5_; have BK201 := n6_; have GW201 := n7_; have GE201 := n8_; have NB189_201 := n9_; have NB201_189 := n10_; have NB191_201 := n11_; have NB201_191 := n12_; have NB192_201 := n13_; have NB201_192 := n14_; have NB193_201 := n15_; have NB201_193 := n16_; have NB197_201 := n17_; have NB201_197 := n18_; clear n0_ n1_ n2_ n3_ n4_ n5_ n6_ n7_ n8_ n9_ n10_ n11_ n12_ n13_ n14_ n15_ n16_ n17_ n18_; clear hb hbox hg; have hnb60 := NB201_189.out; have hnc60 := NB189_201.out; have hnb61 := NB201_191.out; have hnc61 := NB191_201.out; have hnb62 := NB201_192.out; have hnc62 := NB192_201.out; have hnb63 := NB201_193.out; have hnc63 := NB193_201.out; have hnb64 := NB201_197.out; have hnc64 := NB197_201.out; have hcz65_0 : w59.cell? ⟨gb201, 0, none⟩ = some (.int .i64 0) := (blk_cell BK201.out 0).trans rfl; have hcz65_1 : w59.cell? ⟨gb201, 1, none⟩ = some (.int .i64 0) := (blk_cell BK201.out 1).trans rfl; have hfz65_0 := blk_frozen BK201.out 0; have hfz65_1 := blk_frozen BK201.out 1))
              (try simp only [Act.put, List.setIfInBounds_toArray, List.set_cons_zero, List.set_cons_succ])
              go_cut [85] (fun v85 wc => ∃ (kq : Nat) (x85_39 : Bool), v85 = .bool x85_39 ∧ Aside0 (lombardlaw14_StageWorse.j2 kq l0_7 l0_8 x85_39 = some r) ∧ Aside0 (kq ≤ kj17) ∧ Aside0 (wc.heap[gb189]? = some (.cells #[.int .i64 a0_0, .int .i64 a0_1, .int .i64 a0_2, .int .i64 a0_3, .bool a0_4, .int .u8 a0_5, .int .u8 a0_6, (.slice A0_7 l0_7.length c0_7), (.slice A0_8 l0_8.length c0_8)] 47 (0, 0))) ∧ Aside0 (wc.heap[gb191]? = some (.cells #[.int .i64 a0_0, .int .i64 a0_1] 23 (0, 0))) ∧ Aside0 (wc.heap[gb192]? = some (.cells #[.int .i64 a0_2, .int .i64 a0_3, .bool a0_4] 25 (0, 0))) ∧ Aside0 (wc.heap[gb193]? = some (.cells #[.int .i64 x194000_17, .int .i64 x194001_17, .bool x194002_17] 25 (0, 0))) ∧ Aside0 (wc.heap[gb197]? = some (.cells #[.int .i64 t194, .int .i64 t195] 27 (0, 0))) ∧ Aside0 (wc.heap[gb201]? = some (.cells #[.int .i64 t198, .int .i64 t199] 27 (0, 0))) ∧ Aside0 (Below w.heap.size w wc))
              case first =>
                have H := HC40.out
                clear HC40
                by_cases c66 : t196 = 0
                · rw [if_pos c66] at H
                  have c66b0 : (t196 == 0) = true := beq_iff_eq.mpr c66
                  have c66b1 : (t196 != 0) = false := bne_eq_false_iff_eq.mpr c66
                  clear c66
                  (first | rw [c66b0] | (simp only [i64_w, i32_w]; rw [c66b0]) | skip)
                  by_cases c67 : t200 = 0
                  · rw [if_pos c67] at H
                    have c67b0 : (t200 == 0) = true := beq_iff_eq.mpr c67
                    have c67b1 : (t200 != 0) = false := bne_eq_false_iff_eq.mpr c67
                    clear c67
                    have H' := Aside0.mk H
                    clear H
                    have hnb68 := NB201_189.out
                    have hnc68 := NB189_201.out
                    have hnb69 := NB201_191.out
                    have hnc69 := NB191_201.out
                    have hnb70 := NB201_192.out
                    have hnc70 := NB192_201.out
                    have hnb71 := NB201_193.out
                    have hnc71 := NB193_201.out
                    have hnb72 := NB201_197.out
                    have hnc72 := NB197_201.out
                    have hcz73_0 : w59.cell? ⟨gb201, 0, none⟩ = some (.int .i64 0) := (blk_cell BK201.out 0).trans rfl
                    have hcz73_1 : w59.cell? ⟨gb201, 1, none⟩ = some (.int .i64 0) := (blk_cell BK201.out 1).trans rfl
                    have hfz73_0 := blk_frozen BK201.out 0
                    have hfz73_1 := blk_frozen BK201.out 1
                    have hnb74 := NB197_189.out
                    have hnc74 := NB189_197.out
                    have hnb75 := NB197_191.out
                    have hnc75 := NB191_197.out
                    have hnb76 := NB197_192.out
                    have hnc76 := NB192_197.out
                    have hnb77 := NB197_193.out
                    have hnc77 := NB193_197.out
                    have hcz78_0 : w59.cell? ⟨gb197, 0, none⟩ = some (.int .i64 t194) := (blk_cell BK197.out 0).trans rfl
                    have hcz78_1 : w59.cell? ⟨gb197, 1, none⟩ = some (.int .i64 t195) := (blk_cell BK197.out 1).trans rfl
                    have hfz78_0 := blk_frozen BK197.out 0
                    have hfz78_1 := blk_frozen BK197.out 1
                    go_wp2
                    go_meet
                    case rel => exact ⟨_, (decide (t198 < t194)), (by first | rfl | (simp; done) | (simp [*]; done)), H', ⟨by have := HJ3.out; have := HJ17.out; first | omega | exact Nat.le_refl _⟩, ⟨by (with_reducible repeat (first | refine blk_drewN ?_ _ | refine blk_drew ?_ | refine blk_alloc ?_ _)); refine blk_far ?_ NB189_201.out _; (with_reducible repeat (first | refine blk_drewN ?_ _ | refine blk_drew ?_ | refine blk_alloc ?_ _)); refine blk_far ?_ NB189_201.out _; (with_reducible repeat (first | refine blk_drewN ?_ _ | refine blk_drew ?_ | refine blk_alloc ?_ _)); exact BK189.out⟩, ⟨by (with_reducible repeat (first | refine blk_drewN ?_ _ | refine blk_drew ?_ | refine blk_alloc ?_ _)); refine blk_far ?_ NB191_201.out _; (with_reducible repeat (first | refine blk_drewN ?_ _ | refine blk_drew ?_ | refine blk_alloc ?_ _)); refine blk_far ?_ NB191_201.out _; (with_reducible repeat (first | refine blk_drewN ?_ _ | refine blk_drew ?_ | refine blk_alloc ?_ _)); exact BK191.out⟩, ⟨by (with_reducible repeat (first | refine blk_drewN ?_ _ | refine blk_drew ?_ | refine blk_alloc ?_ _)); refine blk_far ?_ NB192_201.out _; (with_reducible repeat (first | refine blk_drewN ?_ _ | refine blk_drew ?_ | refine blk_alloc ?_ _)); refine blk_far ?_ NB192_201.out _; (with_reducible repeat (first | refine blk_drewN ?_ _ | refine blk_drew ?_ | refine blk_alloc ?_ _)); exact BK192.out⟩, ⟨by (with_reducible repeat (first | refine blk_drewN ?_ _ | refine blk_drew ?_ | refine blk_alloc ?_ _)); refine blk_far ?_ NB193_201.out _; (with_reducible repeat (first | refine blk_drewN ?_ _ | refine blk_drew ?_ | refine blk_alloc ?_ _)); refine blk_far ?_ NB193_201.out _; (with_reducible repeat (first | refine blk_drewN ?_ _ | refine blk_drew ?_ | refine blk_alloc ?_ _)); exact BK193.out⟩, ⟨by (with_reducible repeat (first | refine blk_drewN ?_ _ | refine blk_drew ?_ | refine blk_alloc ?_ _)); refine blk_far ?_ NB197_201.out _; (with_reducible repeat (first | refine blk_drewN ?_ _ | refine blk_drew ?_ | refine blk_alloc ?_ _)); refine blk_far ?_ NB197_201.out _; (with_reducible repeat (first | refine blk_drewN ?_ _ | refine blk_drew ?_ | refine blk_alloc ?_ _)); exact BK197.out⟩, ⟨by (with_reducible repeat (first | refine blk_drewN ?_ _ | refine blk_drew ?_ | refine blk_alloc ?_ _)); refine blk_put (cs := #[.int .i64 t198, .int .i64 0]) ?_ 1 _ rfl; (with_reducible repeat (first | refine blk_drewN ?_ _ | refine blk_drew ?_ | refine blk_alloc ?_ _)); refine blk_put (cs := #[.int .i64 0, .int .i64 0]) ?_ 0 _ rfl; (with_reducible repeat (first | refine blk_drewN ?_ _ | refine blk_drew ?_ | refine blk_alloc ?_ _)); exact BK201.out⟩, ⟨zq69_⟩⟩
                  · rw [if_neg c67] at H
                    have c67b0 : (t200 == 0) = false := beq_eq_false_iff_ne.mpr c67
                    have c67b1 : (t200 != 0) = true := bne_iff_ne.mpr c67
                    have H' := Aside0.mk H
                    clear H
                    go_wp2
                    go_meet
                    case rel => exact zq10_
                · rw [if_neg c66] at H
                  have c66b0 : (t196 == 0) = false := beq_eq_false_iff_ne.mpr c66
                  have c66b1 : (t196 != 0) = true := bne_iff_ne.mpr c66
                  (first | rw [c66b0] | (simp only [i64_w, i32_w]; rw [c66b0]) | skip)
                  have H' := Aside0.mk H
                  clear H
                  go_wp2
                  go_meet
                  case rel => exact zq10_
              case rest =>
                clear HC40
                try clear c1
                try clear c2
                try clear p2
                try clear c3
                try clear c4
                try clear c5
                try clear c6
                try clear p6
                try clear c7
                try clear c8
                try clear c9
                try clear c16
                try clear c16b0
                try clear c16b1
                try clear c17
                try clear c19
                try clear c20
                try clear c23
                try clear c24
                try clear c25
                try clear c27
                try clear c41
                try clear c42
                try clear c43
                try clear c45
                try clear c46
                try clear c50
                try clear c51
                try clear c52
                try clear c53
                try clear c56
                try clear c60
                try clear c61
                try clear c62
                try clear c63
                try clear c64
                try clear p64
                try clear c66
                try clear c66b0
                try clear c66b1
                try clear c67
                try clear c67b0
                try clear c67b1
                try clear c68
                try clear c69
                try clear c70
                try clear c71
                try clear c72
                try clear c74
                try clear c75
                try clear c76
                try clear c77
                try clear hcz21_0
                try clear hcz21_1
                try clear hcz21_2
                try clear hcz26_0
                try clear hcz26_1
                try clear hcz26_2
                try clear hcz44_0
                try clear hcz44_1
                try clear hcz47_0
                try clear hcz47_1
                try clear hcz47_2
                try clear hcz54_0
                try clear hcz54_1
                try clear hcz55_0
                try clear hcz55_1
                try clear hcz57_0
                try clear hcz57_1
                try clear hcz57_2
                try clear hcz65_0
                try clear hcz65_1
                try clear hcz73_0
                try clear hcz73_1
                try clear hcz78_0
                try clear hcz78_1
                try clear hfz21_0
                try clear hfz21_1
                try clear hfz21_2
                try clear hfz26_0
                try clear hfz26_1
                try clear hfz26_2
                try clear hfz44_0
                try clear hfz44_1
                try clear hfz47_0
                try clear hfz47_1
                try clear hfz47_2
                try clear hfz54_0
                try clear hfz54_1
                try clear hfz55_0
                try clear hfz55_1
                try clear hfz57_0
                try clear hfz57_1
                try clear hfz57_2
                try clear hfz65_0
                try clear hfz65_1
                try clear hfz73_0
                try clear hfz73_1
                try clear hfz78_0
                try clear hfz78_1
                try clear p2
                try clear p6
                obtain ⟨kq, x85_39, rfl, HA, HJ39, BK189, BK191, BK192, BK193, BK197, BK201, HB⟩ := hcut
                cases kq with
                | zero => exact absurd HA.out (by simp [lombardlaw14_StageWorse.j2])
                | succ kj39 =>
                  have H := HA.out
                  clear HA
                  simp only [lombardlaw14_StageWorse.j2] at H
                  by_cases c79 : x85_39 = true
                  · subst c79
                    have H1 : (some false) = some r := by rw [if_pos rfl] at H; exact H
                    clear H
                    have H := H1
                    clear H1
                    obtain rfl := Option.some.inj H
                    go_wp2
                    go_ret
                    exact ⟨zq56_, zq69_⟩
                  · replace c79 := Bool.eq_false_iff.mpr c79
                    subst c79
                    have H1 : ((some (([] : List (S25)) : List (S25))).bind fun y203 => (if y203.length + l0_7.length < 5864062014805 then ((some (y203 ++ l0_7 : List (S25))).bind fun y206 => ((some (([(⟨0, 0, true⟩ : S25)] : List (S25)) : List (S25))).bind fun y209 => (if y206.length + y209.length < 5864062014805 then ((some (y206 ++ y209 : List (S25))).bind fun y212 => (if y212.length + l0_8.length < 5864062014805 then ((lombardlaw14_to.f kj39 (y212 ++ l0_8)).bind fun t218 => ((stage_Run.f kj39 t218).bind fun bt221 => ((some (([(⟨0, 0, true⟩ : S25)] : List (S25)) : List (S25))).bind fun y225 => (if y225.length + l0_8.length < 5864062014805 then ((lombardlaw14_to.f kj39 (y225 ++ l0_8)).bind fun t231 => ((stage_Run.f kj39 t231).bind fun bt234 => (if bt221.2 = 0 then (if bt234.2 = 0 then (if 0 ≤ (l0_7.length : Int) then (if (l0_7.length : Int) ≤ (bt221.1.length : Int) then ((lombardref06_Ints.f kj39 (bt221.1.drop ((l0_7.length : Int) : Int).toNat) bt234.1).bind fun t242 => (some t242)) else (none)) else (none)) else (some false)) else (some true)))) else (none))))) else (none))) else (none)))) else (none))) = some r := by rw [if_neg (show ¬ (false = true) by decide)] at H; exact H
                    clear H
                    have H := H1
                    clear H1
                    obtain ⟨y203, hy203⟩ : ∃ y_ : List (S25), y_ = (([] : List (S25))) := ⟨_, rfl⟩
                    replace H : (if y203.length + l0_7.length < 5864062014805 then ((some (y203 ++ l0_7 : List (S25))).bind fun y206 => ((some (([(⟨0, 0, true⟩ : S25)] : List (S25)) : List (S25))).bind fun y209 => (if y206.length + y209.length < 5864062014805 then ((some (y206 ++ y209 : List (S25))).bind fun y212 => (if y212.length + l0_8.length < 5864062014805 then ((lombardlaw14_to.f kj39 (y212 ++ l0_8)).bind fun t218 => ((stage_Run.f kj39 t218).bind fun bt221 => ((some (([(⟨0, 0, true⟩ : S25)] : List (S25)) : List (S25))).bind fun y225 => (if y225.length + l0_8.length < 5864062014805 then ((lombardlaw14_to.f kj39 (y225 ++ l0_8)).bind fun t231 => ((stage_Run.f kj39 t231).bind fun bt234 => (if bt221.2 = 0 then (if bt234.2 = 0 then (if 0 ≤ (l0_7.length : Int) then (if (l0_7.length : Int) ≤ (bt221.1.length : Int) then ((lombardref06_Ints.f kj39 (bt221.1.drop ((l0_7.length : Int) : Int).toNat) bt234.1).bind fun t242 => (some t242)) else (none)) else (none)) else (some false)) else (some true)))) else (none))))) else (none))) else (none)))) else (none)) = some r := by first | (rw [hy203]; with_reducible exact H) | (have H2_ := (Option.bind_some _ _).symm.trans H; rw [hy203]; with_reducible exact H2_) | (have H2_ := (Option.bind_some _ _).symm.trans H; with_reducible exact H2_) | with_reducible exact H | (rw [hy203]; exact H) | exact H
                    have Ny203 := Aside0.mk hy203
                    clear hy203
                    by_cases c80 : y203.length + l0_7.length < 5864062014805
                    · rw [if_pos c80] at H
                      have LMc80 := Aside0.mk c80
                      clear c80
                      obtain ⟨y206, hy206⟩ : ∃ y_ : List (S25), y_ = (y203 ++ l0_7) := ⟨_, rfl⟩
                      replace H : ((some (([(⟨0, 0, true⟩ : S25)] : List (S25)) : List (S25))).bind fun y209 => (if y206.length + y209.length < 5864062014805 then ((some (y206 ++ y209 : List (S25))).bind fun y212 => (if y212.length + l0_8.length < 5864062014805 then ((lombardlaw14_to.f kj39 (y212 ++ l0_8)).bind fun t218 => ((stage_Run.f kj39 t218).bind fun bt221 => ((some (([(⟨0, 0, true⟩ : S25)] : List (S25)) : List (S25))).bind fun y225 => (if y225.length + l0_8.length < 5864062014805 then ((lombardlaw14_to.f kj39 (y225 ++ l0_8)).bind fun t231 => ((stage_Run.f kj39 t231).bind fun bt234 => (if bt221.2 = 0 then (if bt234.2 = 0 then (if 0 ≤ (l0_7.length : Int) then (if (l0_7.length : Int) ≤ (bt221.1.length : Int) then ((lombardref06_Ints.f kj39 (bt221.1.drop ((l0_7.length : Int) : Int).toNat) bt234.1).bind fun t242 => (some t242)) else (none)) else (none)) else (some false)) else (some true)))) else (none))))) else (none))) else (none))) = some r := by first | (rw [hy206]; with_reducible exact H) | (have H2_ := (Option.bind_some _ _).symm.trans H; rw [hy206]; with_reducible exact H2_) | (have H2_ := (Option.bind_some _ _).symm.trans H; with_reducible exact H2_) | with_reducible exact H | (rw [hy206]; exact H) | exact H
                      have Ny206 := Aside0.mk hy206
                      clear hy206
                      obtain ⟨y209, hy209⟩ : ∃ y_ : List (S25), y_ = (([(⟨0, 0, true⟩ : S25)] : List (S25))) := ⟨_, rfl⟩
                      replace H : (if y206.length + y209.length < 5864062014805 then ((some (y206 ++ y209 : List (S25))).bind fun y212 => (if y212.length + l0_8.length < 5864062014805 then ((lombardlaw14_to.f kj39 (y212 ++ l0_8)).bind fun t218 => ((stage_Run.f kj39 t218).bind fun bt221 => ((some (([(⟨0, 0, true⟩ : S25)] : List (S25)) : List (S25))).bind fun y225 => (if y225.length + l0_8.length < 5864062014805 then ((lombardlaw14_to.f kj39 (y225 ++ l0_8)).bind fun t231 => ((stage_Run.f kj39 t231).bind fun bt234 => (if bt221.2 = 0 then (if bt234.2 = 0 then (if 0 ≤ (l0_7.length : Int) then (if (l0_7.length : Int) ≤ (bt221.1.length : Int) then ((lombardref06_Ints.f kj39 (bt221.1.drop ((l0_7.length : Int) : Int).toNat) bt234.1).bind fun t242 => (some t242)) else (none)) else (none)) else (some false)) else (some true)))) else (none))))) else (none))) else (none)) = some r := by first | (rw [hy209]; with_reducible exact H) | (have H2_ := (Option.bind_some _ _).symm.trans H; rw [hy209]; with_reducible exact H2_) | (have H2_ := (Option.bind_some _ _).symm.trans H; with_reducible exact H2_) | with_reducible exact H | (rw [hy209]; exact H) | exact H
                      have Ny209 := Aside0.mk hy209
                      clear hy209
                      by_cases c81 : y206.length + y209.length < 5864062014805
                      · rw [if_pos c81] at H
                        have LMc81 := Aside0.mk c81
                        clear c81
                        obtain ⟨y212, hy212⟩ : ∃ y_ : List (S25), y_ = (y206 ++ y209) := ⟨_, rfl⟩
                        replace H : (if y212.length + l0_8.length < 5864062014805 then ((lombardlaw14_to.f kj39 (y212 ++ l0_8)).bind fun t218 => ((stage_Run.f kj39 t218).bind fun bt221 => ((some (([(⟨0, 0, true⟩ : S25)] : List (S25)) : List (S25))).bind fun y225 => (if y225.length + l0_8.length < 5864062014805 then ((lombardlaw14_to.f kj39 (y225 ++ l0_8)).bind fun t231 => ((stage_Run.f kj39 t231).bind fun bt234 => (if bt221.2 = 0 then (if bt234.2 = 0 then (if 0 ≤ (l0_7.length : Int) then (if (l0_7.length : Int) ≤ (bt221.1.length : Int) then ((lombardref06_Ints.f kj39 (bt221.1.drop ((l0_7.length : Int) : Int).toNat) bt234.1).bind fun t242 => (some t242)) else (none)) else (none)) else (some false)) else (some true)))) else (none))))) else (none)) = some r := by first | (rw [hy212]; with_reducible exact H) | (have H2_ := (Option.bind_some _ _).symm.trans H; rw [hy212]; with_reducible exact H2_) | (have H2_ := (Option.bind_some _ _).symm.trans H; with_reducible exact H2_) | with_reducible exact H | (rw [hy212]; exact H) | exact H
                        have Ny212 := Aside0.mk hy212
                        clear hy212
                        by_cases c82 : y212.length + l0_8.length < 5864062014805
                        · rw [if_pos c82] at H
                          have LMc82 := Aside0.mk c82
                          clear c82
                          obtain ⟨y215, hy215⟩ : ∃ y_ : List (S25), y_ = (y212 ++ l0_8) := ⟨_, rfl⟩
                          replace H : ((lombardlaw14_to.f kj39 y215).bind fun t218 => ((stage_Run.f kj39 t218).bind fun bt221 => ((some (([(⟨0, 0, true⟩ : S25)] : List (S25)) : List (S25))).bind fun y225 => (if y225.length + l0_8.length < 5864062014805 then ((lombardlaw14_to.f kj39 (y225 ++ l0_8)).bind fun t231 => ((stage_Run.f kj39 t231).bind fun bt234 => (if bt221.2 = 0 then (if bt234.2 = 0 then (if 0 ≤ (l0_7.length : Int) then (if (l0_7.length : Int) ≤ (bt221.1.length : Int) then ((lombardref06_Ints.f kj39 (bt221.1.drop ((l0_7.length : Int) : Int).toNat) bt234.1).bind fun t242 => (some t242)) else (none)) else (none)) else (some false)) else (some true)))) else (none))))) = some r := by first | (rw [hy215]; with_reducible exact H) | (have H2_ := (Option.bind_some _ _).symm.trans H; rw [hy215]; with_reducible exact H2_) | (have H2_ := (Option.bind_some _ _).symm.trans H; with_reducible exact H2_) | with_reducible exact H | (rw [hy215]; exact H) | exact H
                          have Ny215 := Aside0.mk hy215
                          clear hy215
                          replace H := Option.bind_eq_some_iff.mp H
                          obtain ⟨t218, A830, H⟩ := H
                          replace H : ((stage_Run.f kj39 t218).bind fun bt221 => ((some (([(⟨0, 0, true⟩ : S25)] : List (S25)) : List (S25))).bind fun y225 => (if y225.length + l0_8.length < 5864062014805 then ((lombardlaw14_to.f kj39 (y225 ++ l0_8)).bind fun t231 => ((stage_Run.f kj39 t231).bind fun bt234 => (if bt221.2 = 0 then (if bt234.2 = 0 then (if 0 ≤ (l0_7.length : Int) then (if (l0_7.length : Int) ≤ (bt221.1.length : Int) then ((lombardref06_Ints.f kj39 (bt221.1.drop ((l0_7.length : Int) : Int).toNat) bt234.1).bind fun t242 => (some t242)) else (none)) else (none)) else (some false)) else (some true)))) else (none)))) = some r := H
                          have A83 := Aside0.mk A830
                          clear A830
                          replace H := Option.bind_eq_some_iff.mp H
                          obtain ⟨⟨t221, t222⟩, A840, H⟩ := H
                          replace H : ((some (([(⟨0, 0, true⟩ : S25)] : List (S25)) : List (S25))).bind fun y225 => (if y225.length + l0_8.length < 5864062014805 then ((lombardlaw14_to.f kj39 (y225 ++ l0_8)).bind fun t231 => ((stage_Run.f kj39 t231).bind fun bt234 => (if t222 = 0 then (if bt234.2 = 0 then (if 0 ≤ (l0_7.length : Int) then (if (l0_7.length : Int) ≤ (t221.length : Int) then ((lombardref06_Ints.f kj39 (t221.drop ((l0_7.length : Int) : Int).toNat) bt234.1).bind fun t242 => (some t242)) else (none)) else (none)) else (some false)) else (some true)))) else (none))) = some r := H
                          have A84 := Aside0.mk A840
                          clear A840
                          obtain ⟨y225, hy225⟩ : ∃ y_ : List (S25), y_ = (([(⟨0, 0, true⟩ : S25)] : List (S25))) := ⟨_, rfl⟩
                          replace H : (if y225.length + l0_8.length < 5864062014805 then ((lombardlaw14_to.f kj39 (y225 ++ l0_8)).bind fun t231 => ((stage_Run.f kj39 t231).bind fun bt234 => (if t222 = 0 then (if bt234.2 = 0 then (if 0 ≤ (l0_7.length : Int) then (if (l0_7.length : Int) ≤ (t221.length : Int) then ((lombardref06_Ints.f kj39 (t221.drop ((l0_7.length : Int) : Int).toNat) bt234.1).bind fun t242 => (some t242)) else (none)) else (none)) else (some false)) else (some true)))) else (none)) = some r := by first | (rw [hy225]; with_reducible exact H) | (have H2_ := (Option.bind_some _ _).symm.trans H; rw [hy225]; with_reducible exact H2_) | (have H2_ := (Option.bind_some _ _).symm.trans H; with_reducible exact H2_) | with_reducible exact H | (rw [hy225]; exact H) | exact H
                          have Ny225 := Aside0.mk hy225
                          clear hy225
                          by_cases c85 : y225.length + l0_8.length < 5864062014805
                          · rw [if_pos c85] at H
                            have LMc85 := Aside0.mk c85
                            clear c85
                            obtain ⟨y228, hy228⟩ : ∃ y_ : List (S25), y_ = (y225 ++ l0_8) := ⟨_, rfl⟩
                            replace H : ((lombardlaw14_to.f kj39 y228).bind fun t231 => ((stage_Run.f kj39 t231).bind fun bt234 => (if t222 = 0 then (if bt234.2 = 0 then (if 0 ≤ (l0_7.length : Int) then (if (l0_7.length : Int) ≤ (t221.length : Int) then ((lombardref06_Ints.f kj39 (t221.drop ((l0_7.length : Int) : Int).toNat) bt234.1).bind fun t242 => (some t242)) else (none)) else (none)) else (some false)) else (some true)))) = some r := by first | (rw [hy228]; with_reducible exact H) | (have H2_ := (Option.bind_some _ _).symm.trans H; rw [hy228]; with_reducible exact H2_) | (have H2_ := (Option.bind_some _ _).symm.trans H; with_reducible exact H2_) | with_reducible exact H | (rw [hy228]; exact H) | exact H
                            have Ny228 := Aside0.mk hy228
                            clear hy228
                            replace H := Option.bind_eq_some_iff.mp H
                            obtain ⟨t231, A860, H⟩ := H
                            replace H : ((stage_Run.f kj39 t231).bind fun bt234 => (if t222 = 0 then (if bt234.2 = 0 then (if 0 ≤ (l0_7.length : Int) then (if (l0_7.length : Int) ≤ (t221.length : Int) then ((lombardref06_Ints.f kj39 (t221.drop ((l0_7.length : Int) : Int).toNat) bt234.1).bind fun t242 => (some t242)) else (none)) else (none)) else (some false)) else (some true))) = some r := H
                            have A86 := Aside0.mk A860
                            clear A860
                            replace H := Option.bind_eq_some_iff.mp H
                            obtain ⟨⟨t234, t235⟩, A870, H⟩ := H
                            replace H : (if t222 = 0 then (if t235 = 0 then (if 0 ≤ (l0_7.length : Int) then (if (l0_7.length : Int) ≤ (t221.length : Int) then ((lombardref06_Ints.f kj39 (t221.drop ((l0_7.length : Int) : Int).toNat) t234).bind fun t242 => (some t242)) else (none)) else (none)) else (some false)) else (some true)) = some r := H
                            have A87 := Aside0.mk A870
                            clear A870
                            by_cases c88 : t222 = 0
                            · rw [if_pos c88] at H
                              have c88b0 : (t222 == 0) = true := beq_iff_eq.mpr c88
                              have c88b1 : (t222 != 0) = false := bne_eq_false_iff_eq.mpr c88
                              clear c88
                              by_cases c89 : t235 = 0
                              · rw [if_pos c89] at H
                                have c89b0 : (t235 == 0) = true := beq_iff_eq.mpr c89
                                have c89b1 : (t235 != 0) = false := bne_eq_false_iff_eq.mpr c89
                                clear c89
                                by_cases c90 : 0 ≤ (l0_7.length : Int)
                                · rw [if_pos c90] at H
                                  have c90b0 := eq_true c90
                                  have c90b1 : decide (0 ≤ (l0_7.length : Int)) = true := decide_eq_true c90
                                  clear c90
                                  by_cases c91 : (l0_7.length : Int) ≤ (t221.length : Int)
                                  · rw [if_pos c91] at H
                                    have c91b0 := eq_true c91
                                    have c91b1 : decide ((l0_7.length : Int) ≤ (t221.length : Int)) = true := decide_eq_true c91
                                    clear c91
                                    obtain ⟨y238, hy238⟩ : ∃ y_ : List Int, y_ = (t221.drop ((l0_7.length : Int) : Int).toNat) := ⟨_, rfl⟩
                                    replace H : ((lombardref06_Ints.f kj39 y238 t234).bind fun t242 => (some t242)) = some r := by first | (rw [hy238]; with_reducible exact H) | (have H2_ := (Option.bind_some _ _).symm.trans H; rw [hy238]; with_reducible exact H2_) | (have H2_ := (Option.bind_some _ _).symm.trans H; with_reducible exact H2_) | with_reducible exact H | (rw [hy238]; exact H) | exact H
                                    have Ny238 := Aside0.mk hy238
                                    clear hy238
                                    replace H := Option.bind_eq_some_iff.mp H
                                    obtain ⟨t242, A920, H⟩ := H
                                    replace H : (some t242) = some r := H
                                    have A92 := Aside0.mk A920
                                    clear A920
                                    obtain rfl := Option.some.inj H
                                    exact arm0_0
                                  · rw [if_neg c91] at H
                                    exact absurd H (by simp)
                                · rw [if_neg c90] at H
                                  exact absurd H (by simp)
                              · rw [if_neg c89] at H
                                have c89b0 : (t235 == 0) = false := beq_eq_false_iff_ne.mpr c89
                                have c89b1 : (t235 != 0) = true := bne_iff_ne.mpr c89
                                obtain rfl := Option.some.inj H
                                exact arm1_0
                            · rw [if_neg c88] at H
                              have c88b0 : (t222 == 0) = false := beq_eq_false_iff_ne.mpr c88
                              have c88b1 : (t222 != 0) = true := bne_iff_ne.mpr c88
                              obtain rfl := Option.some.inj H
                              exact arm1_0
                          · rw [if_neg c85] at H
                            exact absurd H (by simp)
                        · rw [if_neg c82] at H
                          exact absurd H (by simp)
                      · rw [if_neg c81] at H
                        exact absurd H (by simp)
                    · rw [if_neg c80] at H
                      exact absurd H (by simp)
  · replace c3 := Bool.eq_false_iff.mpr c3
    subst c3
    have H1 : (some false) = some r := by rw [if_neg (show ¬ (false = true) by decide)] at H; exact H
    clear H
    have H := H1
    clear H1
    obtain rfl := Option.some.inj H
    go_enter Try.func6, Try.ntmps6
    go_wp2_with (first | ((with_reducible refine gate_dst (N := 1) rfl ?_); (try (refine gate_guard (by rfl) ?_; dsimp only)); refine box_event ?hg (N := 1) ?hd (cs := #[.int .i64 a0_0, .int .i64 a0_1, .int .i64 a0_2, .int .i64 a0_3, .bool a0_4, .int .u8 a0_5, .int .u8 a0_6, .slice A0_7 l0_7.length c0_7, .slice A0_8 l0_8.length c0_8]) (t := 47) ?hr ?_; (case hd => rfl); (case hg => rfl); (case hr => first | (go_simp; done) | (go_simp; rfl)); intro gb189 hg w189 hbox hb; have n0_ := Aside0.mk (below_step (zq46_) hb); have n1_ := Aside0.mk (hbox); have n2_ := Aside0.mk ((by rw [hg]; exact (below_size (zq46_)) : w.heap.size ≤ gb189)); have n3_ := Aside0.mk ((by rw [hg]; exact (below_size (zq46_)) : w.heap.size ≤ gb189)); clear HB; have HB := n0_; have BK189 := n1_; have GW189 := n2_; have GE189 := n3_; clear n0_ n1_ n2_ n3_; clear hb hbox hg) | ((with_reducible refine gate_callee (f := 8) rfl ?_); refine goesL_ (some 19) rfl rfl Try.func8 (zq26_) rfl #[] rfl (zq16_) ?_; (with_reducible refine (lombardlaw14_alive.calls k  false _ A2.out).mono ?_); rintro e w190 ⟨rfl, hb⟩; refine ⟨_, rfl, ?_⟩; have n0_ := Aside0.mk (blk_below (g := gb189) (o := .cells #[.int .i64 a0_0, .int .i64 a0_1, .int .i64 a0_2, .int .i64 a0_3, .bool a0_4, .int .u8 a0_5, .int .u8 a0_6, .slice A0_7 l0_7.length c0_7, .slice A0_8 l0_8.length c0_8] 47 (0, 0)) (zq4_) hb); have n1_ := Aside0.mk (below_step (zq28_) hb); clear BK189; clear HB; have BK189 := n0_; have HB := n1_; clear n0_ n1_; (try clear hb); (try clear hb2); (try clear hk); (try clear hi)))
    go_ret
    exact ⟨zq56_, by repeat (first | (with_reducible first | exact HB.out | apply below_alloc | apply pw_below_drewN | apply below_drew1 | refine below_set ?_ GE189.out) | exact HB.out)⟩

end Go.Proofs.Ytjnhlglamiegbaa.Print
