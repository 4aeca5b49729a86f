-- written by this session's program wip/hybrid.py over the kit's printer, and by hand. Not trusted: Lean checks it.
import Derived.Test.YtpcllhhbaockfaaPrint0
import Derived.Test.YtpcllhhbaockfaaPrint1
namespace Go.Proofs.Ytpcllhhbaockfaa.Print
open Go.RowKit Go.Proofs.YtpcllhhbaockfaaW.PrintWords Go.Proofs.YtpcllhhbaockfaaW.PrintLast Go.Proofs.YtpcllhhbaockfaaW.PrintMore
attribute [local go_sem] max2_int min2_int max_two min_two max_three min_three max_four min_four   -- for this text's walks alone
set_option linter.unusedVariables false
set_option linter.unusedSimpArgs false

/-! ### allow_Change_29: function 29 -/
theorem zero_2 (W : World) : (zeroValue 2).run Try.prog W = .ok (.int .i64 0) W := by kernel_rfl
def allow_Change.moved (x : S64) : Int := if x.f0 = x.f1 then 0 else x.f2
def allow_Change.key21 (x : S64) : Int := x.f1
def allow_Change.key23 (x : S64) : Int := x.f0
def allow_Change.key24 (x : S64) : Int := x.f1
def allow_Change.key25 (x : S64) : Int := x.f1
def allow_Change.amt21 (x : S64) : Int := allow_Change.moved x
def allow_Change.amt23 (x : S64) : Int := allow_Change.moved x
def allow_Change.amt24 (x : S64) : Int := x.f3 - x.f2 + x.f4
def allow_Change.amt25 (x : S64) : Int := x.f4
/-- What a change may be. -/
def allow_Change.ok (x : S64) : Prop := 1 ≤ x.f0 ∧ x.f0 ≤ 3 ∧ 1 ≤ x.f1 ∧ x.f1 ≤ 3 ∧ 0 ≤ x.f2 ∧ x.f2 ≤ 562949953421312 ∧ 0 ≤ x.f3 ∧ x.f3 ≤ 562949953421312 ∧ 0 ≤ x.f4 ∧ x.f4 ≤ 562949953421312
theorem allow_Change.bd21 {x : S64} (h : allow_Change.ok x) : -1125899906842624 ≤ allow_Change.amt21 x ∧ allow_Change.amt21 x ≤ 1125899906842624 := by
  obtain ⟨h0, h1, h2, h3, h4, h5, h6, h7, h8, h9⟩ := h
  unfold allow_Change.amt21 allow_Change.moved; split <;> omega
theorem allow_Change.bd23 {x : S64} (h : allow_Change.ok x) : -1125899906842624 ≤ allow_Change.amt23 x ∧ allow_Change.amt23 x ≤ 1125899906842624 := allow_Change.bd21 h
theorem allow_Change.bd24 {x : S64} (h : allow_Change.ok x) : -1125899906842624 ≤ allow_Change.amt24 x ∧ allow_Change.amt24 x ≤ 1125899906842624 := by
  obtain ⟨h0, h1, h2, h3, h4, h5, h6, h7, h8, h9⟩ := h
  unfold allow_Change.amt24; omega
theorem allow_Change.bd25 {x : S64} (h : allow_Change.ok x) : -1125899906842624 ≤ allow_Change.amt25 x ∧ allow_Change.amt25 x ≤ 1125899906842624 := by
  obtain ⟨h0, h1, h2, h3, h4, h5, h6, h7, h8, h9⟩ := h
  unfold allow_Change.amt25; omega
def allow_Change.sums (key amt : S64 → Int) : List S64 → Int → Int
  | [], _ => 0
  | x :: t, b => (if b = key x then amt x else 0) + allow_Change.sums key amt t b
theorem allow_Change.sums_app (key amt : S64 → Int) (l : List S64) (x : S64) : allow_Change.sums key amt (l ++ [x]) = fset (allow_Change.sums key amt l) (key x) (allow_Change.sums key amt l (key x) + amt x) := by
  funext b
  unfold fset
  induction l with
  | nil =>
    by_cases c : b = key x
    · subst c; simp [allow_Change.sums]
    · simp [allow_Change.sums, c]
  | cons y t ih =>
    rw [List.cons_append, allow_Change.sums, ih]
    by_cases c : b = key x
    · subst c; rw [if_pos rfl, if_pos rfl, allow_Change.sums]; omega
    · rw [if_neg c, if_neg c, allow_Change.sums]
theorem allow_Change.sums_bd (key amt : S64 → Int) (l : List S64) (h : ∀ x ∈ l, -1125899906842624 ≤ amt x ∧ amt x ≤ 1125899906842624) (b : Int) : -((l.length : Int) * 1125899906842624) ≤ allow_Change.sums key amt l b ∧ allow_Change.sums key amt l b ≤ (l.length : Int) * 1125899906842624 := by
  induction l with
  | nil => simp [allow_Change.sums]
  | cons y t ih =>
    have h1 := h y List.mem_cons_self
    have h2 := ih (fun x hx => h x (List.mem_cons_of_mem _ hx))
    rw [allow_Change.sums, List.length_cons]
    split <;> constructor <;> (push_cast; omega)
set_option maxHeartbeats 1000000 in
set_option maxRecDepth 100000 in
theorem allow_Change.c22 (x : S64) (w : World) : Calls Try.prog 31 #[.agg #[.int .i64 x.f0, .int .i64 x.f1, .int .i64 x.f2, .int .i64 x.f3, .int .i64 x.f4]] w fun e w' => e = .returned (.int .i64 (allow_Change.moved x)) ∧ Below w.heap.size w w' := by
  by_cases c : x.f0 = x.f1
  · have cb : (x.f0 == x.f1) = true := by simpa using c
    have HM := Aside0.mk (show allow_Change.moved x = 0 from if_pos c)
    clear c
    go_enter Try.func31, Try.ntmps31
    go_wp2
    go_ret
    exact ⟨by rw [HM.out]; rfl, below_alloc (Below.refl _ _) _⟩
  · have cb : (x.f0 == x.f1) = false := by simpa using c
    have HM := Aside0.mk (show allow_Change.moved x = x.f2 from if_neg c)
    clear c
    go_enter Try.func31, Try.ntmps31
    go_wp2
    go_ret
    exact ⟨by rw [HM.out]; rfl, below_alloc (Below.refl _ _) _⟩

set_option maxHeartbeats 1000000 in
set_option maxRecDepth 100000 in
theorem allow_Change.c21 (x : S64) (hx : allow_Change.ok x) (w : World) : Calls Try.prog 30 #[.agg #[.int .i64 x.f0, .int .i64 x.f1, .int .i64 x.f2, .int .i64 x.f3, .int .i64 x.f4]] w fun e w' => e = .returned (.tuple #[.int .i64 (allow_Change.key21 x), .int .i64 (allow_Change.amt21 x)]) ∧ Below w.heap.size w w' := by
  clear hx
  have key : ∀ z, Below (w.alloc (.cells #[.int .i64 x.f0, .int .i64 x.f1, .int .i64 x.f2, .int .i64 x.f3, .int .i64 x.f4] 64)).heap.size (w.alloc (.cells #[.int .i64 x.f0, .int .i64 x.f1, .int .i64 x.f2, .int .i64 x.f3, .int .i64 x.f4] 64)) z →
      z.cell? ⟨w.heap.size, 0, none⟩ = some (.int .i64 x.f0) ∧ z.cell? ⟨w.heap.size, 1, none⟩ = some (.int .i64 x.f1) ∧ z.cell? ⟨w.heap.size, 2, none⟩ = some (.int .i64 x.f2) ∧ z.cell? ⟨w.heap.size, 3, none⟩ = some (.int .i64 x.f3) ∧ z.cell? ⟨w.heap.size, 4, none⟩ = some (.int .i64 x.f4) := fun z hz => by
    have hb := blk_below (blk_new w _) hz
    exact ⟨blk_cell hb 0, blk_cell hb 1, blk_cell hb 2, blk_cell hb 3, blk_cell hb 4⟩
  go_enter Try.func30, Try.ntmps30
  go_wp2
  go_region_held3 (fun z => z.cell? ⟨w.heap.size, 0, none⟩ = some (.int .i64 x.f0) ∧ z.cell? ⟨w.heap.size, 1, none⟩ = some (.int .i64 x.f1) ∧ z.cell? ⟨w.heap.size, 2, none⟩ = some (.int .i64 x.f2) ∧ z.cell? ⟨w.heap.size, 3, none⟩ = some (.int .i64 x.f3) ∧ z.cell? ⟨w.heap.size, 4, none⟩ = some (.int .i64 x.f4))
    (exact key _ (by repeat (first | exact Below.refl _ _ | exact HB3.out | apply pw_below_drewN | apply below_drew1)))
    (first | (go_at_call 31; (with_reducible refine (allow_Change.c22 x _).mono ?_); rintro e w3 ⟨rfl, hb⟩; have HB3 := Aside0.mk (below_step (w := w.alloc (.cells #[.int .i64 x.f0, .int .i64 x.f1, .int .i64 x.f2, .int .i64 x.f3, .int .i64 x.f4] 64)) (by repeat (first | exact Below.refl _ _ | apply pw_below_drewN | apply below_drew1)) hb); clear hb))
  go_wp2
  go_ret2
  exact ⟨rfl, below_step (below_alloc (Below.refl _ _) _) HB3.out⟩

set_option maxHeartbeats 1000000 in
set_option maxRecDepth 100000 in
theorem allow_Change.c23 (x : S64) (hx : allow_Change.ok x) (w : World) : Calls Try.prog 32 #[.agg #[.int .i64 x.f0, .int .i64 x.f1, .int .i64 x.f2, .int .i64 x.f3, .int .i64 x.f4]] w fun e w' => e = .returned (.tuple #[.int .i64 (allow_Change.key23 x), .int .i64 (allow_Change.amt23 x)]) ∧ Below w.heap.size w w' := by
  clear hx
  have key : ∀ z, Below (w.alloc (.cells #[.int .i64 x.f0, .int .i64 x.f1, .int .i64 x.f2, .int .i64 x.f3, .int .i64 x.f4] 64)).heap.size (w.alloc (.cells #[.int .i64 x.f0, .int .i64 x.f1, .int .i64 x.f2, .int .i64 x.f3, .int .i64 x.f4] 64)) z →
      z.cell? ⟨w.heap.size, 0, none⟩ = some (.int .i64 x.f0) ∧ z.cell? ⟨w.heap.size, 1, none⟩ = some (.int .i64 x.f1) ∧ z.cell? ⟨w.heap.size, 2, none⟩ = some (.int .i64 x.f2) ∧ z.cell? ⟨w.heap.size, 3, none⟩ = some (.int .i64 x.f3) ∧ z.cell? ⟨w.heap.size, 4, none⟩ = some (.int .i64 x.f4) := fun z hz => by
    have hb := blk_below (blk_new w _) hz
    exact ⟨blk_cell hb 0, blk_cell hb 1, blk_cell hb 2, blk_cell hb 3, blk_cell hb 4⟩
  go_enter Try.func32, Try.ntmps32
  go_wp2
  go_region_held3 (fun z => z.cell? ⟨w.heap.size, 0, none⟩ = some (.int .i64 x.f0) ∧ z.cell? ⟨w.heap.size, 1, none⟩ = some (.int .i64 x.f1) ∧ z.cell? ⟨w.heap.size, 2, none⟩ = some (.int .i64 x.f2) ∧ z.cell? ⟨w.heap.size, 3, none⟩ = some (.int .i64 x.f3) ∧ z.cell? ⟨w.heap.size, 4, none⟩ = some (.int .i64 x.f4))
    (exact key _ (by repeat (first | exact Below.refl _ _ | exact HB3.out | apply pw_below_drewN | apply below_drew1)))
    (first | (go_at_call 31; (with_reducible refine (allow_Change.c22 x _).mono ?_); rintro e w3 ⟨rfl, hb⟩; have HB3 := Aside0.mk (below_step (w := w.alloc (.cells #[.int .i64 x.f0, .int .i64 x.f1, .int .i64 x.f2, .int .i64 x.f3, .int .i64 x.f4] 64)) (by repeat (first | exact Below.refl _ _ | apply pw_below_drewN | apply below_drew1)) hb); clear hb))
  go_wp2
  go_ret2
  exact ⟨rfl, below_step (below_alloc (Below.refl _ _) _) HB3.out⟩

set_option maxHeartbeats 1000000 in
set_option maxRecDepth 100000 in
theorem allow_Change.c24 (x : S64) (hx : allow_Change.ok x) (w : World) : Calls Try.prog 33 #[.agg #[.int .i64 x.f0, .int .i64 x.f1, .int .i64 x.f2, .int .i64 x.f3, .int .i64 x.f4]] w fun e w' => e = .returned (.tuple #[.int .i64 (allow_Change.key24 x), .int .i64 (allow_Change.amt24 x)]) ∧ Below w.heap.size w w' := by
  obtain ⟨h0, h1, h2, h3, h4, h5, h6, h7, h8, h9⟩ := hx
  have hw1 : IntKind.i64.wrap (x.f3 - x.f2) = x.f3 - x.f2 := IntWalk.i64_in _ (by omega)
  have hw2 : IntKind.i64.wrap (x.f3 - x.f2 + x.f4) = x.f3 - x.f2 + x.f4 := IntWalk.i64_in _ (by omega)
  go_enter Try.func33, Try.ntmps33
  go_wp2
  go_quiet (fail)
  go_wp2
  go_ret2
  exact ⟨rfl, by repeat (first | exact Below.refl _ _ | apply pw_below_drewN | apply below_drew1 | apply below_alloc)⟩

set_option maxHeartbeats 1000000 in
set_option maxRecDepth 100000 in
theorem allow_Change.c25 (x : S64) (hx : allow_Change.ok x) (w : World) : Calls Try.prog 34 #[.agg #[.int .i64 x.f0, .int .i64 x.f1, .int .i64 x.f2, .int .i64 x.f3, .int .i64 x.f4]] w fun e w' => e = .returned (.tuple #[.int .i64 (allow_Change.key25 x), .int .i64 (allow_Change.amt25 x)]) ∧ Below w.heap.size w w' := by
  obtain ⟨h0, h1, h2, h3, h4, h5, h6, h7, h8, h9⟩ := hx
  have hw1 : IntKind.i64.wrap (x.f3 - x.f2) = x.f3 - x.f2 := IntWalk.i64_in _ (by omega)
  have hw2 : IntKind.i64.wrap (x.f3 - x.f2 + x.f4) = x.f3 - x.f2 + x.f4 := IntWalk.i64_in _ (by omega)
  go_enter Try.func34, Try.ntmps34
  go_wp2
  go_quiet (fail)
  go_wp2
  go_ret2
  exact ⟨rfl, by repeat (first | exact Below.refl _ _ | apply pw_below_drewN | apply below_drew1 | apply below_alloc)⟩

set_option maxHeartbeats 2000000 in
set_option maxRecDepth 100000 in
theorem allow_Change.by21 (A : Option Addr) (c : Nat) (l : List S64) (w : World) (hr : Kd.C k64 w A l.length l) (hc : l.length ≤ c) (hl : l.length ≤ 4096) (hok : ∀ x ∈ l, allow_Change.ok x) :
    Calls Try.prog 29 #[.slice A l.length c, .func (.func 30) #[] #[]] w fun e w' => e = .returned (.map (some w.heap.size)) ∧ IMap w' w.heap.size (allow_Change.sums allow_Change.key21 allow_Change.amt21 l) ∧ Below w.heap.size w w' := by
  have HR := Aside0.mk hr
  have HOK := Aside0.mk hok
  clear hr hok
  have hmm := @run_makeMap Try.prog
  go_enter Try.func29, Try.ntmps29
  go_wp2
  clear hmm
  go_loopw [13] (fun i wr => ∃ k : Nat, k ≤ l.length ∧ i = .int .i64 k ∧ Aside0 (IMap wr w.heap.size (allow_Change.sums allow_Change.key21 allow_Change.amt21 (l.take k))) ∧ Aside0 (Below w.heap.size w wr)) (fun i _ => l.length - (intOf i).toNat)
  case atStart => exact ⟨0, Nat.zero_le _, rfl, ⟨IMap.made w⟩, ⟨below_alloc (Below.refl _ _) _⟩⟩
  case round =>
    obtain ⟨k, hk, rfl, HM, HB⟩ := hrel
    by_cases hlt : k < l.length
    · obtain ⟨ad, rfl, hx0, hx1, hx2, hx3, hx4⟩ := at_T64 HR.out (k : Int) (by omega) (by omega)
      replace hx0 := (HB.out.cell (World.block_lt_of_cell? w _ hx0)).trans hx0
      replace hx1 := (HB.out.cell (World.block_lt_of_cell? w _ hx1)).trans hx1
      replace hx2 := (HB.out.cell (World.block_lt_of_cell? w _ hx2)).trans hx2
      replace hx3 := (HB.out.cell (World.block_lt_of_cell? w _ hx3)).trans hx3
      replace hx4 := (HB.out.cell (World.block_lt_of_cell? w _ hx4)).trans hx4
      rw [Int.toNat_natCast] at hx0 hx1 hx2 hx3 hx4
      have hrd : rd_T64 l (k : Int) = l[k] := by simp [rd_T64, List.getElem?_eq_getElem hlt]
      have HT : Aside0 (allow_Change.sums allow_Change.key21 allow_Change.amt21 (l.take (k + 1)) = fset (allow_Change.sums allow_Change.key21 allow_Change.amt21 (l.take k)) (allow_Change.key21 l[k]) (allow_Change.sums allow_Change.key21 allow_Change.amt21 (l.take k) (allow_Change.key21 l[k]) + allow_Change.amt21 l[k])) := ⟨by rw [List.take_succ_eq_append_getElem hlt, allow_Change.sums_app]⟩
      have hxok := HOK.out l[k] (List.getElem_mem hlt)
      have hbd := allow_Change.sums_bd allow_Change.key21 allow_Change.amt21 (l.take k) (fun x hx => allow_Change.bd21 (HOK.out x (List.mem_of_mem_take hx))) (allow_Change.key21 l[k])
      have hbx := allow_Change.bd21 hxok
      rw [List.length_take, Nat.min_eq_left hk] at hbd
      rw [hrd] at hx0 hx1 hx2 hx3 hx4
      clear hrd
      have HXOK := Aside0.mk hxok
      clear hxok
      generalize l[k] = x at hx0 hx1 hx2 hx3 hx4 HT HXOK hbd hbx
      generalize allow_Change.sums allow_Change.key21 allow_Change.amt21 (l.take k) = f at HM HT hbd
      obtain ⟨b1, b2⟩ := hbd
      obtain ⟨b3, b4⟩ := hbx
      have hs1 : -9223372036854775808 ≤ f (allow_Change.key21 x) + allow_Change.amt21 x := by omega
      have hs2 : f (allow_Change.key21 x) + allow_Change.amt21 x ≤ 9223372036854775807 := by omega
      have HBD := Aside0.mk (And.intro hs1 hs2)
      clear b1 b2 b3 b4 hs1 hs2
      go_wp2_with fail
      with_reducible refine (allow_Change.c21 x HXOK.out _).mono ?_
      rintro e w1 ⟨rfl, hb⟩
      have HB1 := Aside0.mk (below_step (w := wr) (by repeat (first | exact Below.refl _ _ | apply below_alloc | refine below_set ?_ (by first | omega | (simp; omega)))) hb)
      clear hb hx0 hx1 hx2 hx3 hx4
      have HM1 := Aside0.mk (HM.out.below HB1.out)
      generalize allow_Change.key21 x = ky at HM1 HT HBD
      generalize allow_Change.amt21 x = am at HT HBD
      have hlk := IMap.look Try.underlying80 Try.underlying3 zero_2 HM1.out ky
      have hw : IntKind.i64.wrap (f ky + am) = f ky + am := IntWalk.i64_in _ HBD.out
      have hw64 : wrap64 (f ky + am) = f ky + am := IntWalk.wrap64_in _ HBD.out
      obtain ⟨hmu, hm2, hput⟩ := IMap.put (P := Try.prog) Try.underlying80 Try.underlying3 HM1.out ky (f ky + am)
      have HM2 := Aside0.mk hm2
      have HB2 := Aside0.mk (hput.below (below_step HB.out HB1.out) (Nat.le_refl _))
      clear hm2 hput
      go_wp2_with fail
      go_roundw
      case rel => exact ⟨k + 1, by omega, by go_num, ⟨by rw [HT.out]; exact HM2.out⟩, HB2⟩
      case measure => simp [intOf]; omega
    · obtain rfl : k = l.length := by omega
      rw [List.take_length] at HM
      go_wp2
      go_ret
      exact ⟨rfl, HM.out, HB.out⟩

set_option maxHeartbeats 2000000 in
set_option maxRecDepth 100000 in
theorem allow_Change.by23 (A : Option Addr) (c : Nat) (l : List S64) (w : World) (hr : Kd.C k64 w A l.length l) (hc : l.length ≤ c) (hl : l.length ≤ 4096) (hok : ∀ x ∈ l, allow_Change.ok x) :
    Calls Try.prog 29 #[.slice A l.length c, .func (.func 32) #[] #[]] w fun e w' => e = .returned (.map (some w.heap.size)) ∧ IMap w' w.heap.size (allow_Change.sums allow_Change.key23 allow_Change.amt23 l) ∧ Below w.heap.size w w' := by
  have HR := Aside0.mk hr
  have HOK := Aside0.mk hok
  clear hr hok
  have hmm := @run_makeMap Try.prog
  go_enter Try.func29, Try.ntmps29
  go_wp2
  clear hmm
  go_loopw [13] (fun i wr => ∃ k : Nat, k ≤ l.length ∧ i = .int .i64 k ∧ Aside0 (IMap wr w.heap.size (allow_Change.sums allow_Change.key23 allow_Change.amt23 (l.take k))) ∧ Aside0 (Below w.heap.size w wr)) (fun i _ => l.length - (intOf i).toNat)
  case atStart => exact ⟨0, Nat.zero_le _, rfl, ⟨IMap.made w⟩, ⟨below_alloc (Below.refl _ _) _⟩⟩
  case round =>
    obtain ⟨k, hk, rfl, HM, HB⟩ := hrel
    by_cases hlt : k < l.length
    · obtain ⟨ad, rfl, hx0, hx1, hx2, hx3, hx4⟩ := at_T64 HR.out (k : Int) (by omega) (by omega)
      replace hx0 := (HB.out.cell (World.block_lt_of_cell? w _ hx0)).trans hx0
      replace hx1 := (HB.out.cell (World.block_lt_of_cell? w _ hx1)).trans hx1
      replace hx2 := (HB.out.cell (World.block_lt_of_cell? w _ hx2)).trans hx2
      replace hx3 := (HB.out.cell (World.block_lt_of_cell? w _ hx3)).trans hx3
      replace hx4 := (HB.out.cell (World.block_lt_of_cell? w _ hx4)).trans hx4
      rw [Int.toNat_natCast] at hx0 hx1 hx2 hx3 hx4
      have hrd : rd_T64 l (k : Int) = l[k] := by simp [rd_T64, List.getElem?_eq_getElem hlt]
      have HT : Aside0 (allow_Change.sums allow_Change.key23 allow_Change.amt23 (l.take (k + 1)) = fset (allow_Change.sums allow_Change.key23 allow_Change.amt23 (l.take k)) (allow_Change.key23 l[k]) (allow_Change.sums allow_Change.key23 allow_Change.amt23 (l.take k) (allow_Change.key23 l[k]) + allow_Change.amt23 l[k])) := ⟨by rw [List.take_succ_eq_append_getElem hlt, allow_Change.sums_app]⟩
      have hxok := HOK.out l[k] (List.getElem_mem hlt)
      have hbd := allow_Change.sums_bd allow_Change.key23 allow_Change.amt23 (l.take k) (fun x hx => allow_Change.bd23 (HOK.out x (List.mem_of_mem_take hx))) (allow_Change.key23 l[k])
      have hbx := allow_Change.bd23 hxok
      rw [List.length_take, Nat.min_eq_left hk] at hbd
      rw [hrd] at hx0 hx1 hx2 hx3 hx4
      clear hrd
      have HXOK := Aside0.mk hxok
      clear hxok
      generalize l[k] = x at hx0 hx1 hx2 hx3 hx4 HT HXOK hbd hbx
      generalize allow_Change.sums allow_Change.key23 allow_Change.amt23 (l.take k) = f at HM HT hbd
      obtain ⟨b1, b2⟩ := hbd
      obtain ⟨b3, b4⟩ := hbx
      have hs1 : -9223372036854775808 ≤ f (allow_Change.key23 x) + allow_Change.amt23 x := by omega
      have hs2 : f (allow_Change.key23 x) + allow_Change.amt23 x ≤ 9223372036854775807 := by omega
      have HBD := Aside0.mk (And.intro hs1 hs2)
      clear b1 b2 b3 b4 hs1 hs2
      go_wp2_with fail
      with_reducible refine (allow_Change.c23 x HXOK.out _).mono ?_
      rintro e w1 ⟨rfl, hb⟩
      have HB1 := Aside0.mk (below_step (w := wr) (by repeat (first | exact Below.refl _ _ | apply below_alloc | refine below_set ?_ (by first | omega | (simp; omega)))) hb)
      clear hb hx0 hx1 hx2 hx3 hx4
      have HM1 := Aside0.mk (HM.out.below HB1.out)
      generalize allow_Change.key23 x = ky at HM1 HT HBD
      generalize allow_Change.amt23 x = am at HT HBD
      have hlk := IMap.look Try.underlying80 Try.underlying3 zero_2 HM1.out ky
      have hw : IntKind.i64.wrap (f ky + am) = f ky + am := IntWalk.i64_in _ HBD.out
      have hw64 : wrap64 (f ky + am) = f ky + am := IntWalk.wrap64_in _ HBD.out
      obtain ⟨hmu, hm2, hput⟩ := IMap.put (P := Try.prog) Try.underlying80 Try.underlying3 HM1.out ky (f ky + am)
      have HM2 := Aside0.mk hm2
      have HB2 := Aside0.mk (hput.below (below_step HB.out HB1.out) (Nat.le_refl _))
      clear hm2 hput
      go_wp2_with fail
      go_roundw
      case rel => exact ⟨k + 1, by omega, by go_num, ⟨by rw [HT.out]; exact HM2.out⟩, HB2⟩
      case measure => simp [intOf]; omega
    · obtain rfl : k = l.length := by omega
      rw [List.take_length] at HM
      go_wp2
      go_ret
      exact ⟨rfl, HM.out, HB.out⟩

set_option maxHeartbeats 2000000 in
set_option maxRecDepth 100000 in
theorem allow_Change.by24 (A : Option Addr) (c : Nat) (l : List S64) (w : World) (hr : Kd.C k64 w A l.length l) (hc : l.length ≤ c) (hl : l.length ≤ 4096) (hok : ∀ x ∈ l, allow_Change.ok x) :
    Calls Try.prog 29 #[.slice A l.length c, .func (.func 33) #[] #[]] w fun e w' => e = .returned (.map (some w.heap.size)) ∧ IMap w' w.heap.size (allow_Change.sums allow_Change.key24 allow_Change.amt24 l) ∧ Below w.heap.size w w' := by
  have HR := Aside0.mk hr
  have HOK := Aside0.mk hok
  clear hr hok
  have hmm := @run_makeMap Try.prog
  go_enter Try.func29, Try.ntmps29
  go_wp2
  clear hmm
  go_loopw [13] (fun i wr => ∃ k : Nat, k ≤ l.length ∧ i = .int .i64 k ∧ Aside0 (IMap wr w.heap.size (allow_Change.sums allow_Change.key24 allow_Change.amt24 (l.take k))) ∧ Aside0 (Below w.heap.size w wr)) (fun i _ => l.length - (intOf i).toNat)
  case atStart => exact ⟨0, Nat.zero_le _, rfl, ⟨IMap.made w⟩, ⟨below_alloc (Below.refl _ _) _⟩⟩
  case round =>
    obtain ⟨k, hk, rfl, HM, HB⟩ := hrel
    by_cases hlt : k < l.length
    · obtain ⟨ad, rfl, hx0, hx1, hx2, hx3, hx4⟩ := at_T64 HR.out (k : Int) (by omega) (by omega)
      replace hx0 := (HB.out.cell (World.block_lt_of_cell? w _ hx0)).trans hx0
      replace hx1 := (HB.out.cell (World.block_lt_of_cell? w _ hx1)).trans hx1
      replace hx2 := (HB.out.cell (World.block_lt_of_cell? w _ hx2)).trans hx2
      replace hx3 := (HB.out.cell (World.block_lt_of_cell? w _ hx3)).trans hx3
      replace hx4 := (HB.out.cell (World.block_lt_of_cell? w _ hx4)).trans hx4
      rw [Int.toNat_natCast] at hx0 hx1 hx2 hx3 hx4
      have hrd : rd_T64 l (k : Int) = l[k] := by simp [rd_T64, List.getElem?_eq_getElem hlt]
      have HT : Aside0 (allow_Change.sums allow_Change.key24 allow_Change.amt24 (l.take (k + 1)) = fset (allow_Change.sums allow_Change.key24 allow_Change.amt24 (l.take k)) (allow_Change.key24 l[k]) (allow_Change.sums allow_Change.key24 allow_Change.amt24 (l.take k) (allow_Change.key24 l[k]) + allow_Change.amt24 l[k])) := ⟨by rw [List.take_succ_eq_append_getElem hlt, allow_Change.sums_app]⟩
      have hxok := HOK.out l[k] (List.getElem_mem hlt)
      have hbd := allow_Change.sums_bd allow_Change.key24 allow_Change.amt24 (l.take k) (fun x hx => allow_Change.bd24 (HOK.out x (List.mem_of_mem_take hx))) (allow_Change.key24 l[k])
      have hbx := allow_Change.bd24 hxok
      rw [List.length_take, Nat.min_eq_left hk] at hbd
      rw [hrd] at hx0 hx1 hx2 hx3 hx4
      clear hrd
      have HXOK := Aside0.mk hxok
      clear hxok
      generalize l[k] = x at hx0 hx1 hx2 hx3 hx4 HT HXOK hbd hbx
      generalize allow_Change.sums allow_Change.key24 allow_Change.amt24 (l.take k) = f at HM HT hbd
      obtain ⟨b1, b2⟩ := hbd
      obtain ⟨b3, b4⟩ := hbx
      have hs1 : -9223372036854775808 ≤ f (allow_Change.key24 x) + allow_Change.amt24 x := by omega
      have hs2 : f (allow_Change.key24 x) + allow_Change.amt24 x ≤ 9223372036854775807 := by omega
      have HBD := Aside0.mk (And.intro hs1 hs2)
      clear b1 b2 b3 b4 hs1 hs2
      go_wp2_with fail
      with_reducible refine (allow_Change.c24 x HXOK.out _).mono ?_
      rintro e w1 ⟨rfl, hb⟩
      have HB1 := Aside0.mk (below_step (w := wr) (by repeat (first | exact Below.refl _ _ | apply below_alloc | refine below_set ?_ (by first | omega | (simp; omega)))) hb)
      clear hb hx0 hx1 hx2 hx3 hx4
      have HM1 := Aside0.mk (HM.out.below HB1.out)
      generalize allow_Change.key24 x = ky at HM1 HT HBD
      generalize allow_Change.amt24 x = am at HT HBD
      have hlk := IMap.look Try.underlying80 Try.underlying3 zero_2 HM1.out ky
      have hw : IntKind.i64.wrap (f ky + am) = f ky + am := IntWalk.i64_in _ HBD.out
      have hw64 : wrap64 (f ky + am) = f ky + am := IntWalk.wrap64_in _ HBD.out
      obtain ⟨hmu, hm2, hput⟩ := IMap.put (P := Try.prog) Try.underlying80 Try.underlying3 HM1.out ky (f ky + am)
      have HM2 := Aside0.mk hm2
      have HB2 := Aside0.mk (hput.below (below_step HB.out HB1.out) (Nat.le_refl _))
      clear hm2 hput
      go_wp2_with fail
      go_roundw
      case rel => exact ⟨k + 1, by omega, by go_num, ⟨by rw [HT.out]; exact HM2.out⟩, HB2⟩
      case measure => simp [intOf]; omega
    · obtain rfl : k = l.length := by omega
      rw [List.take_length] at HM
      go_wp2
      go_ret
      exact ⟨rfl, HM.out, HB.out⟩

set_option maxHeartbeats 2000000 in
set_option maxRecDepth 100000 in
theorem allow_Change.by25 (A : Option Addr) (c : Nat) (l : List S64) (w : World) (hr : Kd.C k64 w A l.length l) (hc : l.length ≤ c) (hl : l.length ≤ 4096) (hok : ∀ x ∈ l, allow_Change.ok x) :
    Calls Try.prog 29 #[.slice A l.length c, .func (.func 34) #[] #[]] w fun e w' => e = .returned (.map (some w.heap.size)) ∧ IMap w' w.heap.size (allow_Change.sums allow_Change.key25 allow_Change.amt25 l) ∧ Below w.heap.size w w' := by
  have HR := Aside0.mk hr
  have HOK := Aside0.mk hok
  clear hr hok
  have hmm := @run_makeMap Try.prog
  go_enter Try.func29, Try.ntmps29
  go_wp2
  clear hmm
  go_loopw [13] (fun i wr => ∃ k : Nat, k ≤ l.length ∧ i = .int .i64 k ∧ Aside0 (IMap wr w.heap.size (allow_Change.sums allow_Change.key25 allow_Change.amt25 (l.take k))) ∧ Aside0 (Below w.heap.size w wr)) (fun i _ => l.length - (intOf i).toNat)
  case atStart => exact ⟨0, Nat.zero_le _, rfl, ⟨IMap.made w⟩, ⟨below_alloc (Below.refl _ _) _⟩⟩
  case round =>
    obtain ⟨k, hk, rfl, HM, HB⟩ := hrel
    by_cases hlt : k < l.length
    · obtain ⟨ad, rfl, hx0, hx1, hx2, hx3, hx4⟩ := at_T64 HR.out (k : Int) (by omega) (by omega)
      replace hx0 := (HB.out.cell (World.block_lt_of_cell? w _ hx0)).trans hx0
      replace hx1 := (HB.out.cell (World.block_lt_of_cell? w _ hx1)).trans hx1
      replace hx2 := (HB.out.cell (World.block_lt_of_cell? w _ hx2)).trans hx2
      replace hx3 := (HB.out.cell (World.block_lt_of_cell? w _ hx3)).trans hx3
      replace hx4 := (HB.out.cell (World.block_lt_of_cell? w _ hx4)).trans hx4
      rw [Int.toNat_natCast] at hx0 hx1 hx2 hx3 hx4
      have hrd : rd_T64 l (k : Int) = l[k] := by simp [rd_T64, List.getElem?_eq_getElem hlt]
      have HT : Aside0 (allow_Change.sums allow_Change.key25 allow_Change.amt25 (l.take (k + 1)) = fset (allow_Change.sums allow_Change.key25 allow_Change.amt25 (l.take k)) (allow_Change.key25 l[k]) (allow_Change.sums allow_Change.key25 allow_Change.amt25 (l.take k) (allow_Change.key25 l[k]) + allow_Change.amt25 l[k])) := ⟨by rw [List.take_succ_eq_append_getElem hlt, allow_Change.sums_app]⟩
      have hxok := HOK.out l[k] (List.getElem_mem hlt)
      have hbd := allow_Change.sums_bd allow_Change.key25 allow_Change.amt25 (l.take k) (fun x hx => allow_Change.bd25 (HOK.out x (List.mem_of_mem_take hx))) (allow_Change.key25 l[k])
      have hbx := allow_Change.bd25 hxok
      rw [List.length_take, Nat.min_eq_left hk] at hbd
      rw [hrd] at hx0 hx1 hx2 hx3 hx4
      clear hrd
      have HXOK := Aside0.mk hxok
      clear hxok
      generalize l[k] = x at hx0 hx1 hx2 hx3 hx4 HT HXOK hbd hbx
      generalize allow_Change.sums allow_Change.key25 allow_Change.amt25 (l.take k) = f at HM HT hbd
      obtain ⟨b1, b2⟩ := hbd
      obtain ⟨b3, b4⟩ := hbx
      have hs1 : -9223372036854775808 ≤ f (allow_Change.key25 x) + allow_Change.amt25 x := by omega
      have hs2 : f (allow_Change.key25 x) + allow_Change.amt25 x ≤ 9223372036854775807 := by omega
      have HBD := Aside0.mk (And.intro hs1 hs2)
      clear b1 b2 b3 b4 hs1 hs2
      go_wp2_with fail
      with_reducible refine (allow_Change.c25 x HXOK.out _).mono ?_
      rintro e w1 ⟨rfl, hb⟩
      have HB1 := Aside0.mk (below_step (w := wr) (by repeat (first | exact Below.refl _ _ | apply below_alloc | refine below_set ?_ (by first | omega | (simp; omega)))) hb)
      clear hb hx0 hx1 hx2 hx3 hx4
      have HM1 := Aside0.mk (HM.out.below HB1.out)
      generalize allow_Change.key25 x = ky at HM1 HT HBD
      generalize allow_Change.amt25 x = am at HT HBD
      have hlk := IMap.look Try.underlying80 Try.underlying3 zero_2 HM1.out ky
      have hw : IntKind.i64.wrap (f ky + am) = f ky + am := IntWalk.i64_in _ HBD.out
      have hw64 : wrap64 (f ky + am) = f ky + am := IntWalk.wrap64_in _ HBD.out
      obtain ⟨hmu, hm2, hput⟩ := IMap.put (P := Try.prog) Try.underlying80 Try.underlying3 HM1.out ky (f ky + am)
      have HM2 := Aside0.mk hm2
      have HB2 := Aside0.mk (hput.below (below_step HB.out HB1.out) (Nat.le_refl _))
      clear hm2 hput
      go_wp2_with fail
      go_roundw
      case rel => exact ⟨k + 1, by omega, by go_num, ⟨by rw [HT.out]; exact HM2.out⟩, HB2⟩
      case measure => simp [intOf]; omega
    · obtain rfl : k = l.length := by omega
      rw [List.take_length] at HM
      go_wp2
      go_ret
      exact ⟨rfl, HM.out, HB.out⟩


end Go.Proofs.Ytpcllhhbaockfaa.Print
