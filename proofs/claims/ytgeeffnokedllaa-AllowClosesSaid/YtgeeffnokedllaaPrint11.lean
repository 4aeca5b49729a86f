-- written by this session's program wip/hybrid.py over the kit's printer, and by hand. Not trusted: Lean checks it.
import Derived.Test.YtgeeffnokedllaaPrint0
import Derived.Test.YtgeeffnokedllaaPrint1
import Derived.Test.YtgeeffnokedllaaPrint3
import Derived.Test.YtgeeffnokedllaaPrint6
import Derived.Test.YtgeeffnokedllaaPrint8
import Derived.Test.YtgeeffnokedllaaPrint9
namespace Go.Proofs.Ytgeeffnokedllaa.Print
open Go.RowKit Go.Proofs.YtgeeffnokedllaaW.PrintWords Go.Proofs.YtgeeffnokedllaaW.PrintLast Go.Proofs.YtgeeffnokedllaaW.PrintMore
attribute [local go_sem] max2_int min2_int max_two min_two max_three min_three max_four min_four   -- for this text's walks alone
set_option linter.unusedVariables false
set_option linter.unusedSimpArgs false

/-! ### lombardlaw16_AllowCloses: function 4 -/
theorem newrow (y : World) (Z cells : Array Value) (t : TypeId) : Below y.heap.size y ((y.alloc (.cells Z t)).setRow y.heap.size cells) ∧ ((y.alloc (.cells Z t)).setRow y.heap.size cells).heap[y.heap.size]? = some (.cells cells t (0, 0)) :=
  ⟨row_below (below_alloc (Below.refl _ _) _) (Nat.le_refl _) _, setRow_heap _ _ _ _ _ _ (blk_new y _)⟩
def cells3 (f : Int → Int) : Array Value := #[.int .i64 (f 1), .int .i64 (f 2), .int .i64 (f 3)]
theorem cells3_set (f : Int → Int) (j : Nat) (hj : j < 3) (v : Int) : (cells3 f).setIfInBounds j (.int .i64 v) = cells3 (fset f ((j : Int) + 1) v) := by
  rcases j with _ | _ | _ | j
  · rfl
  · rfl
  · rfl
  · omega
theorem cells3_at (f : Int → Int) (j : Nat) (hj : j < 3) : (cells3 f)[j]? = some (.int .i64 (f ((j : Int) + 1))) := by
  rcases j with _ | _ | _ | j
  · rfl
  · rfl
  · rfl
  · omega
def st40 (x : S40) : S40 := ⟨x.f0, x.f0, x.f2, x.f2, 0⟩
def was50 (x : S50) : Int := x.f2
def now50 (x : S50) : Int := x.f3
def lombardlaw16_AllowCloses.op (l : List S40) : Int → Int := allow_Change.sums allow_Change.key23 was50 (l.map cv)
def lombardlaw16_AllowCloses.wt (l : List S40) : Int → Int := allow_Change.sums allow_Change.key24 now50 (l.map cv)
theorem lombardlaw16_AllowCloses.op_app (l : List S40) (x : S40) : lombardlaw16_AllowCloses.op (l ++ [x]) = fset (lombardlaw16_AllowCloses.op l) x.f0 (lombardlaw16_AllowCloses.op l x.f0 + x.f2) := by
  unfold lombardlaw16_AllowCloses.op; rw [List.map_append]; exact allow_Change.sums_app _ _ _ _
theorem lombardlaw16_AllowCloses.wt_app (l : List S40) (x : S40) : lombardlaw16_AllowCloses.wt (l ++ [x]) = fset (lombardlaw16_AllowCloses.wt l) x.f1 (lombardlaw16_AllowCloses.wt l x.f1 + x.f3) := by
  unfold lombardlaw16_AllowCloses.wt; rw [List.map_append]; exact allow_Change.sums_app _ _ _ _
theorem pos_bd (key amt : S50 → Int) (l : List S50) (k : Int) (h : ∀ x ∈ l, 0 ≤ amt x ∧ amt x ≤ 562949953421312) : 0 ≤ allow_Change.sums key amt l k ∧ allow_Change.sums key amt l k ≤ 562949953421312 * (l.length : Int) := by
  induction l with
  | nil => simp [allow_Change.sums]
  | cons x t ih =>
    have h1 := h x List.mem_cons_self
    have h2 := ih (fun y hy => h y (List.mem_cons_of_mem _ hy))
    simp only [allow_Change.sums, List.length_cons]
    split <;> omega
theorem lombardlaw16_AllowCloses.bds (l : List S40) (h : ∀ x ∈ l, allow_Change.ok (cv x)) (hl : l.length ≤ 300) (k : Int) : (0 ≤ lombardlaw16_AllowCloses.op l k ∧ lombardlaw16_AllowCloses.op l k ≤ 168884986026393600) ∧ (0 ≤ lombardlaw16_AllowCloses.wt l k ∧ lombardlaw16_AllowCloses.wt l k ≤ 168884986026393600) := by
  have h' : ∀ y ∈ l.map cv, allow_Change.ok y := by
    intro y hy
    obtain ⟨x, hx, rfl⟩ := List.mem_map.1 hy
    exact h x hx
  have h1 := pos_bd allow_Change.key23 was50 (l.map cv) k (fun x hx => by have := h' x hx; unfold allow_Change.ok at this; unfold was50; omega)
  have h2 := pos_bd allow_Change.key24 now50 (l.map cv) k (fun x hx => by have := h' x hx; unfold allow_Change.ok at this; unfold now50; omega)
  rw [List.length_map] at h1 h2
  unfold lombardlaw16_AllowCloses.op lombardlaw16_AllowCloses.wt
  omega
theorem lombardlaw16_AllowCloses.key (l : List S50) (k : Int) : allow_Change.sums allow_Change.key23 was50 l k + allow_Change.sums allow_Change.key21 allow_Change.amt21 l k + allow_Change.sums allow_Change.key24 allow_Change.amt24 l k - allow_Change.sums allow_Change.key23 allow_Change.amt23 l k - allow_Change.sums allow_Change.key25 allow_Change.amt25 l k = allow_Change.sums allow_Change.key24 now50 l k := by
  induction l with
  | nil => simp [allow_Change.sums]
  | cons x t ih =>
    simp only [allow_Change.sums]
    rw [← ih]
    unfold allow_Change.key21 allow_Change.key23 allow_Change.key24 allow_Change.key25 allow_Change.amt21 allow_Change.amt23 allow_Change.amt24 allow_Change.amt25 was50 now50 allow_Change.moved
    by_cases c1 : k = x.f0 <;> by_cases c2 : k = x.f1 <;> simp only [c1, c2, if_true, if_false] <;> (repeat' split) <;> omega
theorem lombardlaw16_AllowCloses.still (key amt : S50 → Int) (l : List S40) (k : Int) (h : ∀ x : S40, amt (cv (st40 x)) = 0) : allow_Change.sums key amt ((l.map st40).map cv) k = 0 := by
  induction l with
  | nil => rfl
  | cons x t ih => simp only [List.map_cons, allow_Change.sums, h, ih]; split <;> rfl
theorem lombardlaw16_AllowCloses.facts {l : List S40} (h : ∀ x ∈ l, allow_Change.ok (cv x)) (hl : l.length ≤ 300) {ra rb rc sa sb sc : Row6} {re se : Int} (rh : allow_Roll.g (lombardlaw16_AllowCloses.op l 1) (lombardlaw16_AllowCloses.op l 2) (lombardlaw16_AllowCloses.op l 3) (l.map cv) = (ra, rb, rc, re)) (sh : allow_Roll.g (lombardlaw16_AllowCloses.op l 1) (lombardlaw16_AllowCloses.op l 2) (lombardlaw16_AllowCloses.op l 3) ((l.map st40).map cv) = (sa, sb, sc, se)) :
    re = 0 ∧ se = 0 ∧ ra.c = lombardlaw16_AllowCloses.wt l 1 ∧ rb.c = lombardlaw16_AllowCloses.wt l 2 ∧ rc.c = lombardlaw16_AllowCloses.wt l 3 ∧ sa = ⟨lombardlaw16_AllowCloses.op l 1, 0, 0, 0, 0, lombardlaw16_AllowCloses.op l 1⟩ ∧ sb = ⟨lombardlaw16_AllowCloses.op l 2, 0, 0, 0, 0, lombardlaw16_AllowCloses.op l 2⟩ ∧ sc = ⟨lombardlaw16_AllowCloses.op l 3, 0, 0, 0, 0, lombardlaw16_AllowCloses.op l 3⟩ := by
  have h' : ∀ y ∈ l.map cv, allow_Change.ok y := by
    intro y hy
    obtain ⟨x, hx, rfl⟩ := List.mem_map.1 hy
    exact h x hx
  have h2 : ∀ y ∈ (l.map st40).map cv, allow_Change.ok y := by
    intro y hy
    obtain ⟨x, hx, rfl⟩ := List.mem_map.1 hy
    obtain ⟨z, hz, rfl⟩ := List.mem_map.1 hx
    have := h z hz
    unfold allow_Change.ok at this ⊢
    simp only [cv, st40] at this ⊢
    omega
  have b1 := lombardlaw16_AllowCloses.bds l h hl 1
  have b2 := lombardlaw16_AllowCloses.bds l h hl 2
  have b3 := lombardlaw16_AllowCloses.bds l h hl 3
  have hO : allow_Roll.okO (lombardlaw16_AllowCloses.op l 1) (lombardlaw16_AllowCloses.op l 2) (lombardlaw16_AllowCloses.op l 3) := by unfold allow_Roll.okO; omega
  have g1 : allow_Roll.g (lombardlaw16_AllowCloses.op l 1) (lombardlaw16_AllowCloses.op l 2) (lombardlaw16_AllowCloses.op l 3) (l.map cv) = (allow_Roll.row (l.map cv) (lombardlaw16_AllowCloses.op l 1) 1, allow_Roll.row (l.map cv) (lombardlaw16_AllowCloses.op l 2) 2, allow_Roll.row (l.map cv) (lombardlaw16_AllowCloses.op l 3) 3, 0) := by
    unfold allow_Roll.g; rw [if_neg (by simp; omega), if_neg (by simpa using h'), if_neg (by simpa using hO)]
  have g2 : allow_Roll.g (lombardlaw16_AllowCloses.op l 1) (lombardlaw16_AllowCloses.op l 2) (lombardlaw16_AllowCloses.op l 3) ((l.map st40).map cv) = (allow_Roll.row ((l.map st40).map cv) (lombardlaw16_AllowCloses.op l 1) 1, allow_Roll.row ((l.map st40).map cv) (lombardlaw16_AllowCloses.op l 2) 2, allow_Roll.row ((l.map st40).map cv) (lombardlaw16_AllowCloses.op l 3) 3, 0) := by
    unfold allow_Roll.g; rw [if_neg (by simp; omega), if_neg (fun z => z h2), if_neg (by simpa using hO)]
  rw [g1] at rh
  rw [g2] at sh
  simp only [Prod.mk.injEq] at rh sh
  obtain ⟨rfl, rfl, rfl, rfl⟩ := rh
  obtain ⟨rfl, rfl, rfl, rfl⟩ := sh
  have q : ∀ k, (0 ≤ lombardlaw16_AllowCloses.op l k ∧ lombardlaw16_AllowCloses.op l k ≤ 168884986026393600) → (allow_Roll.row (l.map cv) (lombardlaw16_AllowCloses.op l k) k).c = lombardlaw16_AllowCloses.wt l k := by
    intro k hk
    rw [row_ok (l.map cv) _ k h' (by simp; omega) (by unfold okW; omega)]
    exact lombardlaw16_AllowCloses.key (l.map cv) k
  have s : ∀ k, (0 ≤ lombardlaw16_AllowCloses.op l k ∧ lombardlaw16_AllowCloses.op l k ≤ 168884986026393600) → allow_Roll.row ((l.map st40).map cv) (lombardlaw16_AllowCloses.op l k) k = ⟨lombardlaw16_AllowCloses.op l k, 0, 0, 0, 0, lombardlaw16_AllowCloses.op l k⟩ := by
    intro k hk
    rw [row_ok _ _ k h2 (by simp; omega) (by unfold okW; omega)]
    rw [lombardlaw16_AllowCloses.still allow_Change.key21 allow_Change.amt21 l k (fun x => by simp [allow_Change.amt21, allow_Change.moved, cv, st40]), lombardlaw16_AllowCloses.still allow_Change.key23 allow_Change.amt23 l k (fun x => by simp [allow_Change.amt23, allow_Change.moved, cv, st40]),
      lombardlaw16_AllowCloses.still allow_Change.key24 allow_Change.amt24 l k (fun x => by simp [allow_Change.amt24, cv, st40]), lombardlaw16_AllowCloses.still allow_Change.key25 allow_Change.amt25 l k (fun x => by simp [allow_Change.amt25, cv, st40])]
    simp
  exact ⟨rfl, rfl, q 1 b1.1, q 2 b2.1, q 3 b3.1, s 1 b1.1, s 2 b2.1, s 3 b3.1⟩
def lombardlaw16_AllowCloses.f (l : List S40) : Option Bool := some true
theorem all5 (a b c d e : Int) : (#[Value.int .i64 a, .int .i64 b, .int .i64 c, .int .i64 d, .int .i64 e] : Array Value).all (·.oneCell') = true := by kernel_rfl
theorem wrap_small (j : Nat) (h : j < 3) : wrap64 (j : Int) = (j : Int) := by unfold wrap64; omega
def cells22 : Array Value := #[.int .i64 0, .int .i64 0, .int .i64 0]
set_option maxHeartbeats 16000000 in
set_option maxRecDepth 100000 in
theorem lombardlaw16_AllowCloses.walk (A : Option Addr) (c : Nat) (l : List S40) (w : World) (hr : Kd.C k40 w A l.length l) (hc : l.length ≤ c) (hl : l.length ≤ 300) :
    Calls Try.prog 4 #[.slice A l.length c] w fun e w' => e = .returned (.bool true) ∧ Below w.heap.size w w' := by
  have HR := Aside0.mk hr
  have HC := Aside0.mk hc
  clear hr hc
  go_enter Try.func4, Try.ntmps4
  go_wp2_with fail
  with_reducible refine (lombardlaw16_alive.calls true _ rfl).mono ?_
  rintro e w1 ⟨rfl, hb⟩
  have HB := Aside0.mk hb
  clear hb
  go_wp2_with fail
  have n_HB := Aside0.mk (below_alloc (below_alloc HB.out (.cells cells22 22)) (.cells cells22 22))
  have BK3 := Aside0.mk (show ((w1.alloc (.cells cells22 22)).alloc (.cells cells22 22)).heap[w1.heap.size]? = some (.cells (cells3 (lombardlaw16_AllowCloses.op (l.take 0))) 22 (0, 0)) from blk_alloc (blk_new w1 _) _)
  have BK4 := Aside0.mk (show ((w1.alloc (.cells cells22 22)).alloc (.cells cells22 22)).heap[w1.heap.size + 1]? = some (.cells (cells3 (lombardlaw16_AllowCloses.wt (l.take 0))) 22 (0, 0)) from blk_new1 w1 _ _)
  have GE3 := below_size HB.out
  clear HB
  unfold cells22 at n_HB BK3 BK4
  generalize (w1.alloc (.cells #[.int .i64 0, .int .i64 0, .int .i64 0] 22)).alloc (.cells #[.int .i64 0, .int .i64 0, .int .i64 0] 22) = y0 at n_HB BK3 BK4 ⊢
  have HB := n_HB
  clear n_HB
  obtain ⟨g4, hg4⟩ : ∃ g, g = w1.heap.size + 1 := ⟨_, rfl⟩
  rw [← hg4] at BK4 ⊢
  generalize w1.heap.size = g3 at BK3 GE3 hg4 ⊢
  replace hg4 : g3 < g4 := by omega
  go_loopw [5, 20] (fun s i wr => ∃ k : Nat, k ≤ l.length ∧ i = .int .i64 k ∧ Aside0 (∀ x ∈ l.take k, allow_Change.ok (cv x)) ∧ Aside0 (Kd.R k40 40 wr w.heap.size (fun _ => True) s ((l.take k).map st40)) ∧ Aside0 (wr.heap[g3]? = some (.cells (cells3 (lombardlaw16_AllowCloses.op (l.take k))) 22 (0, 0))) ∧ Aside0 (wr.heap[g4]? = some (.cells (cells3 (lombardlaw16_AllowCloses.wt (l.take k))) 22 (0, 0))) ∧ Aside0 (Below w.heap.size w wr)) (fun _ i _ => l.length - (intOf i).toNat)
  case atStart => exact ⟨0, Nat.zero_le _, rfl, ⟨fun x hx => by simp at hx⟩, ⟨Kd.R_nil _ _ _ _ _⟩, BK3, BK4, HB⟩
  case round =>
    clear BK3 BK4 HB
    obtain ⟨k, hk, rfl, HOK, R5, BK3, BK4, HB⟩ := hrel
    by_cases hlt : k < l.length
    case pos =>
      obtain ⟨ad, rfl, hx0, hx1, hx2, hx3, hx4⟩ := at_T40 HR.out (k : Int) (by omega) (by omega)
      replace hx0 := (HB.out.cell (World.block_lt_of_cell? w _ hx0)).trans hx0
      replace hx1 := (HB.out.cell (World.block_lt_of_cell? w _ hx1)).trans hx1
      replace hx2 := (HB.out.cell (World.block_lt_of_cell? w _ hx2)).trans hx2
      replace hx3 := (HB.out.cell (World.block_lt_of_cell? w _ hx3)).trans hx3
      replace hx4 := (HB.out.cell (World.block_lt_of_cell? w _ hx4)).trans hx4
      rw [Int.toNat_natCast] at hx0 hx1 hx2 hx3 hx4
      have hrd : rd_T40 l (k : Int) = l[k] := by simp [rd_T40, List.getElem?_eq_getElem hlt]
      have HT := Aside0.mk (List.take_succ_eq_append_getElem hlt)
      rw [hrd] at hx0 hx1 hx2 hx3 hx4
      clear hrd
      generalize l[k] = x at hx0 hx1 hx2 hx3 hx4 HT
      obtain ⟨hnb, hnk⟩ := newrow wr #[.int .i64 0, .int .i64 0, .int .i64 0, .int .i64 0, .int .i64 0] #[.int .i64 x.f0, .int .i64 x.f1, .int .i64 x.f2, .int .i64 x.f3, .int .i64 x.f4] 40
      go_wp2_with ((with_reducible refine gate_store (t := 40) (p := 7) (v := .tmp 23) rfl ?_); refine Shut.out ?_)
      unfold Shut
      refine store_rowTo rfl 40 (.tmp 7) (.tmp 23) rfl rfl wr.heap.size #[.int .i64 x.f0, .int .i64 x.f1, .int .i64 x.f2, .int .i64 x.f3, .int .i64 x.f4] rfl rfl 40 _ (blk_new wr _) (by kernel_rfl) rfl (all5 _ _ _ _ _) ?_
      have n_HB := Aside0.mk (below_step HB.out hnb)
      have n_BK3 := Aside0.mk (blk_below BK3.out hnb)
      have n_BK4 := Aside0.mk (blk_below BK4.out hnb)
      have n_R5 := Aside0.mk (Kd.R_below R5.out hnb)
      have n_BK7 := Aside0.mk hnk
      have hne := blk_lt BK3.out
      have hne4 := blk_lt BK4.out
      clear HB BK3 BK4 R5 hnb hnk hx0 hx1 hx2 hx3 hx4
      generalize (wr.alloc (.cells #[.int .i64 0, .int .i64 0, .int .i64 0, .int .i64 0, .int .i64 0] 40)).setRow wr.heap.size #[.int .i64 x.f0, .int .i64 x.f1, .int .i64 x.f2, .int .i64 x.f3, .int .i64 x.f4] = z1 at n_HB n_BK3 n_BK4 n_R5 n_BK7 ⊢
      generalize wr.heap.size = g7 at n_BK7 hne hne4 ⊢
      have HB := n_HB
      clear n_HB
      have BK3 := n_BK3
      clear n_BK3
      have BK4 := n_BK4
      clear n_BK4
      have R5 := n_R5
      clear n_R5
      have BK7 := n_BK7
      clear n_BK7
      have hk0 : z1.cell? ⟨g7, 0, none⟩ = some (.int .i64 x.f0) := blk_cell BK7.out 0
      have hk1 : z1.cell? ⟨g7, 1, none⟩ = some (.int .i64 x.f1) := blk_cell BK7.out 1
      have hk2 : z1.cell? ⟨g7, 2, none⟩ = some (.int .i64 x.f2) := blk_cell BK7.out 2
      have hk3 : z1.cell? ⟨g7, 3, none⟩ = some (.int .i64 x.f3) := blk_cell BK7.out 3
      have hk4 : z1.cell? ⟨g7, 4, none⟩ = some (.int .i64 x.f4) := blk_cell BK7.out 4
      by_cases c0 : x.f0 < 1
      case pos =>
        have cb0 : decide (x.f0 < 1) = true := decide_eq_true c0
        clear c0
        go_wp2_with fail
        go_ret
        exact ⟨rfl, HB.out⟩
      have cb0 : decide (x.f0 < 1) = false := decide_eq_false c0
      have cc0 := Aside0.mk c0
      clear c0
      by_cases c1 : 3 < x.f0
      case pos =>
        have cb1 : decide (3 < x.f0) = true := decide_eq_true c1
        clear c1
        go_wp2_with fail
        go_ret
        exact ⟨rfl, HB.out⟩
      have cb1 : decide (3 < x.f0) = false := decide_eq_false c1
      have cc1 := Aside0.mk c1
      clear c1
      by_cases c2 : x.f1 < 1
      case pos =>
        have cb2 : decide (x.f1 < 1) = true := decide_eq_true c2
        clear c2
        go_wp2_with fail
        go_ret
        exact ⟨rfl, HB.out⟩
      have cb2 : decide (x.f1 < 1) = false := decide_eq_false c2
      have cc2 := Aside0.mk c2
      clear c2
      by_cases c3 : 3 < x.f1
      case pos =>
        have cb3 : decide (3 < x.f1) = true := decide_eq_true c3
        clear c3
        go_wp2_with fail
        go_ret
        exact ⟨rfl, HB.out⟩
      have cb3 : decide (3 < x.f1) = false := decide_eq_false c3
      have cc3 := Aside0.mk c3
      clear c3
      by_cases c4 : x.f2 < 0
      case pos =>
        have cb4 : decide (x.f2 < 0) = true := decide_eq_true c4
        clear c4
        go_wp2_with fail
        go_ret
        exact ⟨rfl, HB.out⟩
      have cb4 : decide (x.f2 < 0) = false := decide_eq_false c4
      have cc4 := Aside0.mk c4
      clear c4
      by_cases c5 : 562949953421312 < x.f2
      case pos =>
        have cb5 : decide (562949953421312 < x.f2) = true := decide_eq_true c5
        clear c5
        go_wp2_with fail
        go_ret
        exact ⟨rfl, HB.out⟩
      have cb5 : decide (562949953421312 < x.f2) = false := decide_eq_false c5
      have cc5 := Aside0.mk c5
      clear c5
      by_cases c6 : x.f3 < 0
      case pos =>
        have cb6 : decide (x.f3 < 0) = true := decide_eq_true c6
        clear c6
        go_wp2_with fail
        go_ret
        exact ⟨rfl, HB.out⟩
      have cb6 : decide (x.f3 < 0) = false := decide_eq_false c6
      have cc6 := Aside0.mk c6
      clear c6
      by_cases c7 : 562949953421312 < x.f3
      case pos =>
        have cb7 : decide (562949953421312 < x.f3) = true := decide_eq_true c7
        clear c7
        go_wp2_with fail
        go_ret
        exact ⟨rfl, HB.out⟩
      have cb7 : decide (562949953421312 < x.f3) = false := decide_eq_false c7
      have cc7 := Aside0.mk c7
      clear c7
      by_cases c8 : x.f4 < 0
      case pos =>
        have cb8 : decide (x.f4 < 0) = true := decide_eq_true c8
        clear c8
        go_wp2_with fail
        go_ret
        exact ⟨rfl, HB.out⟩
      have cb8 : decide (x.f4 < 0) = false := decide_eq_false c8
      have cc8 := Aside0.mk c8
      clear c8
      by_cases c9 : 562949953421312 < x.f4
      case pos =>
        have cb9 : decide (562949953421312 < x.f4) = true := decide_eq_true c9
        clear c9
        go_wp2_with fail
        go_ret
        exact ⟨rfl, HB.out⟩
      have cb9 : decide (562949953421312 < x.f4) = false := decide_eq_false c9
      have cc9 := Aside0.mk c9
      clear c9
      go_wp2_with fail
      have hxok : allow_Change.ok (cv x) := by
        have := cc0.out; have := cc1.out; have := cc2.out; have := cc3.out; have := cc4.out; have := cc5.out; have := cc6.out; have := cc7.out; have := cc8.out; have := cc9.out
        simp only [allow_Change.ok, cv]; omega
      have hbd := lombardlaw16_AllowCloses.bds (l.take k) HOK.out (by rw [List.length_take]; omega)
      obtain ⟨j, hj, hj3⟩ : ∃ j : Nat, x.f0 = (j : Int) + 1 ∧ j < 3 := ⟨(x.f0 - 1).toNat, by have := cc0.out; omega, by have := cc1.out; have := cc0.out; omega⟩
      obtain ⟨m, hm, hm3⟩ : ∃ m : Nat, x.f1 = (m : Int) + 1 ∧ m < 3 := ⟨(x.f1 - 1).toNat, by have := cc2.out; omega, by have := cc3.out; have := cc2.out; omega⟩
      have hoa := lombardlaw16_AllowCloses.op_app (l.take k) x
      have hwa := lombardlaw16_AllowCloses.wt_app (l.take k) x
      have hs1 : IntKind.i64.wrap (lombardlaw16_AllowCloses.op (l.take k) ((j : Int) + 1) + x.f2) = lombardlaw16_AllowCloses.op (l.take k) ((j : Int) + 1) + x.f2 := by
        have := cc4.out; have := cc5.out; have := hbd ((j : Int) + 1); rw [IntKind.wrap_i64]; omega
      have hs2 : IntKind.i64.wrap (lombardlaw16_AllowCloses.wt (l.take k) ((m : Int) + 1) + x.f3) = lombardlaw16_AllowCloses.wt (l.take k) ((m : Int) + 1) + x.f3 := by
        have := cc6.out; have := cc7.out; have := hbd ((m : Int) + 1); rw [IntKind.wrap_i64]; omega
      have hsub1 : IntKind.i64.wrap ((j : Int) + 1 - 1) = (j : Int) := by rw [IntKind.wrap_i64]; omega
      have hsub2 : IntKind.i64.wrap ((m : Int) + 1 - 1) = (m : Int) := by rw [IntKind.wrap_i64]; omega
      rw [hj] at hoa
      rw [hm] at hwa
      replace BK7 : Aside0 (z1.heap[g7]? = some (.cells #[.int .i64 ((j : Int) + 1), .int .i64 ((m : Int) + 1), .int .i64 x.f2, .int .i64 x.f3, .int .i64 x.f4] 40 (0, 0))) := ⟨by rw [← hj, ← hm]; exact BK7.out⟩
      obtain ⟨v1, hv1⟩ : ∃ v, v = lombardlaw16_AllowCloses.op (l.take k) ((j : Int) + 1) + x.f2 := ⟨_, rfl⟩
      obtain ⟨v2, hv2⟩ : ∃ v, v = lombardlaw16_AllowCloses.wt (l.take k) ((m : Int) + 1) + x.f3 := ⟨_, rfl⟩
      replace hs1 := hs1.trans hv1.symm
      replace hs2 := hs2.trans hv2.symm
      rw [← hv1] at hoa
      rw [← hv2] at hwa
      rw [← HT.out] at hoa hwa
      have HOA := Aside0.mk hoa
      have HWA := Aside0.mk hwa
      have HXOK := Aside0.mk hxok
      have HV1 := Aside0.mk hv1
      have HV2 := Aside0.mk hv2
      have HJ := Aside0.mk hj
      have HM := Aside0.mk hm
      clear hoa hwa hxok hbd hv1 hv2 hj hm cb0 cb1 cb2 cb3 cb4 cb5 cb6 cb7 cb8 cb9
      have kc3 := (cells3_at (lombardlaw16_AllowCloses.op (l.take k)) j hj3)
      have kc4 := (cells3_at (lombardlaw16_AllowCloses.wt (l.take k)) m hm3)
      generalize lombardlaw16_AllowCloses.op (l.take k) ((j : Int) + 1) = a1 at hs1 kc3 HV1
      generalize lombardlaw16_AllowCloses.wt (l.take k) ((m : Int) + 1) = a2 at hs2 kc4 HV2
      have KC3 := Aside0.mk kc3
      have KC4 := Aside0.mk kc4
      clear kc3 kc4 hk0 hk1 hk2 hk3 hk4
      have hj0 : (0 : Int) ≤ (j : Int) := by omega
      have hjl : (j : Int) < 3 := by omega
      have hm0 : (0 : Int) ≤ (m : Int) := by omega
      have hwj := wrap_small j hj3
      have hwm := wrap_small m hm3
      have HS1 := Aside0.mk hs1
      have HS2 := Aside0.mk hs2
      have HWJ := Aside0.mk hwj
      have HWM := Aside0.mk hwm
      clear hs1 hs2 hwj hwm hsub1 hsub2
      have hml : (m : Int) < 3 := by omega
      
      have n_HB := Aside0.mk (below_drew1 HB.out)
      have n_BK3 := Aside0.mk (blk_drew BK3.out)
      have n_BK4 := Aside0.mk (blk_drew BK4.out)
      have n_BK7 := Aside0.mk (blk_drew BK7.out)
      have n_R5 := Aside0.mk (Kd.R_drew R5.out)
      clear HB
      have HB := n_HB
      clear n_HB
      clear BK3
      have BK3 := n_BK3
      clear n_BK3
      clear BK4
      have BK4 := n_BK4
      clear n_BK4
      clear BK7
      have BK7 := n_BK7
      clear n_BK7
      clear R5
      have R5 := n_R5
      clear n_R5
      have hs := HS1.out
      have hs9 := (i64_w _).symm.trans HS1.out
      have hwj := HWJ.out
      refine start_ (n := 10) (S := fun w' => w'.cell? ⟨g7, 0, none⟩ = some (.int .i64 ((j : Int) + 1)) ∧ w'.cell? ⟨g7, 2, none⟩ = some (.int .i64 x.f2) ∧ w'.cell? ⟨g3, j, none⟩ = some (.int .i64 a1)) (ds := [9]) #[false, false, false, false, false, false, false, false, false, false] (by kernel_rfl) rfl rfl ⟨(blk_cell BK7.out 0).trans rfl, (blk_cell BK7.out 2).trans rfl, (blk_cell BK3.out j).trans KC3.out⟩ (fun hHeld => ?_)
      generalize z1.drew = z2 at HB BK3 BK4 BK7 R5 hHeld ⊢
      refine pure_ (i := 0) (N := some 72) (v := ?_) (a' := ?_) #[true, false, false, false, false, false, false, false, false, false] rfl rfl (by kernel_rfl) (fun _ _ _ h => h) (Or.inl ⟨by rfl, ?_⟩) ?_ ?_
      rotate_left
      · intro w'
        go_simp
        with_reducible rfl
      rotate_left
      · simp only [Act.put, List.setIfInBounds_toArray, List.set_cons_zero, List.set_cons_succ, i64_w, i32_w]
        rfl
      refine pure_ (i := 5) (N := some 77) (v := ?_) (a' := ?_) #[true, false, false, false, false, true, false, false, false, false] rfl rfl (by kernel_rfl) (fun _ _ _ h => h) (Or.inl ⟨by rfl, ?_⟩) ?_ ?_
      rotate_left
      · intro w'
        go_simp
        with_reducible rfl
      rotate_left
      · simp only [Act.put, List.setIfInBounds_toArray, List.set_cons_zero, List.set_cons_succ, i64_w, i32_w]
        rfl
      refine take_ (i := 1) (N := some 73) (v := ?_) (a' := ?_) #[true, true, false, false, false, true, false, false, false, false] rfl rfl (by kernel_rfl) (fun _ _ _ h => h) (Or.inl ⟨by rfl, ?_⟩) hHeld ?_ ?_
      rotate_left
      · rintro w' ⟨s0, s1, s2⟩
        go_simp
        with_reducible rfl
      rotate_left
      · simp only [Act.put, List.setIfInBounds_toArray, List.set_cons_zero, List.set_cons_succ, i64_w, i32_w]
        rfl
      refine pure_ (i := 2) (N := some 74) (v := ?_) (a' := ?_) #[true, true, true, false, false, true, false, false, false, false] rfl rfl (by kernel_rfl) (fun _ _ _ h => h) (Or.inl ⟨by rfl, ?_⟩) ?_ ?_
      rotate_left
      · intro w'
        go_simp
        with_reducible rfl
      rotate_left
      · simp only [Act.put, List.setIfInBounds_toArray, List.set_cons_zero, List.set_cons_succ, i64_w, i32_w]
        rfl
      refine pure_ (i := 3) (N := some 75) (v := ?_) (a' := ?_) #[true, true, true, true, false, true, false, false, false, false] rfl rfl (by kernel_rfl) (fun _ _ _ h => h) (Or.inl ⟨by rfl, ?_⟩) ?_ ?_
      rotate_left
      · intro w'
        go_simp
        with_reducible rfl
      rotate_left
      · simp only [Act.put, List.setIfInBounds_toArray, List.set_cons_zero, List.set_cons_succ, i64_w, i32_w]
        rfl
      refine take_ (i := 4) (N := some 76) (v := ?_) (a' := ?_) #[true, true, true, true, true, true, false, false, false, false] rfl rfl (by kernel_rfl) (fun _ _ _ h => h) (Or.inl ⟨by rfl, ?_⟩) hHeld ?_ ?_
      rotate_left
      · rintro w' ⟨s0, s1, s2⟩
        go_simp
        with_reducible rfl
      rotate_left
      · simp only [Act.put, List.setIfInBounds_toArray, List.set_cons_zero, List.set_cons_succ, i64_w, i32_w]
        rfl
      refine take_ (i := 6) (N := some 78) (v := ?_) (a' := ?_) #[true, true, true, true, true, true, true, false, false, false] rfl rfl (by kernel_rfl) (fun _ _ _ h => h) (Or.inl ⟨by rfl, ?_⟩) hHeld ?_ ?_
      rotate_left
      · rintro w' ⟨s0, s1, s2⟩
        go_simp
        with_reducible rfl
      rotate_left
      · simp only [Act.put, List.setIfInBounds_toArray, List.set_cons_zero, List.set_cons_succ, i64_w, i32_w]
        rfl
      refine pure_ (i := 7) (N := some 79) (v := ?_) (a' := ?_) #[true, true, true, true, true, true, true, true, false, false] rfl rfl (by kernel_rfl) (fun _ _ _ h => h) (Or.inl ⟨by rfl, ?_⟩) ?_ ?_
      rotate_left
      · intro w'
        go_simp
        with_reducible rfl
      rotate_left
      · simp only [Act.put, List.setIfInBounds_toArray, List.set_cons_zero, List.set_cons_succ, i64_w, i32_w]
        rfl
      refine pure_ (i := 8) (N := some 80) (v := ?_) (a' := ?_) #[true, true, true, true, true, true, true, true, true, false] rfl rfl (by kernel_rfl) (fun _ _ _ h => h) (Or.inl ⟨by rfl, ?_⟩) ?_ ?_
      rotate_left
      · intro w'
        go_simp
        with_reducible rfl
      rotate_left
      · simp only [Act.put, List.setIfInBounds_toArray, List.set_cons_zero, List.set_cons_succ, i64_w, i32_w]
        rfl
      refine last_ (i := 9) (N := none) #[true, true, true, true, true, true, true, true, true, true] rfl rfl (by kernel_rfl) (by decide) (fun K hK => ?_)
      have kf := blk_frozen BK3.out j
      have kc := hHeld.2.2
      refine skip_ (w1 := ?_) (by rfl) rfl ?_ ?_
      rotate_left
      · go_simp
        rfl
      refine hK.out _ _ ?_
      clear hK K
      refine done_ (by kernel_rfl) ?_
      clear hHeld hs hs9 hwj
      have n_HB := Aside0.mk (HB.out.setCell (p := ⟨g3, j, none⟩) (show w.heap.size ≤ g3 by omega) (.int .i64 v1))
      have n_BK3 := Aside0.mk (blk_put BK3.out j (.int .i64 v1) ((cells3_set _ j hj3 v1).trans (congrArg cells3 HOA.out.symm)))
      have n_BK4 := Aside0.mk ((Below.heap_setCell z2 ⟨g3, j, none⟩ (.int .i64 v1) g4 (show g4 ≠ g3 by omega)).trans BK4.out)
      have n_BK7 := Aside0.mk ((Below.heap_setCell z2 ⟨g3, j, none⟩ (.int .i64 v1) g7 (show g7 ≠ g3 by omega)).trans BK7.out)
      have n_R5 := Aside0.mk (Kd.R_mono (Kd.R_far (p := ⟨g3, j, none⟩) (Kd.R_types R5.out BK3.out (by decide)) (fun _ hk => hk.2) (.int .i64 v1)) (fun _ _ => trivial))
      clear HB BK3 BK4 BK7 R5
      generalize z2.setCell ⟨g3, j, none⟩ (.int .i64 v1) = z3 at n_HB n_BK3 n_BK4 n_BK7 n_R5 ⊢
      have HB := n_HB
      clear n_HB
      have BK3 := n_BK3
      clear n_BK3
      have BK4 := n_BK4
      clear n_BK4
      have BK7 := n_BK7
      clear n_BK7
      have R5 := n_R5
      clear n_R5
      go_wp2_with fail
      
      have n_HB := Aside0.mk (below_drew1 HB.out)
      have n_BK3 := Aside0.mk (blk_drew BK3.out)
      have n_BK4 := Aside0.mk (blk_drew BK4.out)
      have n_BK7 := Aside0.mk (blk_drew BK7.out)
      have n_R5 := Aside0.mk (Kd.R_drew R5.out)
      clear HB
      have HB := n_HB
      clear n_HB
      clear BK3
      have BK3 := n_BK3
      clear n_BK3
      clear BK4
      have BK4 := n_BK4
      clear n_BK4
      clear BK7
      have BK7 := n_BK7
      clear n_BK7
      clear R5
      have R5 := n_R5
      clear n_R5
      have hs := HS2.out
      have hs9 := (i64_w _).symm.trans HS2.out
      have hwj := HWM.out
      refine start_ (n := 10) (S := fun w' => w'.cell? ⟨g7, 1, none⟩ = some (.int .i64 ((m : Int) + 1)) ∧ w'.cell? ⟨g7, 3, none⟩ = some (.int .i64 x.f3) ∧ w'.cell? ⟨g4, m, none⟩ = some (.int .i64 a2)) (ds := [9]) #[false, false, false, false, false, false, false, false, false, false] (by kernel_rfl) rfl rfl ⟨(blk_cell BK7.out 1).trans rfl, (blk_cell BK7.out 3).trans rfl, (blk_cell BK4.out m).trans KC4.out⟩ (fun hHeld => ?_)
      generalize z3.drew = z4 at HB BK3 BK4 BK7 R5 hHeld ⊢
      refine pure_ (i := 0) (N := some 81) (v := ?_) (a' := ?_) #[true, false, false, false, false, false, false, false, false, false] rfl rfl (by kernel_rfl) (fun _ _ _ h => h) (Or.inl ⟨by rfl, ?_⟩) ?_ ?_
      rotate_left
      · intro w'
        go_simp
        with_reducible rfl
      rotate_left
      · simp only [Act.put, List.setIfInBounds_toArray, List.set_cons_zero, List.set_cons_succ, i64_w, i32_w]
        rfl
      refine pure_ (i := 5) (N := some 86) (v := ?_) (a' := ?_) #[true, false, false, false, false, true, false, false, false, false] rfl rfl (by kernel_rfl) (fun _ _ _ h => h) (Or.inl ⟨by rfl, ?_⟩) ?_ ?_
      rotate_left
      · intro w'
        go_simp
        with_reducible rfl
      rotate_left
      · simp only [Act.put, List.setIfInBounds_toArray, List.set_cons_zero, List.set_cons_succ, i64_w, i32_w]
        rfl
      refine take_ (i := 1) (N := some 82) (v := ?_) (a' := ?_) #[true, true, false, false, false, true, false, false, false, false] rfl rfl (by kernel_rfl) (fun _ _ _ h => h) (Or.inl ⟨by rfl, ?_⟩) hHeld ?_ ?_
      rotate_left
      · rintro w' ⟨s0, s1, s2⟩
        go_simp
        with_reducible rfl
      rotate_left
      · simp only [Act.put, List.setIfInBounds_toArray, List.set_cons_zero, List.set_cons_succ, i64_w, i32_w]
        rfl
      refine pure_ (i := 2) (N := some 83) (v := ?_) (a' := ?_) #[true, true, true, false, false, true, false, false, false, false] rfl rfl (by kernel_rfl) (fun _ _ _ h => h) (Or.inl ⟨by rfl, ?_⟩) ?_ ?_
      rotate_left
      · intro w'
        go_simp
        with_reducible rfl
      rotate_left
      · simp only [Act.put, List.setIfInBounds_toArray, List.set_cons_zero, List.set_cons_succ, i64_w, i32_w]
        rfl
      refine pure_ (i := 3) (N := some 84) (v := ?_) (a' := ?_) #[true, true, true, true, false, true, false, false, false, false] rfl rfl (by kernel_rfl) (fun _ _ _ h => h) (Or.inl ⟨by rfl, ?_⟩) ?_ ?_
      rotate_left
      · intro w'
        go_simp
        with_reducible rfl
      rotate_left
      · simp only [Act.put, List.setIfInBounds_toArray, List.set_cons_zero, List.set_cons_succ, i64_w, i32_w]
        rfl
      refine take_ (i := 4) (N := some 85) (v := ?_) (a' := ?_) #[true, true, true, true, true, true, false, false, false, false] rfl rfl (by kernel_rfl) (fun _ _ _ h => h) (Or.inl ⟨by rfl, ?_⟩) hHeld ?_ ?_
      rotate_left
      · rintro w' ⟨s0, s1, s2⟩
        go_simp
        with_reducible rfl
      rotate_left
      · simp only [Act.put, List.setIfInBounds_toArray, List.set_cons_zero, List.set_cons_succ, i64_w, i32_w]
        rfl
      refine take_ (i := 6) (N := some 87) (v := ?_) (a' := ?_) #[true, true, true, true, true, true, true, false, false, false] rfl rfl (by kernel_rfl) (fun _ _ _ h => h) (Or.inl ⟨by rfl, ?_⟩) hHeld ?_ ?_
      rotate_left
      · rintro w' ⟨s0, s1, s2⟩
        go_simp
        with_reducible rfl
      rotate_left
      · simp only [Act.put, List.setIfInBounds_toArray, List.set_cons_zero, List.set_cons_succ, i64_w, i32_w]
        rfl
      refine pure_ (i := 7) (N := some 88) (v := ?_) (a' := ?_) #[true, true, true, true, true, true, true, true, false, false] rfl rfl (by kernel_rfl) (fun _ _ _ h => h) (Or.inl ⟨by rfl, ?_⟩) ?_ ?_
      rotate_left
      · intro w'
        go_simp
        with_reducible rfl
      rotate_left
      · simp only [Act.put, List.setIfInBounds_toArray, List.set_cons_zero, List.set_cons_succ, i64_w, i32_w]
        rfl
      refine pure_ (i := 8) (N := some 89) (v := ?_) (a' := ?_) #[true, true, true, true, true, true, true, true, true, false] rfl rfl (by kernel_rfl) (fun _ _ _ h => h) (Or.inl ⟨by rfl, ?_⟩) ?_ ?_
      rotate_left
      · intro w'
        go_simp
        with_reducible rfl
      rotate_left
      · simp only [Act.put, List.setIfInBounds_toArray, List.set_cons_zero, List.set_cons_succ, i64_w, i32_w]
        rfl
      refine last_ (i := 9) (N := none) #[true, true, true, true, true, true, true, true, true, true] rfl rfl (by kernel_rfl) (by decide) (fun K hK => ?_)
      have kf := blk_frozen BK4.out m
      have kc := hHeld.2.2
      refine skip_ (w1 := ?_) (by rfl) rfl ?_ ?_
      rotate_left
      · go_simp
        rfl
      refine hK.out _ _ ?_
      clear hK K
      refine done_ (by kernel_rfl) ?_
      clear hHeld hs hs9 hwj
      have n_HB := Aside0.mk (HB.out.setCell (p := ⟨g4, m, none⟩) (show w.heap.size ≤ g4 by omega) (.int .i64 v2))
      have n_BK4 := Aside0.mk (blk_put BK4.out m (.int .i64 v2) ((cells3_set _ m hm3 v2).trans (congrArg cells3 HWA.out.symm)))
      have n_BK3 := Aside0.mk ((Below.heap_setCell z4 ⟨g4, m, none⟩ (.int .i64 v2) g3 (show g3 ≠ g4 by omega)).trans BK3.out)
      have n_BK7 := Aside0.mk ((Below.heap_setCell z4 ⟨g4, m, none⟩ (.int .i64 v2) g7 (show g7 ≠ g4 by omega)).trans BK7.out)
      have n_R5 := Aside0.mk (Kd.R_mono (Kd.R_far (p := ⟨g4, m, none⟩) (Kd.R_types R5.out BK4.out (by decide)) (fun _ hk => hk.2) (.int .i64 v2)) (fun _ _ => trivial))
      clear HB BK3 BK4 BK7 R5
      generalize z4.setCell ⟨g4, m, none⟩ (.int .i64 v2) = z5 at n_HB n_BK3 n_BK4 n_BK7 n_R5 ⊢
      have HB := n_HB
      clear n_HB
      have BK3 := n_BK3
      clear n_BK3
      have BK4 := n_BK4
      clear n_BK4
      have BK7 := n_BK7
      clear n_BK7
      have R5 := n_R5
      clear n_R5
      have hk0 : z5.cell? ⟨g7, 0, none⟩ = some (.int .i64 ((j : Int) + 1)) := blk_cell BK7.out 0
      have hk1 : z5.cell? ⟨g7, 1, none⟩ = some (.int .i64 ((m : Int) + 1)) := blk_cell BK7.out 1
      have hk2 : z5.cell? ⟨g7, 2, none⟩ = some (.int .i64 x.f2) := blk_cell BK7.out 2
      have hk3 : z5.cell? ⟨g7, 3, none⟩ = some (.int .i64 x.f3) := blk_cell BK7.out 3
      have hk4 : z5.cell? ⟨g7, 4, none⟩ = some (.int .i64 x.f4) := blk_cell BK7.out 4
      go_wp2_with ((with_reducible refine gate_builtin (b := .append) (xs := #[.tmp 90, .tmp 100]) rfl ?_); refine Shut.out ?_)
      unfold Shut
      refine Kd.R_append k40 (w0 := w) w.heap.size rfl (.tmp 90) (.tmp 100) 23 40 (.agg #[.int .i64 0, .int .i64 0, .int .i64 0, .int .i64 0, .int .i64 0]) 40 rfl Try.underlying23 info40 rfl (by decide) (by omega) u5 ((l.take k).map st40) (⟨(j : Int) + 1, (j : Int) + 1, x.f2, x.f2, 0⟩ : S40) [.int .i64 ((j : Int) + 1), .int .i64 ((j : Int) + 1), .int .i64 x.f2, .int .i64 x.f2, .int .i64 0] (fun _ => True) (fun _ => False) rfl (by first | (go_simp; done) | (go_simp; rfl)) ?aP (fun _ hk => hk.elim) ?aF ?aO ?aB ?aS ?aL ?_
      case aP => exact k40_mkM _ _ _ (⟨(j : Int) + 1, (j : Int) + 1, x.f2, x.f2, 0⟩ : S40)
      case aB => exact HB.out
      case aF => exact (fun _ _ => trivial)
      case aO => exact R5.out
      case aS => exact below_size HB.out
      case aL => rw [List.length_map, List.length_take]; omega
      intro v_ z6 ho hb hg hat
      have n_BK3 := Aside0.mk (blk_grown BK3.out hg (Kd.R_ne R5.out BK3.out (by decide)))
      have n_BK4 := Aside0.mk (blk_grown BK4.out hg (Kd.R_ne R5.out BK4.out (by decide)))
      have n_HB := Aside0.mk hb
      have n_R5 := Aside0.mk ho
      clear HB BK3 BK4 R5 BK7 hk0 hk1 hk2 hk3 hk4 ho hb hg hat
      have HB := n_HB
      have BK3 := n_BK3
      have BK4 := n_BK4
      have R5 := n_R5
      clear n_HB n_BK3 n_BK4 n_R5
      go_wp2_with fail
      go_roundw
      case measure => simp [intOf]; omega
      case rel =>
        refine ⟨k + 1, by omega, by go_num, ⟨?_⟩, ⟨?_⟩, BK3, BK4, HB⟩
        · rw [HT.out]
          intro y hy
          rcases List.mem_append.1 hy with hy | hy
          · exact HOK.out y hy
          · obtain rfl := List.mem_singleton.1 hy
            exact HXOK.out
        · have e : (l.take (k + 1)).map st40 = (l.take k).map st40 ++ [(⟨(j : Int) + 1, (j : Int) + 1, x.f2, x.f2, 0⟩ : S40)] := by rw [HT.out, List.map_append]; simp only [List.map_cons, List.map_nil, st40, HJ.out]
          rw [e]; exact R5.out
    case neg =>
      have hkl : k = l.length := by omega
      have htk : l.take k = l := List.take_of_length_le (by omega)
      rw [htk] at BK3 BK4 R5 HOK
      subst hkl
      clear htk
      obtain ⟨ls, hls⟩ : ∃ x, x = l.map st40 := ⟨_, rfl⟩
      have hll : ls.length = l.length := by rw [hls, List.length_map]
      rw [← hls] at R5
      have HLS := Aside0.mk hls
      have HLL := Aside0.mk hll
      clear hls hll
      obtain ⟨A5, c5, rfl⟩ := Kd.R_slice R5.out
      obtain ⟨⟨ra, rb, rc, re⟩, rh⟩ : ∃ r, allow_Roll.g (lombardlaw16_AllowCloses.op l 1) (lombardlaw16_AllowCloses.op l 2) (lombardlaw16_AllowCloses.op l 3) (l.map cv) = r := ⟨_, rfl⟩
      obtain ⟨⟨sa, sb, sc, se⟩, sh⟩ : ∃ r, allow_Roll.g (lombardlaw16_AllowCloses.op l 1) (lombardlaw16_AllowCloses.op l 2) (lombardlaw16_AllowCloses.op l 3) (ls.map cv) = r := ⟨_, rfl⟩
      have sh2 : allow_Roll.g (lombardlaw16_AllowCloses.op l 1) (lombardlaw16_AllowCloses.op l 2) (lombardlaw16_AllowCloses.op l 3) ((l.map st40).map cv) = (sa, sb, sc, se) := by rw [← HLS.out]; exact sh
      have hfac := lombardlaw16_AllowCloses.facts HOK.out hl rh sh2
      clear sh2
      have HF := Aside0.mk hfac
      have rh := Aside0.mk rh
      have sh := Aside0.mk sh
      clear hfac
      go_wp2_with fail
      replace BK3 : Aside0 (wr.heap[g3]? = some (.cells #[.int .i64 (lombardlaw16_AllowCloses.op l 1), .int .i64 (lombardlaw16_AllowCloses.op l 2), .int .i64 (lombardlaw16_AllowCloses.op l 3)] 22 (0, 0))) := ⟨BK3.out⟩
      replace BK4 : Aside0 (wr.heap[g4]? = some (.cells #[.int .i64 (lombardlaw16_AllowCloses.wt l 1), .int .i64 (lombardlaw16_AllowCloses.wt l 2), .int .i64 (lombardlaw16_AllowCloses.wt l 3)] 22 (0, 0))) := ⟨BK4.out⟩
      have n_HB := Aside0.mk (below_drew1 HB.out)
      have n_BK3 := Aside0.mk (blk_drew BK3.out)
      have n_BK4 := Aside0.mk (blk_drew BK4.out)
      have n_R5 := Aside0.mk (Kd.R_drew R5.out)
      clear HB BK3 BK4 R5
      have HB := n_HB
      clear n_HB
      have BK3 := n_BK3
      clear n_BK3
      have BK4 := n_BK4
      clear n_BK4
      have R5 := n_R5
      clear n_R5
      refine start_ (n := 10) (S := fun w' => w'.cell? ⟨g3, 0, none⟩ = some (.int .i64 (lombardlaw16_AllowCloses.op l 1)) ∧ w'.cell? ⟨g3, 1, none⟩ = some (.int .i64 (lombardlaw16_AllowCloses.op l 2)) ∧ w'.cell? ⟨g3, 2, none⟩ = some (.int .i64 (lombardlaw16_AllowCloses.op l 3))) (ds := [8]) #[false, false, false, false, false, false, false, false, false, false] (by kernel_rfl) rfl rfl ⟨(blk_cell BK3.out 0).trans rfl, (blk_cell BK3.out 1).trans rfl, (blk_cell BK3.out 2).trans rfl⟩ (fun hHeld => ?_)
      generalize wr.drew = y7 at HB BK3 BK4 R5 hHeld ⊢
      refine pure_ (i := 1) (N := some 105) (v := ?_) (a' := ?_) #[false, true, false, false, false, false, false, false, false, false] rfl rfl (by kernel_rfl) (fun _ _ _ h => h) (Or.inl ⟨by rfl, ?_⟩) ?_ ?_
      rotate_left
      · intro w'
        go_simp
        with_reducible rfl
      rotate_left
      · simp only [Act.put, List.setIfInBounds_toArray, List.set_cons_zero, List.set_cons_succ, i64_w, i32_w]
        rfl
      refine take_ (i := 0) (N := some 104) (v := ?_) (a' := ?_) #[true, true, false, false, false, false, false, false, false, false] rfl rfl (by kernel_rfl) (fun _ _ _ h => h) (Or.inl ⟨by rfl, ?_⟩) hHeld ?_ ?_
      rotate_left
      · rintro w' ⟨s0, s1, s2⟩
        go_simp
        with_reducible rfl
      rotate_left
      · simp only [Act.put, List.setIfInBounds_toArray, List.set_cons_zero, List.set_cons_succ, i64_w, i32_w]
        rfl
      refine join_ (σ := Option Addr × Nat × Nat) 2 #[true, true, true, true, true, true, true, true, false, false] (fun s_ => [(106, .slice s_.1 ((l).map cv).length s_.2.1), (107, .tuple #[.agg (row18 ra rb rc), .int .i64 re]), (103, .tuple #[.agg (row18 ra rb rc), .int .i64 re]), (108, .agg (row18 ra rb rc)), (109, .int .i64 re), (8, .pointer (some ⟨s_.2.2, 0, none⟩))]) (fun s_ w' => (w'.cell? ⟨g3, 0, none⟩ = some (.int .i64 (lombardlaw16_AllowCloses.op l 1))) ∧ (w'.cell? ⟨g3, 1, none⟩ = some (.int .i64 (lombardlaw16_AllowCloses.op l 2))) ∧ (w'.cell? ⟨g3, 2, none⟩ = some (.int .i64 (lombardlaw16_AllowCloses.op l 3))) ∧ (w'.heap[g3]? = some (.cells #[.int .i64 (lombardlaw16_AllowCloses.op l 1), .int .i64 (lombardlaw16_AllowCloses.op l 2), .int .i64 (lombardlaw16_AllowCloses.op l 3)] 22 (0, 0))) ∧ (w'.heap[g4]? = some (.cells #[.int .i64 (lombardlaw16_AllowCloses.wt l 1), .int .i64 (lombardlaw16_AllowCloses.wt l 2), .int .i64 (lombardlaw16_AllowCloses.wt l 3)] 22 (0, 0))) ∧ (w'.heap[s_.2.2]? = some (.cells (row18 Row6.z Row6.z Row6.z) 27 (0, 0))) ∧ (g4 + 1 ≤ s_.2.2) ∧ (Below w.heap.size w w') ∧ (Kd.R k40 40 w' w.heap.size (fun _ => True) (.slice A5 ls.length c5) (ls))) ?_ ?_
      rotate_left
      · intro hCont
        refine two_ (i := 2) (j := 7) (Ni := some 106) (Nj := some 8) #[true, true, true, false, false, false, false, false, false, false] #[true, true, false, false, false, false, false, true, false, false] rfl rfl rfl rfl (by kernel_rfl) (by decide) (by decide) (fun K hK => ?_) (fun K hK => ?_)
        · skip
          refine goes_ Try.func11 (by kernel_rfl) rfl #[.slice (A) (l).length (c)] (by rfl) rfl rfl (by (try simp only [List.map_toArray, List.map_cons, List.map_nil]); first | done | rfl) ?_
          with_reducible refine (to_pl (A) (c) (l) _ (Kd.C_below HR.out HB.out) HC.out (by omega)).mono ?_
          rintro e y2_ ⟨v_, rfl, ho, hb⟩
          refine ⟨_, rfl, ?_⟩
          have m_R106 := Aside0.mk (Kd.R_lower ho (below_size HB.out))
          have n_HB := Aside0.mk (below_step HB.out hb)
          have n_BK3 := Aside0.mk (blk_below BK3.out hb)
          have n_BK4 := Aside0.mk (blk_below BK4.out hb)
          have n_R5 := Aside0.mk (Kd.R_below R5.out hb)
          clear HB
          have HB := n_HB
          clear n_HB
          clear BK3
          have BK3 := n_BK3
          clear n_BK3
          clear BK4
          have BK4 := n_BK4
          clear n_BK4
          clear R5
          have R5 := n_R5
          clear n_R5
          clear hb
          have R106 := m_R106
          clear m_R106
          clear ho
          obtain ⟨A106, c106, eo⟩ := Kd.R_slice R106.out
          subst eo
          refine hK.out _ _ ⟨(blk_cell BK3.out 0).trans rfl, (blk_cell BK3.out 1).trans rfl, (blk_cell BK3.out 2).trans rfl⟩ (fun hHeld => ?_)
          clear hK K
          refine norm_ (a' := ?_) ?_ ?_
          rotate_left
          · show Act.put _ (some 106) _ = _
            simp only [Act.put, List.setIfInBounds_toArray, List.set_cons_zero, List.set_cons_succ, i64_w, i32_w]
            rfl
          refine two_ (i := 3) (j := 7) (Ni := some 107) (Nj := some 8) #[true, true, true, true, false, false, false, false, false, false] #[true, true, true, false, false, false, false, true, false, false] rfl rfl rfl rfl (by kernel_rfl) (by decide) (by decide) (fun K hK => ?_) (fun K hK => ?_)
          · skip
            refine goes_ Try.func10 (by kernel_rfl) rfl #[.agg #[.int .i64 (lombardlaw16_AllowCloses.op l 1), .int .i64 (lombardlaw16_AllowCloses.op l 2), .int .i64 (lombardlaw16_AllowCloses.op l 3)], .slice A106 (l.map cv).length c106] (by rfl) rfl rfl (by (try simp only [List.map_toArray, List.map_cons, List.map_nil]); first | done | rfl) ?_
            with_reducible refine (roll_eq rh.out _ _ _ (Kd.R_reads' R106.out).2.2 (Kd.R_reads' R106.out).2.1).mono ?_
            rintro e y3_ ⟨rfl, hb⟩
            refine ⟨_, rfl, ?_⟩
            have n_HB := Aside0.mk (below_step HB.out hb)
            have n_BK3 := Aside0.mk (blk_below BK3.out hb)
            have n_BK4 := Aside0.mk (blk_below BK4.out hb)
            have n_R5 := Aside0.mk (Kd.R_below R5.out hb)
            clear HB
            have HB := n_HB
            clear n_HB
            clear BK3
            have BK3 := n_BK3
            clear n_BK3
            clear BK4
            have BK4 := n_BK4
            clear n_BK4
            clear R5
            have R5 := n_R5
            clear n_R5
            clear hb
            clear R106
            refine hK.out _ _ ⟨(blk_cell BK3.out 0).trans rfl, (blk_cell BK3.out 1).trans rfl, (blk_cell BK3.out 2).trans rfl⟩ (fun hHeld => ?_)
            clear hK K
            refine norm_ (a' := ?_) ?_ ?_
            rotate_left
            · show Act.put _ (some 107) _ = _
              simp only [Act.put, List.setIfInBounds_toArray, List.set_cons_zero, List.set_cons_succ, i64_w, i32_w]
              rfl
            refine pure_ (i := 4) (N := some 103) (v := ?_) (a' := ?_) #[true, true, true, true, true, false, false, false, false, false] rfl rfl (by kernel_rfl) (fun _ _ _ h => h) (Or.inl ⟨by rfl, ?_⟩) ?_ ?_
            rotate_left
            · intro w'
              go_simp
              with_reducible rfl
            rotate_left
            · simp only [Act.put, List.setIfInBounds_toArray, List.set_cons_zero, List.set_cons_succ, i64_w, i32_w]
              rfl
            refine pure_ (i := 5) (N := some 108) (v := ?_) (a' := ?_) #[true, true, true, true, true, true, false, false, false, false] rfl rfl (by kernel_rfl) (fun _ _ _ h => h) (Or.inl ⟨by rfl, ?_⟩) ?_ ?_
            rotate_left
            · intro w'
              go_simp
              with_reducible rfl
            rotate_left
            · simp only [Act.put, List.setIfInBounds_toArray, List.set_cons_zero, List.set_cons_succ, i64_w, i32_w]
              rfl
            refine pure_ (i := 6) (N := some 109) (v := ?_) (a' := ?_) #[true, true, true, true, true, true, true, false, false, false] rfl rfl (by kernel_rfl) (fun _ _ _ h => h) (Or.inl ⟨by rfl, ?_⟩) ?_ ?_
            rotate_left
            · intro w'
              go_simp
              with_reducible rfl
            rotate_left
            · simp only [Act.put, List.setIfInBounds_toArray, List.set_cons_zero, List.set_cons_succ, i64_w, i32_w]
              rfl
            refine one_ (i := 7) (N := some 8) #[true, true, true, true, true, true, true, true, false, false] rfl rfl (by kernel_rfl) (by decide) (fun K hK => ?_)
            refine box_step ?hg (N := 8) ?hd (cs := row18 Row6.z Row6.z Row6.z) (t := 27) ?hr ?_; (case hd => rfl); (case hg => rfl); (case hr => first | (go_simp; done) | (go_simp; rfl))
            intro g8 hg y4_ hbox hb
            have GE8 : g4 + 1 ≤ g8 := by have := blk_lt BK4.out; omega
            have m_ := Aside0.mk hbox
            have n_HB := Aside0.mk (below_step HB.out hb)
            have n_BK3 := Aside0.mk (blk_below BK3.out hb)
            have n_BK4 := Aside0.mk (blk_below BK4.out hb)
            have n_R5 := Aside0.mk (Kd.R_below R5.out hb)
            clear HB
            have HB := n_HB
            clear n_HB
            clear BK3
            have BK3 := n_BK3
            clear n_BK3
            clear BK4
            have BK4 := n_BK4
            clear n_BK4
            clear R5
            have R5 := n_R5
            clear n_R5
            clear hb hbox hg
            have BKg8 := m_
            clear m_
            refine hK.out _ _ ⟨(blk_cell BK3.out 0).trans rfl, (blk_cell BK3.out 1).trans rfl, (blk_cell BK3.out 2).trans rfl⟩ (fun hHeld => ?_)
            clear hK K
            refine norm_ (a' := ?_) ?_ ?_
            rotate_left
            · show Act.put _ (some 8) _ = _
              simp only [Act.put, List.setIfInBounds_toArray, List.set_cons_zero, List.set_cons_succ, i64_w, i32_w]
              rfl
            exact norm_ (by simp only [putAll, Act.put, List.setIfInBounds_toArray, List.set_cons_zero, List.set_cons_succ]) (hCont (A106, c106, g8) _ ⟨(blk_cell BK3.out 0).trans rfl, (blk_cell BK3.out 1).trans rfl, (blk_cell BK3.out 2).trans rfl, BK3.out, BK4.out, BKg8.out, GE8, HB.out, R5.out⟩)
          · skip
            refine box_step ?hg (N := 8) ?hd (cs := row18 Row6.z Row6.z Row6.z) (t := 27) ?hr ?_; (case hd => rfl); (case hg => rfl); (case hr => first | (go_simp; done) | (go_simp; rfl))
            intro g8 hg y5_ hbox hb
            have GE8 : g4 + 1 ≤ g8 := by have := blk_lt BK4.out; omega
            have m_ := Aside0.mk hbox
            have n_HB := Aside0.mk (below_step HB.out hb)
            have n_BK3 := Aside0.mk (blk_below BK3.out hb)
            have n_BK4 := Aside0.mk (blk_below BK4.out hb)
            have n_R5 := Aside0.mk (Kd.R_below R5.out hb)
            have n_R106 := Aside0.mk (Kd.R_below R106.out hb)
            clear HB
            have HB := n_HB
            clear n_HB
            clear BK3
            have BK3 := n_BK3
            clear n_BK3
            clear BK4
            have BK4 := n_BK4
            clear n_BK4
            clear R5
            have R5 := n_R5
            clear n_R5
            clear R106
            have R106 := n_R106
            clear n_R106
            clear hb hbox hg
            have BKg8 := m_
            clear m_
            refine hK.out _ _ ⟨(blk_cell BK3.out 0).trans rfl, (blk_cell BK3.out 1).trans rfl, (blk_cell BK3.out 2).trans rfl⟩ (fun hHeld => ?_)
            clear hK K
            refine norm_ (a' := ?_) ?_ ?_
            rotate_left
            · show Act.put _ (some 8) _ = _
              simp only [Act.put, List.setIfInBounds_toArray, List.set_cons_zero, List.set_cons_succ, i64_w, i32_w]
              rfl
            refine one_ (i := 3) (N := some 107) #[true, true, true, true, false, false, false, true, false, false] rfl rfl (by kernel_rfl) (by decide) (fun K hK => ?_)
            refine goes_ Try.func10 (by kernel_rfl) rfl #[.agg #[.int .i64 (lombardlaw16_AllowCloses.op l 1), .int .i64 (lombardlaw16_AllowCloses.op l 2), .int .i64 (lombardlaw16_AllowCloses.op l 3)], .slice A106 (l.map cv).length c106] (by rfl) rfl rfl (by (try simp only [List.map_toArray, List.map_cons, List.map_nil]); first | done | rfl) ?_
            with_reducible refine (roll_eq rh.out _ _ _ (Kd.R_reads' R106.out).2.2 (Kd.R_reads' R106.out).2.1).mono ?_
            rintro e y6_ ⟨rfl, hb⟩
            refine ⟨_, rfl, ?_⟩
            have n_HB := Aside0.mk (below_step HB.out hb)
            have n_BK3 := Aside0.mk (blk_below BK3.out hb)
            have n_BK4 := Aside0.mk (blk_below BK4.out hb)
            have n_R5 := Aside0.mk (Kd.R_below R5.out hb)
            have n_BKg8 := Aside0.mk (blk_below BKg8.out hb)
            clear HB
            have HB := n_HB
            clear n_HB
            clear BK3
            have BK3 := n_BK3
            clear n_BK3
            clear BK4
            have BK4 := n_BK4
            clear n_BK4
            clear R5
            have R5 := n_R5
            clear n_R5
            clear BKg8
            have BKg8 := n_BKg8
            clear n_BKg8
            clear hb
            clear R106
            refine hK.out _ _ ⟨(blk_cell BK3.out 0).trans rfl, (blk_cell BK3.out 1).trans rfl, (blk_cell BK3.out 2).trans rfl⟩ (fun hHeld => ?_)
            clear hK K
            refine norm_ (a' := ?_) ?_ ?_
            rotate_left
            · show Act.put _ (some 107) _ = _
              simp only [Act.put, List.setIfInBounds_toArray, List.set_cons_zero, List.set_cons_succ, i64_w, i32_w]
              rfl
            refine pure_ (i := 4) (N := some 103) (v := ?_) (a' := ?_) #[true, true, true, true, true, false, false, true, false, false] rfl rfl (by kernel_rfl) (fun _ _ _ h => h) (Or.inl ⟨by rfl, ?_⟩) ?_ ?_
            rotate_left
            · intro w'
              go_simp
              with_reducible rfl
            rotate_left
            · simp only [Act.put, List.setIfInBounds_toArray, List.set_cons_zero, List.set_cons_succ, i64_w, i32_w]
              rfl
            refine pure_ (i := 5) (N := some 108) (v := ?_) (a' := ?_) #[true, true, true, true, true, true, false, true, false, false] rfl rfl (by kernel_rfl) (fun _ _ _ h => h) (Or.inl ⟨by rfl, ?_⟩) ?_ ?_
            rotate_left
            · intro w'
              go_simp
              with_reducible rfl
            rotate_left
            · simp only [Act.put, List.setIfInBounds_toArray, List.set_cons_zero, List.set_cons_succ, i64_w, i32_w]
              rfl
            refine pure_ (i := 6) (N := some 109) (v := ?_) (a' := ?_) #[true, true, true, true, true, true, true, true, false, false] rfl rfl (by kernel_rfl) (fun _ _ _ h => h) (Or.inl ⟨by rfl, ?_⟩) ?_ ?_
            rotate_left
            · intro w'
              go_simp
              with_reducible rfl
            rotate_left
            · simp only [Act.put, List.setIfInBounds_toArray, List.set_cons_zero, List.set_cons_succ, i64_w, i32_w]
              rfl
            exact norm_ (by simp only [putAll, Act.put, List.setIfInBounds_toArray, List.set_cons_zero, List.set_cons_succ]) (hCont (A106, c106, g8) _ ⟨(blk_cell BK3.out 0).trans rfl, (blk_cell BK3.out 1).trans rfl, (blk_cell BK3.out 2).trans rfl, BK3.out, BK4.out, BKg8.out, GE8, HB.out, R5.out⟩)
        · skip
          refine box_step ?hg (N := 8) ?hd (cs := row18 Row6.z Row6.z Row6.z) (t := 27) ?hr ?_; (case hd => rfl); (case hg => rfl); (case hr => first | (go_simp; done) | (go_simp; rfl))
          intro g8 hg y7_ hbox hb
          have GE8 : g4 + 1 ≤ g8 := by have := blk_lt BK4.out; omega
          have m_ := Aside0.mk hbox
          have n_HB := Aside0.mk (below_step HB.out hb)
          have n_BK3 := Aside0.mk (blk_below BK3.out hb)
          have n_BK4 := Aside0.mk (blk_below BK4.out hb)
          have n_R5 := Aside0.mk (Kd.R_below R5.out hb)
          clear HB
          have HB := n_HB
          clear n_HB
          clear BK3
          have BK3 := n_BK3
          clear n_BK3
          clear BK4
          have BK4 := n_BK4
          clear n_BK4
          clear R5
          have R5 := n_R5
          clear n_R5
          clear hb hbox hg
          have BKg8 := m_
          clear m_
          refine hK.out _ _ ⟨(blk_cell BK3.out 0).trans rfl, (blk_cell BK3.out 1).trans rfl, (blk_cell BK3.out 2).trans rfl⟩ (fun hHeld => ?_)
          clear hK K
          refine norm_ (a' := ?_) ?_ ?_
          rotate_left
          · show Act.put _ (some 8) _ = _
            simp only [Act.put, List.setIfInBounds_toArray, List.set_cons_zero, List.set_cons_succ, i64_w, i32_w]
            rfl
          refine one_ (i := 2) (N := some 106) #[true, true, true, false, false, false, false, true, false, false] rfl rfl (by kernel_rfl) (by decide) (fun K hK => ?_)
          refine goes_ Try.func11 (by kernel_rfl) rfl #[.slice (A) (l).length (c)] (by rfl) rfl rfl (by (try simp only [List.map_toArray, List.map_cons, List.map_nil]); first | done | rfl) ?_
          with_reducible refine (to_pl (A) (c) (l) _ (Kd.C_below HR.out HB.out) HC.out (by omega)).mono ?_
          rintro e y8_ ⟨v_, rfl, ho, hb⟩
          refine ⟨_, rfl, ?_⟩
          have m_R106 := Aside0.mk (Kd.R_lower ho (below_size HB.out))
          have n_HB := Aside0.mk (below_step HB.out hb)
          have n_BK3 := Aside0.mk (blk_below BK3.out hb)
          have n_BK4 := Aside0.mk (blk_below BK4.out hb)
          have n_R5 := Aside0.mk (Kd.R_below R5.out hb)
          have n_BKg8 := Aside0.mk (blk_below BKg8.out hb)
          clear HB
          have HB := n_HB
          clear n_HB
          clear BK3
          have BK3 := n_BK3
          clear n_BK3
          clear BK4
          have BK4 := n_BK4
          clear n_BK4
          clear R5
          have R5 := n_R5
          clear n_R5
          clear BKg8
          have BKg8 := n_BKg8
          clear n_BKg8
          clear hb
          have R106 := m_R106
          clear m_R106
          clear ho
          obtain ⟨A106, c106, eo⟩ := Kd.R_slice R106.out
          subst eo
          refine hK.out _ _ ⟨(blk_cell BK3.out 0).trans rfl, (blk_cell BK3.out 1).trans rfl, (blk_cell BK3.out 2).trans rfl⟩ (fun hHeld => ?_)
          clear hK K
          refine norm_ (a' := ?_) ?_ ?_
          rotate_left
          · show Act.put _ (some 106) _ = _
            simp only [Act.put, List.setIfInBounds_toArray, List.set_cons_zero, List.set_cons_succ, i64_w, i32_w]
            rfl
          refine one_ (i := 3) (N := some 107) #[true, true, true, true, false, false, false, true, false, false] rfl rfl (by kernel_rfl) (by decide) (fun K hK => ?_)
          refine goes_ Try.func10 (by kernel_rfl) rfl #[.agg #[.int .i64 (lombardlaw16_AllowCloses.op l 1), .int .i64 (lombardlaw16_AllowCloses.op l 2), .int .i64 (lombardlaw16_AllowCloses.op l 3)], .slice A106 (l.map cv).length c106] (by rfl) rfl rfl (by (try simp only [List.map_toArray, List.map_cons, List.map_nil]); first | done | rfl) ?_
          with_reducible refine (roll_eq rh.out _ _ _ (Kd.R_reads' R106.out).2.2 (Kd.R_reads' R106.out).2.1).mono ?_
          rintro e y9_ ⟨rfl, hb⟩
          refine ⟨_, rfl, ?_⟩
          have n_HB := Aside0.mk (below_step HB.out hb)
          have n_BK3 := Aside0.mk (blk_below BK3.out hb)
          have n_BK4 := Aside0.mk (blk_below BK4.out hb)
          have n_R5 := Aside0.mk (Kd.R_below R5.out hb)
          have n_BKg8 := Aside0.mk (blk_below BKg8.out hb)
          clear HB
          have HB := n_HB
          clear n_HB
          clear BK3
          have BK3 := n_BK3
          clear n_BK3
          clear BK4
          have BK4 := n_BK4
          clear n_BK4
          clear R5
          have R5 := n_R5
          clear n_R5
          clear BKg8
          have BKg8 := n_BKg8
          clear n_BKg8
          clear hb
          clear R106
          refine hK.out _ _ ⟨(blk_cell BK3.out 0).trans rfl, (blk_cell BK3.out 1).trans rfl, (blk_cell BK3.out 2).trans rfl⟩ (fun hHeld => ?_)
          clear hK K
          refine norm_ (a' := ?_) ?_ ?_
          rotate_left
          · show Act.put _ (some 107) _ = _
            simp only [Act.put, List.setIfInBounds_toArray, List.set_cons_zero, List.set_cons_succ, i64_w, i32_w]
            rfl
          refine pure_ (i := 4) (N := some 103) (v := ?_) (a' := ?_) #[true, true, true, true, true, false, false, true, false, false] rfl rfl (by kernel_rfl) (fun _ _ _ h => h) (Or.inl ⟨by rfl, ?_⟩) ?_ ?_
          rotate_left
          · intro w'
            go_simp
            with_reducible rfl
          rotate_left
          · simp only [Act.put, List.setIfInBounds_toArray, List.set_cons_zero, List.set_cons_succ, i64_w, i32_w]
            rfl
          refine pure_ (i := 5) (N := some 108) (v := ?_) (a' := ?_) #[true, true, true, true, true, true, false, true, false, false] rfl rfl (by kernel_rfl) (fun _ _ _ h => h) (Or.inl ⟨by rfl, ?_⟩) ?_ ?_
          rotate_left
          · intro w'
            go_simp
            with_reducible rfl
          rotate_left
          · simp only [Act.put, List.setIfInBounds_toArray, List.set_cons_zero, List.set_cons_succ, i64_w, i32_w]
            rfl
          refine pure_ (i := 6) (N := some 109) (v := ?_) (a' := ?_) #[true, true, true, true, true, true, true, true, false, false] rfl rfl (by kernel_rfl) (fun _ _ _ h => h) (Or.inl ⟨by rfl, ?_⟩) ?_ ?_
          rotate_left
          · intro w'
            go_simp
            with_reducible rfl
          rotate_left
          · simp only [Act.put, List.setIfInBounds_toArray, List.set_cons_zero, List.set_cons_succ, i64_w, i32_w]
            rfl
          exact norm_ (by simp only [putAll, Act.put, List.setIfInBounds_toArray, List.set_cons_zero, List.set_cons_succ]) (hCont (A106, c106, g8) _ ⟨(blk_cell BK3.out 0).trans rfl, (blk_cell BK3.out 1).trans rfl, (blk_cell BK3.out 2).trans rfl, BK3.out, BK4.out, BKg8.out, GE8, HB.out, R5.out⟩)
      clear hHeld HB BK3 BK4 R5
      rintro ⟨A106, c106, g8⟩ y1_ ⟨hS0_, hS1_, hS2_, h_BK3, h_BK4, h_BKg8, h_GE8, h_HB, h_R5⟩
      have BK3 : Aside0 (y1_.heap[g3]? = some (.cells #[.int .i64 (lombardlaw16_AllowCloses.op l 1), .int .i64 (lombardlaw16_AllowCloses.op l 2), .int .i64 (lombardlaw16_AllowCloses.op l 3)] 22 (0, 0))) := Aside0.mk (h_BK3)
      clear h_BK3
      have BK4 : Aside0 (y1_.heap[g4]? = some (.cells #[.int .i64 (lombardlaw16_AllowCloses.wt l 1), .int .i64 (lombardlaw16_AllowCloses.wt l 2), .int .i64 (lombardlaw16_AllowCloses.wt l 3)] 22 (0, 0))) := Aside0.mk (h_BK4)
      clear h_BK4
      have BKg8 : Aside0 (y1_.heap[g8]? = some (.cells (row18 Row6.z Row6.z Row6.z) 27 (0, 0))) := Aside0.mk (h_BKg8)
      clear h_BKg8
      have GE8 : g4 + 1 ≤ g8 := h_GE8
      clear h_GE8
      have HB : Aside0 (Below w.heap.size w y1_) := Aside0.mk (h_HB)
      clear h_HB
      have R5 : Aside0 (Kd.R k40 40 y1_ w.heap.size (fun _ => True) (.slice A5 ls.length c5) (ls)) := Aside0.mk (h_R5)
      clear h_R5
      have hHeld : y1_.cell? ⟨g3, 0, none⟩ = some (.int .i64 (lombardlaw16_AllowCloses.op l 1)) ∧ y1_.cell? ⟨g3, 1, none⟩ = some (.int .i64 (lombardlaw16_AllowCloses.op l 2)) ∧ y1_.cell? ⟨g3, 2, none⟩ = some (.int .i64 (lombardlaw16_AllowCloses.op l 3)) := ⟨hS0_, hS1_, hS2_⟩
      clear hS0_ hS1_ hS2_
      refine norm_ (a' := ?_) ?_ ?_
      rotate_left
      · simp only [putAll, Act.put, List.setIfInBounds_toArray, List.set_cons_zero, List.set_cons_succ]
        rfl
      refine last_ (i := 8) (N := none) #[true, true, true, true, true, true, true, true, true, false] rfl rfl (by kernel_rfl) (by decide) (fun K hK => ?_)
      refine skip_ (w1 := y1_.setRow g8 (row18 ra rb rc)) (by rfl) rfl (store_run 27 (.tmp 8) (.tmp 108) rfl g8 _ rfl rfl 27 _ BKg8.out (by kernel_rfl) rfl (row18_all _ _ _)) ?_
      have n_HB := Aside0.mk (row_below (g := g8) HB.out (by omega) (row18 ra rb rc))
      have n_BK3 := Aside0.mk ((setRow_other y1_ g8 g3 (row18 ra rb rc) (by omega)).trans BK3.out)
      have n_BK4 := Aside0.mk ((setRow_other y1_ g8 g4 (row18 ra rb rc) (by omega)).trans BK4.out)
      have n_R5 := Aside0.mk (Kd.R_mono (Kd.R_step (Kd.R_types R5.out BKg8.out (by decide)) (fun k hk _ => setRow_other y1_ g8 k (row18 ra rb rc) hk.2)) (fun _ _ => trivial))
      have n_BK8 := Aside0.mk (setRow_heap _ _ _ (row18 ra rb rc) _ _ BKg8.out)
      clear BK3 BK4 BKg8 HB R5
      generalize y1_.setRow g8 (row18 ra rb rc) = y8 at n_HB n_BK3 n_BK4 n_R5 n_BK8 ⊢
      have HB := n_HB
      clear n_HB
      have BK3 := n_BK3
      clear n_BK3
      have BK4 := n_BK4
      clear n_BK4
      have R5 := n_R5
      clear n_R5
      have BK8 := n_BK8
      clear n_BK8
      refine hK.out _ _ ?_
      clear hK K
      refine pure_ (i := 9) (N := some 9) (v := ?_) (a' := ?_) #[true, true, true, true, true, true, true, true, true, true] rfl rfl (by kernel_rfl) (fun _ _ _ h => h) (Or.inl ⟨by rfl, ?_⟩) ?_ ?_
      rotate_left
      · intro w'
        go_simp
        with_reducible rfl
      rotate_left
      · simp only [Act.put, List.setIfInBounds_toArray, List.set_cons_zero, List.set_cons_succ, i64_w, i32_w]
        rfl
      refine done_ (by kernel_rfl) ?_
      clear hHeld
      go_wp2_with fail
      have n_HB := Aside0.mk (below_drew1 HB.out)
      have n_BK3 := Aside0.mk (blk_drew BK3.out)
      have n_BK4 := Aside0.mk (blk_drew BK4.out)
      have n_R5 := Aside0.mk (Kd.R_drew R5.out)
      have n_BK8 := Aside0.mk (blk_drew BK8.out)
      clear HB BK3 BK4 R5 BK8
      have HB := n_HB
      clear n_HB
      have BK3 := n_BK3
      clear n_BK3
      have BK4 := n_BK4
      clear n_BK4
      have R5 := n_R5
      clear n_R5
      have BK8 := n_BK8
      clear n_BK8
      refine start_ (n := 10) (S := fun w' => w'.cell? ⟨g3, 0, none⟩ = some (.int .i64 (lombardlaw16_AllowCloses.op l 1)) ∧ w'.cell? ⟨g3, 1, none⟩ = some (.int .i64 (lombardlaw16_AllowCloses.op l 2)) ∧ w'.cell? ⟨g3, 2, none⟩ = some (.int .i64 (lombardlaw16_AllowCloses.op l 3))) (ds := [8]) #[false, false, false, false, false, false, false, false, false, false] (by kernel_rfl) rfl rfl ⟨(blk_cell BK3.out 0).trans rfl, (blk_cell BK3.out 1).trans rfl, (blk_cell BK3.out 2).trans rfl⟩ (fun hHeld => ?_)
      generalize y8.drew = y9 at HB BK3 BK4 R5 BK8 hHeld ⊢
      refine pure_ (i := 1) (N := some 112) (v := ?_) (a' := ?_) #[false, true, false, false, false, false, false, false, false, false] rfl rfl (by kernel_rfl) (fun _ _ _ h => h) (Or.inl ⟨by rfl, ?_⟩) ?_ ?_
      rotate_left
      · intro w'
        go_simp
        with_reducible rfl
      rotate_left
      · simp only [Act.put, List.setIfInBounds_toArray, List.set_cons_zero, List.set_cons_succ, i64_w, i32_w]
        rfl
      refine take_ (i := 0) (N := some 111) (v := ?_) (a' := ?_) #[true, true, false, false, false, false, false, false, false, false] rfl rfl (by kernel_rfl) (fun _ _ _ h => h) (Or.inl ⟨by rfl, ?_⟩) hHeld ?_ ?_
      rotate_left
      · rintro w' ⟨s0, s1, s2⟩
        go_simp
        with_reducible rfl
      rotate_left
      · simp only [Act.put, List.setIfInBounds_toArray, List.set_cons_zero, List.set_cons_succ, i64_w, i32_w]
        rfl
      refine join_ (σ := Option Addr × Nat × Nat) 2 #[true, true, true, true, true, true, true, true, false, false] (fun s_ => [(113, .slice s_.1 ((ls).map cv).length s_.2.1), (114, .tuple #[.agg (row18 sa sb sc), .int .i64 se]), (110, .tuple #[.agg (row18 sa sb sc), .int .i64 se]), (115, .agg (row18 sa sb sc)), (116, .int .i64 se), (10, .pointer (some ⟨s_.2.2, 0, none⟩))]) (fun s_ w' => (w'.cell? ⟨g3, 0, none⟩ = some (.int .i64 (lombardlaw16_AllowCloses.op l 1))) ∧ (w'.cell? ⟨g3, 1, none⟩ = some (.int .i64 (lombardlaw16_AllowCloses.op l 2))) ∧ (w'.cell? ⟨g3, 2, none⟩ = some (.int .i64 (lombardlaw16_AllowCloses.op l 3))) ∧ (w'.heap[g3]? = some (.cells #[.int .i64 (lombardlaw16_AllowCloses.op l 1), .int .i64 (lombardlaw16_AllowCloses.op l 2), .int .i64 (lombardlaw16_AllowCloses.op l 3)] 22 (0, 0))) ∧ (w'.heap[g4]? = some (.cells #[.int .i64 (lombardlaw16_AllowCloses.wt l 1), .int .i64 (lombardlaw16_AllowCloses.wt l 2), .int .i64 (lombardlaw16_AllowCloses.wt l 3)] 22 (0, 0))) ∧ (w'.heap[g8]? = some (.cells (row18 ra rb rc) 27 (0, 0))) ∧ (w'.heap[s_.2.2]? = some (.cells (row18 Row6.z Row6.z Row6.z) 27 (0, 0))) ∧ (g8 + 1 ≤ s_.2.2) ∧ (Below w.heap.size w w') ∧ (Kd.R k40 40 w' w.heap.size (fun _ => True) (.slice A5 ls.length c5) (ls))) ?_ ?_
      rotate_left
      · intro hCont
        refine two_ (i := 2) (j := 7) (Ni := some 113) (Nj := some 10) #[true, true, true, false, false, false, false, false, false, false] #[true, true, false, false, false, false, false, true, false, false] rfl rfl rfl rfl (by kernel_rfl) (by decide) (by decide) (fun K hK => ?_) (fun K hK => ?_)
        · skip
          refine goes_ Try.func11 (by kernel_rfl) rfl #[.slice (A5) (ls).length (c5)] (by rfl) rfl rfl (by (try simp only [List.map_toArray, List.map_cons, List.map_nil]); first | done | rfl) ?_
          with_reducible refine (to_pl (A5) (c5) (ls) _ ((Kd.R_reads' R5.out).2.2) (Kd.R_reads' R5.out).2.1 (by have := HLL.out; omega)).mono ?_
          rintro e y11_ ⟨v_, rfl, ho, hb⟩
          refine ⟨_, rfl, ?_⟩
          have m_R113 := Aside0.mk (Kd.R_lower ho (below_size HB.out))
          have n_HB := Aside0.mk (below_step HB.out hb)
          have n_BK3 := Aside0.mk (blk_below BK3.out hb)
          have n_BK4 := Aside0.mk (blk_below BK4.out hb)
          have n_R5 := Aside0.mk (Kd.R_below R5.out hb)
          have n_BK8 := Aside0.mk (blk_below BK8.out hb)
          clear HB
          have HB := n_HB
          clear n_HB
          clear BK3
          have BK3 := n_BK3
          clear n_BK3
          clear BK4
          have BK4 := n_BK4
          clear n_BK4
          clear R5
          have R5 := n_R5
          clear n_R5
          clear BK8
          have BK8 := n_BK8
          clear n_BK8
          clear hb
          have R113 := m_R113
          clear m_R113
          clear ho
          obtain ⟨A113, c113, eo⟩ := Kd.R_slice R113.out
          subst eo
          refine hK.out _ _ ⟨(blk_cell BK3.out 0).trans rfl, (blk_cell BK3.out 1).trans rfl, (blk_cell BK3.out 2).trans rfl⟩ (fun hHeld => ?_)
          clear hK K
          refine norm_ (a' := ?_) ?_ ?_
          rotate_left
          · show Act.put _ (some 113) _ = _
            simp only [Act.put, List.setIfInBounds_toArray, List.set_cons_zero, List.set_cons_succ, i64_w, i32_w]
            rfl
          refine two_ (i := 3) (j := 7) (Ni := some 114) (Nj := some 10) #[true, true, true, true, false, false, false, false, false, false] #[true, true, true, false, false, false, false, true, false, false] rfl rfl rfl rfl (by kernel_rfl) (by decide) (by decide) (fun K hK => ?_) (fun K hK => ?_)
          · skip
            refine goes_ Try.func10 (by kernel_rfl) rfl #[.agg #[.int .i64 (lombardlaw16_AllowCloses.op l 1), .int .i64 (lombardlaw16_AllowCloses.op l 2), .int .i64 (lombardlaw16_AllowCloses.op l 3)], .slice A113 (ls.map cv).length c113] (by rfl) rfl rfl (by (try simp only [List.map_toArray, List.map_cons, List.map_nil]); first | done | rfl) ?_
            with_reducible refine (roll_eq sh.out _ _ _ (Kd.R_reads' R113.out).2.2 (Kd.R_reads' R113.out).2.1).mono ?_
            rintro e y12_ ⟨rfl, hb⟩
            refine ⟨_, rfl, ?_⟩
            have n_HB := Aside0.mk (below_step HB.out hb)
            have n_BK3 := Aside0.mk (blk_below BK3.out hb)
            have n_BK4 := Aside0.mk (blk_below BK4.out hb)
            have n_R5 := Aside0.mk (Kd.R_below R5.out hb)
            have n_BK8 := Aside0.mk (blk_below BK8.out hb)
            clear HB
            have HB := n_HB
            clear n_HB
            clear BK3
            have BK3 := n_BK3
            clear n_BK3
            clear BK4
            have BK4 := n_BK4
            clear n_BK4
            clear R5
            have R5 := n_R5
            clear n_R5
            clear BK8
            have BK8 := n_BK8
            clear n_BK8
            clear hb
            clear R113
            refine hK.out _ _ ⟨(blk_cell BK3.out 0).trans rfl, (blk_cell BK3.out 1).trans rfl, (blk_cell BK3.out 2).trans rfl⟩ (fun hHeld => ?_)
            clear hK K
            refine norm_ (a' := ?_) ?_ ?_
            rotate_left
            · show Act.put _ (some 114) _ = _
              simp only [Act.put, List.setIfInBounds_toArray, List.set_cons_zero, List.set_cons_succ, i64_w, i32_w]
              rfl
            refine pure_ (i := 4) (N := some 110) (v := ?_) (a' := ?_) #[true, true, true, true, true, false, false, false, false, false] rfl rfl (by kernel_rfl) (fun _ _ _ h => h) (Or.inl ⟨by rfl, ?_⟩) ?_ ?_
            rotate_left
            · intro w'
              go_simp
              with_reducible rfl
            rotate_left
            · simp only [Act.put, List.setIfInBounds_toArray, List.set_cons_zero, List.set_cons_succ, i64_w, i32_w]
              rfl
            refine pure_ (i := 5) (N := some 115) (v := ?_) (a' := ?_) #[true, true, true, true, true, true, false, false, false, false] rfl rfl (by kernel_rfl) (fun _ _ _ h => h) (Or.inl ⟨by rfl, ?_⟩) ?_ ?_
            rotate_left
            · intro w'
              go_simp
              with_reducible rfl
            rotate_left
            · simp only [Act.put, List.setIfInBounds_toArray, List.set_cons_zero, List.set_cons_succ, i64_w, i32_w]
              rfl
            refine pure_ (i := 6) (N := some 116) (v := ?_) (a' := ?_) #[true, true, true, true, true, true, true, false, false, false] rfl rfl (by kernel_rfl) (fun _ _ _ h => h) (Or.inl ⟨by rfl, ?_⟩) ?_ ?_
            rotate_left
            · intro w'
              go_simp
              with_reducible rfl
            rotate_left
            · simp only [Act.put, List.setIfInBounds_toArray, List.set_cons_zero, List.set_cons_succ, i64_w, i32_w]
              rfl
            refine one_ (i := 7) (N := some 10) #[true, true, true, true, true, true, true, true, false, false] rfl rfl (by kernel_rfl) (by decide) (fun K hK => ?_)
            refine box_step ?hg (N := 10) ?hd (cs := row18 Row6.z Row6.z Row6.z) (t := 27) ?hr ?_; (case hd => rfl); (case hg => rfl); (case hr => first | (go_simp; done) | (go_simp; rfl))
            intro g10 hg y13_ hbox hb
            have GE10 : g8 + 1 ≤ g10 := by have := blk_lt BK8.out; omega
            have m_ := Aside0.mk hbox
            have n_HB := Aside0.mk (below_step HB.out hb)
            have n_BK3 := Aside0.mk (blk_below BK3.out hb)
            have n_BK4 := Aside0.mk (blk_below BK4.out hb)
            have n_R5 := Aside0.mk (Kd.R_below R5.out hb)
            have n_BK8 := Aside0.mk (blk_below BK8.out hb)
            clear HB
            have HB := n_HB
            clear n_HB
            clear BK3
            have BK3 := n_BK3
            clear n_BK3
            clear BK4
            have BK4 := n_BK4
            clear n_BK4
            clear R5
            have R5 := n_R5
            clear n_R5
            clear BK8
            have BK8 := n_BK8
            clear n_BK8
            clear hb hbox hg
            have BKg10 := m_
            clear m_
            refine hK.out _ _ ⟨(blk_cell BK3.out 0).trans rfl, (blk_cell BK3.out 1).trans rfl, (blk_cell BK3.out 2).trans rfl⟩ (fun hHeld => ?_)
            clear hK K
            refine norm_ (a' := ?_) ?_ ?_
            rotate_left
            · show Act.put _ (some 10) _ = _
              simp only [Act.put, List.setIfInBounds_toArray, List.set_cons_zero, List.set_cons_succ, i64_w, i32_w]
              rfl
            exact norm_ (by simp only [putAll, Act.put, List.setIfInBounds_toArray, List.set_cons_zero, List.set_cons_succ]) (hCont (A113, c113, g10) _ ⟨(blk_cell BK3.out 0).trans rfl, (blk_cell BK3.out 1).trans rfl, (blk_cell BK3.out 2).trans rfl, BK3.out, BK4.out, BK8.out, BKg10.out, GE10, HB.out, R5.out⟩)
          · skip
            refine box_step ?hg (N := 10) ?hd (cs := row18 Row6.z Row6.z Row6.z) (t := 27) ?hr ?_; (case hd => rfl); (case hg => rfl); (case hr => first | (go_simp; done) | (go_simp; rfl))
            intro g10 hg y14_ hbox hb
            have GE10 : g8 + 1 ≤ g10 := by have := blk_lt BK8.out; omega
            have m_ := Aside0.mk hbox
            have n_HB := Aside0.mk (below_step HB.out hb)
            have n_BK3 := Aside0.mk (blk_below BK3.out hb)
            have n_BK4 := Aside0.mk (blk_below BK4.out hb)
            have n_R5 := Aside0.mk (Kd.R_below R5.out hb)
            have n_BK8 := Aside0.mk (blk_below BK8.out hb)
            have n_R113 := Aside0.mk (Kd.R_below R113.out hb)
            clear HB
            have HB := n_HB
            clear n_HB
            clear BK3
            have BK3 := n_BK3
            clear n_BK3
            clear BK4
            have BK4 := n_BK4
            clear n_BK4
            clear R5
            have R5 := n_R5
            clear n_R5
            clear BK8
            have BK8 := n_BK8
            clear n_BK8
            clear R113
            have R113 := n_R113
            clear n_R113
            clear hb hbox hg
            have BKg10 := m_
            clear m_
            refine hK.out _ _ ⟨(blk_cell BK3.out 0).trans rfl, (blk_cell BK3.out 1).trans rfl, (blk_cell BK3.out 2).trans rfl⟩ (fun hHeld => ?_)
            clear hK K
            refine norm_ (a' := ?_) ?_ ?_
            rotate_left
            · show Act.put _ (some 10) _ = _
              simp only [Act.put, List.setIfInBounds_toArray, List.set_cons_zero, List.set_cons_succ, i64_w, i32_w]
              rfl
            refine one_ (i := 3) (N := some 114) #[true, true, true, true, false, false, false, true, false, false] rfl rfl (by kernel_rfl) (by decide) (fun K hK => ?_)
            refine goes_ Try.func10 (by kernel_rfl) rfl #[.agg #[.int .i64 (lombardlaw16_AllowCloses.op l 1), .int .i64 (lombardlaw16_AllowCloses.op l 2), .int .i64 (lombardlaw16_AllowCloses.op l 3)], .slice A113 (ls.map cv).length c113] (by rfl) rfl rfl (by (try simp only [List.map_toArray, List.map_cons, List.map_nil]); first | done | rfl) ?_
            with_reducible refine (roll_eq sh.out _ _ _ (Kd.R_reads' R113.out).2.2 (Kd.R_reads' R113.out).2.1).mono ?_
            rintro e y15_ ⟨rfl, hb⟩
            refine ⟨_, rfl, ?_⟩
            have n_HB := Aside0.mk (below_step HB.out hb)
            have n_BK3 := Aside0.mk (blk_below BK3.out hb)
            have n_BK4 := Aside0.mk (blk_below BK4.out hb)
            have n_R5 := Aside0.mk (Kd.R_below R5.out hb)
            have n_BK8 := Aside0.mk (blk_below BK8.out hb)
            have n_BKg10 := Aside0.mk (blk_below BKg10.out hb)
            clear HB
            have HB := n_HB
            clear n_HB
            clear BK3
            have BK3 := n_BK3
            clear n_BK3
            clear BK4
            have BK4 := n_BK4
            clear n_BK4
            clear R5
            have R5 := n_R5
            clear n_R5
            clear BK8
            have BK8 := n_BK8
            clear n_BK8
            clear BKg10
            have BKg10 := n_BKg10
            clear n_BKg10
            clear hb
            clear R113
            refine hK.out _ _ ⟨(blk_cell BK3.out 0).trans rfl, (blk_cell BK3.out 1).trans rfl, (blk_cell BK3.out 2).trans rfl⟩ (fun hHeld => ?_)
            clear hK K
            refine norm_ (a' := ?_) ?_ ?_
            rotate_left
            · show Act.put _ (some 114) _ = _
              simp only [Act.put, List.setIfInBounds_toArray, List.set_cons_zero, List.set_cons_succ, i64_w, i32_w]
              rfl
            refine pure_ (i := 4) (N := some 110) (v := ?_) (a' := ?_) #[true, true, true, true, true, false, false, true, false, false] rfl rfl (by kernel_rfl) (fun _ _ _ h => h) (Or.inl ⟨by rfl, ?_⟩) ?_ ?_
            rotate_left
            · intro w'
              go_simp
              with_reducible rfl
            rotate_left
            · simp only [Act.put, List.setIfInBounds_toArray, List.set_cons_zero, List.set_cons_succ, i64_w, i32_w]
              rfl
            refine pure_ (i := 5) (N := some 115) (v := ?_) (a' := ?_) #[true, true, true, true, true, true, false, true, false, false] rfl rfl (by kernel_rfl) (fun _ _ _ h => h) (Or.inl ⟨by rfl, ?_⟩) ?_ ?_
            rotate_left
            · intro w'
              go_simp
              with_reducible rfl
            rotate_left
            · simp only [Act.put, List.setIfInBounds_toArray, List.set_cons_zero, List.set_cons_succ, i64_w, i32_w]
              rfl
            refine pure_ (i := 6) (N := some 116) (v := ?_) (a' := ?_) #[true, true, true, true, true, true, true, true, false, false] rfl rfl (by kernel_rfl) (fun _ _ _ h => h) (Or.inl ⟨by rfl, ?_⟩) ?_ ?_
            rotate_left
            · intro w'
              go_simp
              with_reducible rfl
            rotate_left
            · simp only [Act.put, List.setIfInBounds_toArray, List.set_cons_zero, List.set_cons_succ, i64_w, i32_w]
              rfl
            exact norm_ (by simp only [putAll, Act.put, List.setIfInBounds_toArray, List.set_cons_zero, List.set_cons_succ]) (hCont (A113, c113, g10) _ ⟨(blk_cell BK3.out 0).trans rfl, (blk_cell BK3.out 1).trans rfl, (blk_cell BK3.out 2).trans rfl, BK3.out, BK4.out, BK8.out, BKg10.out, GE10, HB.out, R5.out⟩)
        · skip
          refine box_step ?hg (N := 10) ?hd (cs := row18 Row6.z Row6.z Row6.z) (t := 27) ?hr ?_; (case hd => rfl); (case hg => rfl); (case hr => first | (go_simp; done) | (go_simp; rfl))
          intro g10 hg y16_ hbox hb
          have GE10 : g8 + 1 ≤ g10 := by have := blk_lt BK8.out; omega
          have m_ := Aside0.mk hbox
          have n_HB := Aside0.mk (below_step HB.out hb)
          have n_BK3 := Aside0.mk (blk_below BK3.out hb)
          have n_BK4 := Aside0.mk (blk_below BK4.out hb)
          have n_R5 := Aside0.mk (Kd.R_below R5.out hb)
          have n_BK8 := Aside0.mk (blk_below BK8.out hb)
          clear HB
          have HB := n_HB
          clear n_HB
          clear BK3
          have BK3 := n_BK3
          clear n_BK3
          clear BK4
          have BK4 := n_BK4
          clear n_BK4
          clear R5
          have R5 := n_R5
          clear n_R5
          clear BK8
          have BK8 := n_BK8
          clear n_BK8
          clear hb hbox hg
          have BKg10 := m_
          clear m_
          refine hK.out _ _ ⟨(blk_cell BK3.out 0).trans rfl, (blk_cell BK3.out 1).trans rfl, (blk_cell BK3.out 2).trans rfl⟩ (fun hHeld => ?_)
          clear hK K
          refine norm_ (a' := ?_) ?_ ?_
          rotate_left
          · show Act.put _ (some 10) _ = _
            simp only [Act.put, List.setIfInBounds_toArray, List.set_cons_zero, List.set_cons_succ, i64_w, i32_w]
            rfl
          refine one_ (i := 2) (N := some 113) #[true, true, true, false, false, false, false, true, false, false] rfl rfl (by kernel_rfl) (by decide) (fun K hK => ?_)
          refine goes_ Try.func11 (by kernel_rfl) rfl #[.slice (A5) (ls).length (c5)] (by rfl) rfl rfl (by (try simp only [List.map_toArray, List.map_cons, List.map_nil]); first | done | rfl) ?_
          with_reducible refine (to_pl (A5) (c5) (ls) _ ((Kd.R_reads' R5.out).2.2) (Kd.R_reads' R5.out).2.1 (by have := HLL.out; omega)).mono ?_
          rintro e y17_ ⟨v_, rfl, ho, hb⟩
          refine ⟨_, rfl, ?_⟩
          have m_R113 := Aside0.mk (Kd.R_lower ho (below_size HB.out))
          have n_HB := Aside0.mk (below_step HB.out hb)
          have n_BK3 := Aside0.mk (blk_below BK3.out hb)
          have n_BK4 := Aside0.mk (blk_below BK4.out hb)
          have n_R5 := Aside0.mk (Kd.R_below R5.out hb)
          have n_BK8 := Aside0.mk (blk_below BK8.out hb)
          have n_BKg10 := Aside0.mk (blk_below BKg10.out hb)
          clear HB
          have HB := n_HB
          clear n_HB
          clear BK3
          have BK3 := n_BK3
          clear n_BK3
          clear BK4
          have BK4 := n_BK4
          clear n_BK4
          clear R5
          have R5 := n_R5
          clear n_R5
          clear BK8
          have BK8 := n_BK8
          clear n_BK8
          clear BKg10
          have BKg10 := n_BKg10
          clear n_BKg10
          clear hb
          have R113 := m_R113
          clear m_R113
          clear ho
          obtain ⟨A113, c113, eo⟩ := Kd.R_slice R113.out
          subst eo
          refine hK.out _ _ ⟨(blk_cell BK3.out 0).trans rfl, (blk_cell BK3.out 1).trans rfl, (blk_cell BK3.out 2).trans rfl⟩ (fun hHeld => ?_)
          clear hK K
          refine norm_ (a' := ?_) ?_ ?_
          rotate_left
          · show Act.put _ (some 113) _ = _
            simp only [Act.put, List.setIfInBounds_toArray, List.set_cons_zero, List.set_cons_succ, i64_w, i32_w]
            rfl
          refine one_ (i := 3) (N := some 114) #[true, true, true, true, false, false, false, true, false, false] rfl rfl (by kernel_rfl) (by decide) (fun K hK => ?_)
          refine goes_ Try.func10 (by kernel_rfl) rfl #[.agg #[.int .i64 (lombardlaw16_AllowCloses.op l 1), .int .i64 (lombardlaw16_AllowCloses.op l 2), .int .i64 (lombardlaw16_AllowCloses.op l 3)], .slice A113 (ls.map cv).length c113] (by rfl) rfl rfl (by (try simp only [List.map_toArray, List.map_cons, List.map_nil]); first | done | rfl) ?_
          with_reducible refine (roll_eq sh.out _ _ _ (Kd.R_reads' R113.out).2.2 (Kd.R_reads' R113.out).2.1).mono ?_
          rintro e y18_ ⟨rfl, hb⟩
          refine ⟨_, rfl, ?_⟩
          have n_HB := Aside0.mk (below_step HB.out hb)
          have n_BK3 := Aside0.mk (blk_below BK3.out hb)
          have n_BK4 := Aside0.mk (blk_below BK4.out hb)
          have n_R5 := Aside0.mk (Kd.R_below R5.out hb)
          have n_BK8 := Aside0.mk (blk_below BK8.out hb)
          have n_BKg10 := Aside0.mk (blk_below BKg10.out hb)
          clear HB
          have HB := n_HB
          clear n_HB
          clear BK3
          have BK3 := n_BK3
          clear n_BK3
          clear BK4
          have BK4 := n_BK4
          clear n_BK4
          clear R5
          have R5 := n_R5
          clear n_R5
          clear BK8
          have BK8 := n_BK8
          clear n_BK8
          clear BKg10
          have BKg10 := n_BKg10
          clear n_BKg10
          clear hb
          clear R113
          refine hK.out _ _ ⟨(blk_cell BK3.out 0).trans rfl, (blk_cell BK3.out 1).trans rfl, (blk_cell BK3.out 2).trans rfl⟩ (fun hHeld => ?_)
          clear hK K
          refine norm_ (a' := ?_) ?_ ?_
          rotate_left
          · show Act.put _ (some 114) _ = _
            simp only [Act.put, List.setIfInBounds_toArray, List.set_cons_zero, List.set_cons_succ, i64_w, i32_w]
            rfl
          refine pure_ (i := 4) (N := some 110) (v := ?_) (a' := ?_) #[true, true, true, true, true, false, false, true, false, false] rfl rfl (by kernel_rfl) (fun _ _ _ h => h) (Or.inl ⟨by rfl, ?_⟩) ?_ ?_
          rotate_left
          · intro w'
            go_simp
            with_reducible rfl
          rotate_left
          · simp only [Act.put, List.setIfInBounds_toArray, List.set_cons_zero, List.set_cons_succ, i64_w, i32_w]
            rfl
          refine pure_ (i := 5) (N := some 115) (v := ?_) (a' := ?_) #[true, true, true, true, true, true, false, true, false, false] rfl rfl (by kernel_rfl) (fun _ _ _ h => h) (Or.inl ⟨by rfl, ?_⟩) ?_ ?_
          rotate_left
          · intro w'
            go_simp
            with_reducible rfl
          rotate_left
          · simp only [Act.put, List.setIfInBounds_toArray, List.set_cons_zero, List.set_cons_succ, i64_w, i32_w]
            rfl
          refine pure_ (i := 6) (N := some 116) (v := ?_) (a' := ?_) #[true, true, true, true, true, true, true, true, false, false] rfl rfl (by kernel_rfl) (fun _ _ _ h => h) (Or.inl ⟨by rfl, ?_⟩) ?_ ?_
          rotate_left
          · intro w'
            go_simp
            with_reducible rfl
          rotate_left
          · simp only [Act.put, List.setIfInBounds_toArray, List.set_cons_zero, List.set_cons_succ, i64_w, i32_w]
            rfl
          exact norm_ (by simp only [putAll, Act.put, List.setIfInBounds_toArray, List.set_cons_zero, List.set_cons_succ]) (hCont (A113, c113, g10) _ ⟨(blk_cell BK3.out 0).trans rfl, (blk_cell BK3.out 1).trans rfl, (blk_cell BK3.out 2).trans rfl, BK3.out, BK4.out, BK8.out, BKg10.out, GE10, HB.out, R5.out⟩)
      clear hHeld HB BK3 BK4 R5 BK8
      rintro ⟨A113, c113, g10⟩ y10_ ⟨hS0_, hS1_, hS2_, h_BK3, h_BK4, h_BK8, h_BKg10, h_GE10, h_HB, h_R5⟩
      have BK3 : Aside0 (y10_.heap[g3]? = some (.cells #[.int .i64 (lombardlaw16_AllowCloses.op l 1), .int .i64 (lombardlaw16_AllowCloses.op l 2), .int .i64 (lombardlaw16_AllowCloses.op l 3)] 22 (0, 0))) := Aside0.mk (h_BK3)
      clear h_BK3
      have BK4 : Aside0 (y10_.heap[g4]? = some (.cells #[.int .i64 (lombardlaw16_AllowCloses.wt l 1), .int .i64 (lombardlaw16_AllowCloses.wt l 2), .int .i64 (lombardlaw16_AllowCloses.wt l 3)] 22 (0, 0))) := Aside0.mk (h_BK4)
      clear h_BK4
      have BK8 : Aside0 (y10_.heap[g8]? = some (.cells (row18 ra rb rc) 27 (0, 0))) := Aside0.mk (h_BK8)
      clear h_BK8
      have BKg10 : Aside0 (y10_.heap[g10]? = some (.cells (row18 Row6.z Row6.z Row6.z) 27 (0, 0))) := Aside0.mk (h_BKg10)
      clear h_BKg10
      have GE10 : g8 + 1 ≤ g10 := h_GE10
      clear h_GE10
      have HB : Aside0 (Below w.heap.size w y10_) := Aside0.mk (h_HB)
      clear h_HB
      have R5 : Aside0 (Kd.R k40 40 y10_ w.heap.size (fun _ => True) (.slice A5 ls.length c5) (ls)) := Aside0.mk (h_R5)
      clear h_R5
      have hHeld : y10_.cell? ⟨g3, 0, none⟩ = some (.int .i64 (lombardlaw16_AllowCloses.op l 1)) ∧ y10_.cell? ⟨g3, 1, none⟩ = some (.int .i64 (lombardlaw16_AllowCloses.op l 2)) ∧ y10_.cell? ⟨g3, 2, none⟩ = some (.int .i64 (lombardlaw16_AllowCloses.op l 3)) := ⟨hS0_, hS1_, hS2_⟩
      clear hS0_ hS1_ hS2_
      refine norm_ (a' := ?_) ?_ ?_
      rotate_left
      · simp only [putAll, Act.put, List.setIfInBounds_toArray, List.set_cons_zero, List.set_cons_succ]
        rfl
      refine last_ (i := 8) (N := none) #[true, true, true, true, true, true, true, true, true, false] rfl rfl (by kernel_rfl) (by decide) (fun K hK => ?_)
      refine skip_ (w1 := y10_.setRow g10 (row18 sa sb sc)) (by rfl) rfl (store_run 27 (.tmp 10) (.tmp 115) rfl g10 _ rfl rfl 27 _ BKg10.out (by kernel_rfl) rfl (row18_all _ _ _)) ?_
      have n_HB := Aside0.mk (row_below (g := g10) HB.out (by omega) (row18 sa sb sc))
      have n_BK3 := Aside0.mk ((setRow_other y10_ g10 g3 (row18 sa sb sc) (by omega)).trans BK3.out)
      have n_BK4 := Aside0.mk ((setRow_other y10_ g10 g4 (row18 sa sb sc) (by omega)).trans BK4.out)
      have n_BK8 := Aside0.mk ((setRow_other y10_ g10 g8 (row18 sa sb sc) (by omega)).trans BK8.out)
      have n_BK10 := Aside0.mk (setRow_heap _ _ _ (row18 sa sb sc) _ _ BKg10.out)
      clear BK3 BK4 BK8 BKg10 HB R5
      generalize y10_.setRow g10 (row18 sa sb sc) = y10 at n_HB n_BK3 n_BK4 n_BK8 n_BK10 ⊢
      have HB := n_HB
      clear n_HB
      have BK3 := n_BK3
      clear n_BK3
      have BK4 := n_BK4
      clear n_BK4
      have BK8 := n_BK8
      clear n_BK8
      have BK10 := n_BK10
      clear n_BK10
      refine hK.out _ _ ?_
      clear hK K
      refine pure_ (i := 9) (N := some 11) (v := ?_) (a' := ?_) #[true, true, true, true, true, true, true, true, true, true] rfl rfl (by kernel_rfl) (fun _ _ _ h => h) (Or.inl ⟨by rfl, ?_⟩) ?_ ?_
      rotate_left
      · intro w'
        go_simp
        with_reducible rfl
      rotate_left
      · simp only [Act.put, List.setIfInBounds_toArray, List.set_cons_zero, List.set_cons_succ, i64_w, i32_w]
        rfl
      refine done_ (by kernel_rfl) ?_
      clear hHeld
      obtain ⟨hre, hse, hra, hrb, hrc, hsa, hsb, hsc⟩ := HF.out
      subst hre hse
      have H0 := Aside0.mk hra
      have H1 := Aside0.mk hrb
      have H2 := Aside0.mk hrc
      rw [hsa, hsb, hsc] at BK10
      clear hra hrb hrc hsa hsb hsc
      have heq0 : ∀ d W x, (Op.equalIn (d + 2) 26 (.agg #[.int .i64 x, .int .i64 0, .int .i64 0, .int .i64 0, .int .i64 0, .int .i64 x]) (.agg #[.int .i64 x, .int .i64 0, .int .i64 0, .int .i64 0, .int .i64 0, .int .i64 x])).run Try.prog W = .ok true W := fun d W x => by rw [eqA26]; simp
      have HEQ := Aside0.mk heq0
      clear heq0
      go_wp2_with fail
      refine wp_loop_rounds 4 ?_
      rw [rounds_succ]
      go_wp2_with fail
      have k8 : y10.cell? ⟨g8, 5, none⟩ = some (.int .i64 (lombardlaw16_AllowCloses.wt l 1)) := (blk_cell BK8.out 5).trans (by rw [← H0.out]; rfl)
      have k4 : y10.cell? ⟨g4, 0, none⟩ = some (.int .i64 (lombardlaw16_AllowCloses.wt l 1)) := blk_cell BK4.out 0
      have k3 : y10.cell? ⟨g3, 0, none⟩ = some (.int .i64 (lombardlaw16_AllowCloses.op l 1)) := blk_cell BK3.out 0
      have kb0 : y10.cell? ⟨g10, 0, none⟩ = some (.int .i64 (lombardlaw16_AllowCloses.op l 1)) := blk_cell BK10.out 0
      have kb1 : y10.cell? ⟨g10, 1, none⟩ = some (.int .i64 0) := blk_cell BK10.out 1
      have kb2 : y10.cell? ⟨g10, 2, none⟩ = some (.int .i64 0) := blk_cell BK10.out 2
      have kb3 : y10.cell? ⟨g10, 3, none⟩ = some (.int .i64 0) := blk_cell BK10.out 3
      have kb4 : y10.cell? ⟨g10, 4, none⟩ = some (.int .i64 0) := blk_cell BK10.out 4
      have kb5 : y10.cell? ⟨g10, 5, none⟩ = some (.int .i64 (lombardlaw16_AllowCloses.op l 1)) := blk_cell BK10.out 5
      have heq := fun d W => HEQ.out d W (lombardlaw16_AllowCloses.op l 1)
      go_wp2_with fail
      go_quiet (fail)
      have n_HB := Aside0.mk (pw_below_drewN HB.out nq)
      have n_BK3 := Aside0.mk (blk_drewN BK3.out nq)
      have n_BK4 := Aside0.mk (blk_drewN BK4.out nq)
      have n_BK8 := Aside0.mk (blk_drewN BK8.out nq)
      have n_BK10 := Aside0.mk (blk_drewN BK10.out nq)
      clear HB BK3 BK4 BK8 BK10 heq k8 k4 k3 kb0 kb1 kb2 kb3 kb4 kb5
      generalize y10.drewN nq = y11 at n_HB n_BK3 n_BK4 n_BK8 n_BK10 ⊢
      have HB := n_HB
      have BK3 := n_BK3
      have BK4 := n_BK4
      have BK8 := n_BK8
      have BK10 := n_BK10
      clear n_HB n_BK3 n_BK4 n_BK8 n_BK10 nq
      go_wp2_with fail
      rw [rounds_succ]
      go_wp2_with fail
      have k8 : y11.cell? ⟨g8, 11, none⟩ = some (.int .i64 (lombardlaw16_AllowCloses.wt l 2)) := (blk_cell BK8.out 11).trans (by rw [← H1.out]; rfl)
      have k4 : y11.cell? ⟨g4, 1, none⟩ = some (.int .i64 (lombardlaw16_AllowCloses.wt l 2)) := blk_cell BK4.out 1
      have k3 : y11.cell? ⟨g3, 1, none⟩ = some (.int .i64 (lombardlaw16_AllowCloses.op l 2)) := blk_cell BK3.out 1
      have kb0 : y11.cell? ⟨g10, 6, none⟩ = some (.int .i64 (lombardlaw16_AllowCloses.op l 2)) := blk_cell BK10.out 6
      have kb1 : y11.cell? ⟨g10, 7, none⟩ = some (.int .i64 0) := blk_cell BK10.out 7
      have kb2 : y11.cell? ⟨g10, 8, none⟩ = some (.int .i64 0) := blk_cell BK10.out 8
      have kb3 : y11.cell? ⟨g10, 9, none⟩ = some (.int .i64 0) := blk_cell BK10.out 9
      have kb4 : y11.cell? ⟨g10, 10, none⟩ = some (.int .i64 0) := blk_cell BK10.out 10
      have kb5 : y11.cell? ⟨g10, 11, none⟩ = some (.int .i64 (lombardlaw16_AllowCloses.op l 2)) := blk_cell BK10.out 11
      have heq := fun d W => HEQ.out d W (lombardlaw16_AllowCloses.op l 2)
      go_wp2_with fail
      go_quiet (fail)
      have n_HB := Aside0.mk (pw_below_drewN HB.out nq)
      have n_BK3 := Aside0.mk (blk_drewN BK3.out nq)
      have n_BK4 := Aside0.mk (blk_drewN BK4.out nq)
      have n_BK8 := Aside0.mk (blk_drewN BK8.out nq)
      have n_BK10 := Aside0.mk (blk_drewN BK10.out nq)
      clear HB BK3 BK4 BK8 BK10 heq k8 k4 k3 kb0 kb1 kb2 kb3 kb4 kb5
      generalize y11.drewN nq = y12 at n_HB n_BK3 n_BK4 n_BK8 n_BK10 ⊢
      have HB := n_HB
      have BK3 := n_BK3
      have BK4 := n_BK4
      have BK8 := n_BK8
      have BK10 := n_BK10
      clear n_HB n_BK3 n_BK4 n_BK8 n_BK10 nq
      go_wp2_with fail
      rw [rounds_succ]
      go_wp2_with fail
      have k8 : y12.cell? ⟨g8, 17, none⟩ = some (.int .i64 (lombardlaw16_AllowCloses.wt l 3)) := (blk_cell BK8.out 17).trans (by rw [← H2.out]; rfl)
      have k4 : y12.cell? ⟨g4, 2, none⟩ = some (.int .i64 (lombardlaw16_AllowCloses.wt l 3)) := blk_cell BK4.out 2
      have k3 : y12.cell? ⟨g3, 2, none⟩ = some (.int .i64 (lombardlaw16_AllowCloses.op l 3)) := blk_cell BK3.out 2
      have kb0 : y12.cell? ⟨g10, 12, none⟩ = some (.int .i64 (lombardlaw16_AllowCloses.op l 3)) := blk_cell BK10.out 12
      have kb1 : y12.cell? ⟨g10, 13, none⟩ = some (.int .i64 0) := blk_cell BK10.out 13
      have kb2 : y12.cell? ⟨g10, 14, none⟩ = some (.int .i64 0) := blk_cell BK10.out 14
      have kb3 : y12.cell? ⟨g10, 15, none⟩ = some (.int .i64 0) := blk_cell BK10.out 15
      have kb4 : y12.cell? ⟨g10, 16, none⟩ = some (.int .i64 0) := blk_cell BK10.out 16
      have kb5 : y12.cell? ⟨g10, 17, none⟩ = some (.int .i64 (lombardlaw16_AllowCloses.op l 3)) := blk_cell BK10.out 17
      have heq := fun d W => HEQ.out d W (lombardlaw16_AllowCloses.op l 3)
      go_wp2_with fail
      go_quiet (fail)
      have n_HB := Aside0.mk (pw_below_drewN HB.out nq)
      have n_BK3 := Aside0.mk (blk_drewN BK3.out nq)
      have n_BK4 := Aside0.mk (blk_drewN BK4.out nq)
      have n_BK8 := Aside0.mk (blk_drewN BK8.out nq)
      have n_BK10 := Aside0.mk (blk_drewN BK10.out nq)
      clear HB BK3 BK4 BK8 BK10 heq k8 k4 k3 kb0 kb1 kb2 kb3 kb4 kb5
      generalize y12.drewN nq = y13 at n_HB n_BK3 n_BK4 n_BK8 n_BK10 ⊢
      have HB := n_HB
      have BK3 := n_BK3
      have BK4 := n_BK4
      have BK8 := n_BK8
      have BK10 := n_BK10
      clear n_HB n_BK3 n_BK4 n_BK8 n_BK10 nq
      go_wp2_with fail
      rw [rounds_succ]
      go_wp2_with fail
      go_ret
      exact ⟨rfl, HB.out⟩
set_option maxHeartbeats 8000000 in
set_option maxRecDepth 100000 in
theorem lombardlaw16_AllowCloses.big (A : Option Addr) (c : Nat) (l : List S40) (w : World) (hl : 300 < l.length) :
    Calls Try.prog 4 #[.slice A l.length c] w fun e w' => e = .returned (.bool true) ∧ Below w.heap.size w w' := by
  have hb0 : decide (300 < (l.length : Int)) = true := decide_eq_true (by omega)
  clear hl
  go_enter Try.func4, Try.ntmps4
  go_wp2_with fail
  with_reducible refine (lombardlaw16_alive.calls true _ rfl).mono ?_
  rintro e w1 ⟨rfl, hb⟩
  have HB := Aside0.mk hb
  clear hb
  go_wp2_with fail
  go_ret
  exact ⟨rfl, HB.out⟩
theorem lombardlaw16_AllowCloses.calls (A0 : Option Addr) (c0 : Nat) (l0 : List (S40)) (r : Bool) (w : World) (hr0 : Kd.C k40 w A0 l0.length l0) (hc0 : l0.length ≤ c0) (h : lombardlaw16_AllowCloses.f l0 = some r) :
    Calls Try.prog 4 #[.slice A0 l0.length c0] w fun e w' => e = .returned (.bool r) ∧ Below w.heap.size w w' := by
  obtain rfl := Option.some.inj h
  by_cases hl : 300 < l0.length
  · exact lombardlaw16_AllowCloses.big A0 c0 l0 w hl
  · exact lombardlaw16_AllowCloses.walk A0 c0 l0 w hr0 hc0 (by omega)


end Go.Proofs.Ytgeeffnokedllaa.Print
