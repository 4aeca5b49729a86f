-- written by this session's program wip/hybrid.py over the kit's printer, and by hand. Not trusted: Lean checks it.
import Derived.Test.YtpcllhhbaockfaaPrint0
import Derived.Test.YtpcllhhbaockfaaPrint1
import Derived.Test.YtpcllhhbaockfaaPrint6
import Derived.Test.YtpcllhhbaockfaaPrint8
import Derived.Test.YtpcllhhbaockfaaPrint9
import Derived.Test.YtpcllhhbaockfaaPrint12
import Derived.Test.YtpcllhhbaockfaaPrint13
import Derived.Test.YtpcllhhbaockfaaPrint14
import Derived.Test.YtpcllhhbaockfaaPrint16
import Derived.Test.YtpcllhhbaockfaaPrint18
import Derived.Test.YtpcllhhbaockfaaPrint20
import Derived.Test.YtpcllhhbaockfaaPrint21
import Derived.Test.YtpcllhhbaockfaaPrint22
import Derived.Test.YtpcllhhbaockfaaPrint23
import Derived.Test.YtpcllhhbaockfaaPrint24
namespace Go.Proofs.Ytpcllhhbaockfaa.Print
open Go.RowKit Go.Proofs.YtpcllhhbaockfaaW.PrintWords Go.Proofs.YtpcllhhbaockfaaW.PrintLast Go.Proofs.YtpcllhhbaockfaaW.PrintMore
attribute [local go_sem] max2_int min2_int max_two min_two max_three min_three max_four min_four   -- for this text's walks alone
set_option linter.unusedVariables false
set_option linter.unusedSimpArgs false

/-! ### close_New: function 7 -/
/-- All of it. -/
def cx_tot (amt : S64 → Int) : List S64 → Int
  | [] => 0
  | x :: t => cx_tot amt t + amt x
theorem cx_bd (key amt : S64 → Int) (lo hi : Int) (hlo : lo ≤ 0) (hhi : 0 ≤ hi) (l : List S64) (k : Int) (h : ∀ x ∈ l, lo ≤ amt x ∧ amt x ≤ hi) :
    lo * (l.length : Int) ≤ allow_Change.sums key amt l k ∧ allow_Change.sums key amt l k ≤ hi * (l.length : Int) := by
  induction l with
  | nil => simp [allow_Change.sums]
  | cons x t ih =>
    have h1 := h x List.mem_cons_self
    have h2 := ih (fun y hy => h y (List.mem_cons_of_mem _ hy))
    have e1 : lo * ((t.length + 1 : Nat) : Int) = lo * (t.length : Int) + lo := by rw [Int.natCast_add, Int.mul_add]; simp
    have e2 : hi * ((t.length + 1 : Nat) : Int) = hi * (t.length : Int) + hi := by rw [Int.natCast_add, Int.mul_add]; simp
    simp only [allow_Change.sums, List.length_cons]
    rw [e1, e2]
    split <;> omega
theorem cx_tbd (amt : S64 → Int) (lo hi : Int) (l : List S64) (h : ∀ x ∈ l, lo ≤ amt x ∧ amt x ≤ hi) :
    lo * (l.length : Int) ≤ cx_tot amt l ∧ cx_tot amt l ≤ hi * (l.length : Int) := by
  induction l with
  | nil => simp [cx_tot]
  | cons x t ih =>
    have h1 := h x List.mem_cons_self
    have h2 := ih (fun y hy => h y (List.mem_cons_of_mem _ hy))
    have e1 : lo * ((t.length + 1 : Nat) : Int) = lo * (t.length : Int) + lo := by rw [Int.natCast_add, Int.mul_add]; simp
    have e2 : hi * ((t.length + 1 : Nat) : Int) = hi * (t.length : Int) + hi := by rw [Int.natCast_add, Int.mul_add]; simp
    simp only [cx_tot, List.length_cons]
    rw [e1, e2]
    omega
theorem cx_three (key amt : S64 → Int) (l : List S64) (h : ∀ x ∈ l, 1 ≤ key x ∧ key x ≤ 3) : allow_Change.sums key amt l 1 + allow_Change.sums key amt l 2 + allow_Change.sums key amt l 3 = cx_tot amt l := by
  induction l with
  | nil => simp [allow_Change.sums, cx_tot]
  | cons x t ih =>
    have h1 := h x List.mem_cons_self
    have h2 := ih (fun y hy => h y (List.mem_cons_of_mem _ hy))
    simp only [allow_Change.sums, cx_tot]
    rcases (show key x = 1 ∨ key x = 2 ∨ key x = 3 by omega) with e | e | e <;> simp [e] <;> omega
theorem cx_app (key amt : S64 → Int) (a b : List S64) (k : Int) : allow_Change.sums key amt (a ++ b) k = allow_Change.sums key amt a k + allow_Change.sums key amt b k := by
  induction a with
  | nil => simp [allow_Change.sums]
  | cons x t ih => simp only [List.cons_append, allow_Change.sums, ih]; omega
theorem cx_mv {x : S64} (h : allow_Change.ok x) : 0 ≤ allow_Change.moved x ∧ allow_Change.moved x ≤ 562949953421312 := by
  unfold allow_Change.ok at h
  unfold allow_Change.moved; split <;> omega
theorem cx_n {x : S64} (h : allow_Change.ok x) : -562949953421312 ≤ allow_Change.amt24 x ∧ allow_Change.amt24 x ≤ 1125899906842624 := by
  unfold allow_Change.ok at h
  unfold allow_Change.amt24; omega
theorem cx_w {x : S64} (h : allow_Change.ok x) : 0 ≤ allow_Change.amt25 x ∧ allow_Change.amt25 x ≤ 562949953421312 := by
  unfold allow_Change.ok at h
  unfold allow_Change.amt25; omega
/-- What Roll says where it says no error. -/
theorem cx_gok {o0 o1 o2 : Int} {l : List S64} {a b c : Row6} (h : allow_Roll.g o0 o1 o2 l = (a, b, c, 0)) : l.length ≤ 4096 ∧ (∀ x ∈ l, allow_Change.ok x) ∧ allow_Roll.okO o0 o1 o2 ∧ a = allow_Roll.row l o0 1 ∧ b = allow_Roll.row l o1 2 ∧ c = allow_Roll.row l o2 3 := by
  unfold allow_Roll.g at h
  split at h
  · simp at h
  · rename_i hz
    split at h
    · simp at h
    · rename_i hx
      split at h
      · simp at h
      · rename_i hy
        simp only [Prod.mk.injEq] at h
        exact ⟨by omega, by simpa using hx, by simpa using hy, h.1.symm, h.2.1.symm, h.2.2.1.symm⟩
def cx_I (l : List S64) (k : Int) : Int := allow_Change.sums allow_Change.key21 allow_Change.amt21 l k
def cx_U (l : List S64) (k : Int) : Int := allow_Change.sums allow_Change.key23 allow_Change.amt23 l k
def cx_N (l : List S64) (k : Int) : Int := allow_Change.sums allow_Change.key24 allow_Change.amt24 l k
def cx_V (l : List S64) (k : Int) : Int := allow_Change.sums allow_Change.key25 allow_Change.amt25 l k
/-- A row's bounds. -/
structure cx_R (r : Row6) : Prop where
  o : 0 ≤ r.o ∧ r.o ≤ 1152921504606846976
  i : 0 ≤ r.i ∧ r.i ≤ 2305843009213693952
  u : 0 ≤ r.u ∧ r.u ≤ 2305843009213693952
  n : -2305843009213693952 ≤ r.n ∧ r.n ≤ 4611686018427387904
  w : 0 ≤ r.w ∧ r.w ≤ 2305843009213693952
  c : r.c = r.o + r.i + r.n - r.u - r.w
theorem cx_close (o i u n w c : Int) (ho : 0 ≤ o ∧ o ≤ 1152921504606846976) (hi : 0 ≤ i ∧ i ≤ 2305843009213693952) (hu : 0 ≤ u ∧ u ≤ 2305843009213693952) (hn : -2305843009213693952 ≤ n ∧ n ≤ 4611686018427387904) (hw : 0 ≤ w ∧ w ≤ 2305843009213693952) : allow_Row_close.f o i u n w c = some (o + i + n - u - w, 0) := by
  unfold allow_Row_close.f
  rw [add_ok o i (by omega)]
  simp only [Option.bind_some, if_true]
  rw [add_ok (o + i) n (by omega)]
  simp only [Option.bind_some, if_true]
  rw [sub_ok (o + i + n) u (by omega)]
  simp only [Option.bind_some, if_true]
  rw [sub_ok (o + i + n - u) w (by omega)]
  simp only [Option.bind_some, if_true]
theorem cx_row (l : List S64) (o k : Int) (h : ∀ x ∈ l, allow_Change.ok x) (hl : l.length ≤ 4096) (ho : 0 ≤ o ∧ o ≤ 1152921504606846976) : cx_R (allow_Roll.row l o k) ∧ allow_Roll.row l o k = ⟨o, cx_I l k, cx_U l k, cx_N l k, cx_V l k, o + cx_I l k + cx_N l k - cx_U l k - cx_V l k⟩ := by
  have h1 := cx_bd allow_Change.key21 allow_Change.amt21 0 562949953421312 (by decide) (by decide) l k (fun x hx => cx_mv (h x hx))
  have h2 := cx_bd allow_Change.key23 allow_Change.amt23 0 562949953421312 (by decide) (by decide) l k (fun x hx => cx_mv (h x hx))
  have h3 := cx_bd allow_Change.key24 allow_Change.amt24 (-562949953421312) 1125899906842624 (by decide) (by decide) l k (fun x hx => cx_n (h x hx))
  have h4 := cx_bd allow_Change.key25 allow_Change.amt25 0 562949953421312 (by decide) (by decide) l k (fun x hx => cx_w (h x hx))
  have hl' : (l.length : Int) ≤ 4096 := by omega
  have e : allow_Roll.row l o k = ⟨o, cx_I l k, cx_U l k, cx_N l k, cx_V l k, ((allow_Row_close.f o (cx_I l k) (cx_U l k) (cx_N l k) (cx_V l k) 0).getD (0, 0)).1⟩ := rfl
  change _ ≤ cx_I l k ∧ cx_I l k ≤ _ at h1
  change _ ≤ cx_U l k ∧ cx_U l k ≤ _ at h2
  change _ ≤ cx_N l k ∧ cx_N l k ≤ _ at h3
  change _ ≤ cx_V l k ∧ cx_V l k ≤ _ at h4
  rw [e]
  generalize cx_I l k = I at *
  generalize cx_U l k = U at *
  generalize cx_N l k = N at *
  generalize cx_V l k = V at *
  rw [cx_close o I U N V 0 ho (by omega) (by omega) (by omega) (by omega)]
  exact ⟨⟨ho, by simp only; omega, by simp only; omega, by simp only; omega, by simp only; omega, rfl⟩, rfl⟩
theorem cx_ties {r : Row6} (h : cx_R r) : allow_Ties.f r.o r.i r.u r.n r.w r.c = some true := by
  unfold allow_Ties.f
  rw [cx_close r.o r.i r.u r.n r.w _ h.o h.i h.u h.n h.w, h.c]
  simp
theorem cx_inr {r : Row6} (h : cx_R r) (hc : in0 r.c) : r.inr := by
  obtain ⟨h1, h2, h3, h4, h5, h6⟩ := h
  unfold in0 at hc
  unfold Row6.inr inr64
  omega
/-- A closer's open period. -/
structure InvX (x : Rep) (ch : List S64) : Prop where
  o : inM x.o
  a : inM x.a
  i : inM x.i
  e : inM x.e
  r : inM x.r
  w : inM x.w
  c : inM x.c
  eq : x.c = x.o + x.a + x.i + x.e - x.r - x.w
  rl : allow_Roll.g x.s0.o x.s1.o x.s2.o ch = (x.s0, x.s1, x.s2, 0)
  c0 : in0 x.s0.c
  c1 : in0 x.s1.c
  c2 : in0 x.s2.c
theorem InvX.rows {x : Rep} {ch : List S64} (h : InvX x ch) : cx_R x.s0 ∧ cx_R x.s1 ∧ cx_R x.s2 := by
  obtain ⟨hl, hok, hO, e0, e1, e2⟩ := cx_gok h.rl
  unfold allow_Roll.okO at hO
  have r0 := (cx_row ch x.s0.o 1 hok hl ⟨hO.1, hO.2.1⟩).1
  have r1 := (cx_row ch x.s1.o 2 hok hl ⟨hO.2.2.1, hO.2.2.2.1⟩).1
  have r2 := (cx_row ch x.s2.o 3 hok hl ⟨hO.2.2.2.2.1, hO.2.2.2.2.2⟩).1
  rw [← e0] at r0
  rw [← e1] at r1
  rw [← e2] at r2
  exact ⟨r0, r1, r2⟩
theorem InvX.len {x : Rep} {ch : List S64} (h : InvX x ch) : ch.length ≤ 4096 := (cx_gok h.rl).1
theorem InvX.good {x : Rep} {ch : List S64} (h : InvX x ch) : Good x := by
  obtain ⟨r0, r1, r2⟩ := h.rows
  obtain ⟨hl, hok, hO, e0, e1, e2⟩ := cx_gok h.rl
  have hl' : (ch.length : Int) ≤ 4096 := by omega
  have b1 := cx_tbd allow_Change.amt21 0 562949953421312 ch (fun x hx => cx_mv (hok x hx))
  have b3 := cx_tbd allow_Change.amt24 (-562949953421312) 1125899906842624 ch (fun x hx => cx_n (hok x hx))
  have b4 := cx_tbd allow_Change.amt25 0 562949953421312 ch (fun x hx => cx_w (hok x hx))
  have t1 := cx_three allow_Change.key21 allow_Change.amt21 ch (fun x hx => by have := hok x hx; unfold allow_Change.ok at this; unfold allow_Change.key21; omega)
  have t2 := cx_three allow_Change.key23 allow_Change.amt23 ch (fun x hx => by have := hok x hx; unfold allow_Change.ok at this; unfold allow_Change.key23; omega)
  have t3 := cx_three allow_Change.key24 allow_Change.amt24 ch (fun x hx => by have := hok x hx; unfold allow_Change.ok at this; unfold allow_Change.key24; omega)
  have t4 := cx_three allow_Change.key25 allow_Change.amt25 ch (fun x hx => by have := hok x hx; unfold allow_Change.ok at this; unfold allow_Change.key25; omega)
  have t12 : cx_tot allow_Change.amt23 ch = cx_tot allow_Change.amt21 ch := rfl
  have i0 : x.s0.i = allow_Change.sums allow_Change.key21 allow_Change.amt21 ch 1 := by rw [e0]; rfl
  have i1 : x.s1.i = allow_Change.sums allow_Change.key21 allow_Change.amt21 ch 2 := by rw [e1]; rfl
  have i2 : x.s2.i = allow_Change.sums allow_Change.key21 allow_Change.amt21 ch 3 := by rw [e2]; rfl
  have u0 : x.s0.u = allow_Change.sums allow_Change.key23 allow_Change.amt23 ch 1 := by rw [e0]; rfl
  have u1 : x.s1.u = allow_Change.sums allow_Change.key23 allow_Change.amt23 ch 2 := by rw [e1]; rfl
  have u2 : x.s2.u = allow_Change.sums allow_Change.key23 allow_Change.amt23 ch 3 := by rw [e2]; rfl
  have n0 : x.s0.n = allow_Change.sums allow_Change.key24 allow_Change.amt24 ch 1 := by rw [e0]; rfl
  have n1 : x.s1.n = allow_Change.sums allow_Change.key24 allow_Change.amt24 ch 2 := by rw [e1]; rfl
  have n2 : x.s2.n = allow_Change.sums allow_Change.key24 allow_Change.amt24 ch 3 := by rw [e2]; rfl
  have v0 : x.s0.w = allow_Change.sums allow_Change.key25 allow_Change.amt25 ch 1 := by rw [e0]; rfl
  have v1 : x.s1.w = allow_Change.sums allow_Change.key25 allow_Change.amt25 ch 2 := by rw [e1]; rfl
  have v2 : x.s2.w = allow_Change.sums allow_Change.key25 allow_Change.amt25 ch 3 := by rw [e2]; rfl
  rw [← i0, ← i1, ← i2] at t1
  rw [← u0, ← u1, ← u2, t12] at t2
  rw [← n0, ← n1, ← n2] at t3
  rw [← v0, ← v1, ← v2] at t4
  generalize cx_tot allow_Change.amt21 ch = T1 at *
  generalize cx_tot allow_Change.amt24 ch = T3 at *
  generalize cx_tot allow_Change.amt25 ch = T4 at *
  clear i0 i1 i2 u0 u1 u2 n0 n1 n2 v0 v1 v2 e0 e1 e2 hO hok t12
  have I0 := cx_inr r0 h.c0
  have I1 := cx_inr r1 h.c1
  have I2 := cx_inr r2 h.c2
  obtain ⟨ho, ha, hi, he, hr, hw, hc, heq, _, hc0, hc1, hc2⟩ := h
  unfold inM at ho ha hi he hr hw hc
  have sI := allow_Net.sum3 x.s0.i x.s1.i x.s2.i I0.2.1 I1.2.1 I2.2.1
  have sU := allow_Net.sum3 x.s0.u x.s1.u x.s2.u I0.2.2.1 I1.2.2.1 I2.2.2.1
  refine ⟨by unfold inr64; omega, by unfold inr64; omega, by unfold inr64; omega, by unfold inr64; omega, by unfold inr64; omega, by omega, cx_ties r0, cx_ties r1, cx_ties r2, I0, I1, I2, ?_, ?_⟩
  · obtain ⟨o0, _, _, _, _, _⟩ := r0
    obtain ⟨o1, _, _, _, _, _⟩ := r1
    obtain ⟨o2, _, _, _, _, _⟩ := r2
    unfold in0 at hc0 hc1 hc2
    unfold allow_Net.g
    rw [if_pos]
    unfold inr64
    omega
  · have : inr64 (x.s0.i + x.s1.i + x.s2.i) := by unfold inr64; omega
    rw [if_pos this] at sI
    have : inr64 (x.s0.u + x.s1.u + x.s2.u) := by unfold inr64; omega
    rw [if_pos this] at sU
    rw [show x.s0.u + x.s1.u + x.s2.u = x.s0.i + x.s1.i + x.s2.i by omega] at sU
    exact ⟨_, _, _, sI, sU⟩
theorem InvX.first : InvX rep1 [] := by
  refine ⟨by decide, by decide, by decide, by decide, by decide, by decide, by decide, by decide, by kernel_rfl, by decide, by decide, by decide⟩
theorem cx_nil (o k : Int) (ho : in0 o) : allow_Roll.row [] o k = nrow o := by
  obtain ⟨_, e⟩ := cx_row [] o k (by simp) (by simp) ho
  have e2 : o + cx_I [] k + cx_N [] k - cx_U [] k - cx_V [] k = o := by simp [cx_I, cx_N, cx_U, cx_V, allow_Change.sums]
  rw [e, e2]
  rfl
theorem InvX.next {x : Rep} {ch : List S64} (h : InvX x ch) : InvX (nextR x) [] := by
  obtain ⟨ho, ha, hi, he, hr, hw, hc, heq, _, hc0, hc1, hc2⟩ := h
  have z0 : inM 0 := by decide
  refine ⟨hc, z0, z0, z0, z0, z0, hc, ?_, ?_, hc0, hc1, hc2⟩
  · change x.c = x.c + 0 + 0 + 0 - 0 - 0
    omega
  · change allow_Roll.g x.s0.c x.s1.c x.s2.c [] = (nrow x.s0.c, nrow x.s1.c, nrow x.s2.c, 0)
    have hO : allow_Roll.okO x.s0.c x.s1.c x.s2.c := by
      unfold in0 at hc0 hc1 hc2; unfold allow_Roll.okO; omega
    unfold allow_Roll.g
    rw [if_neg (by simp), if_neg (by simp), if_neg (by simpa using hO), cx_nil _ _ hc0, cx_nil _ _ hc1, cx_nil _ _ hc2]
theorem cx_wr {a b : Int} (ha : inM a) (hb : inF b) : wrap64 (a + b) = a + b := by
  unfold inM at ha; unfold inF at hb; unfold wrap64; omega
/-- What changes make of a stage's end. -/
def cx_D (l : List S64) (k : Int) : Int := cx_I l k + cx_N l k - cx_U l k - cx_V l k
theorem cx_Dapp (a b : List S64) (k : Int) : cx_D (a ++ b) k = cx_D a k + cx_D b k := by
  unfold cx_D cx_I cx_N cx_U cx_V
  rw [cx_app, cx_app, cx_app, cx_app]
  omega
theorem cx_rc {l : List S64} {o k : Int} {r : Row6} (h : ∀ x ∈ l, allow_Change.ok x) (hl : l.length ≤ 4096) (ho : 0 ≤ o ∧ o ≤ 1152921504606846976) (hr : r = allow_Roll.row l o k) : r.c = o + cx_D l k ∧ r.o = o := by
  rw [hr, (cx_row l o k h hl ho).2]
  exact ⟨by unfold cx_D; simp only; omega, rfl⟩
theorem InvX.cl {x : Rep} {ch : List S64} (h : InvX x ch) : x.s0.c = x.s0.o + cx_D ch 1 ∧ x.s1.c = x.s1.o + cx_D ch 2 ∧ x.s2.c = x.s2.o + cx_D ch 3 := by
  obtain ⟨hl, hok, hO, e0, e1, e2⟩ := cx_gok h.rl
  unfold allow_Roll.okO at hO
  exact ⟨(cx_rc hok hl ⟨hO.1, hO.2.1⟩ e0).1, (cx_rc hok hl ⟨hO.2.2.1, hO.2.2.2.1⟩ e1).1, (cx_rc hok hl ⟨hO.2.2.2.2.1, hO.2.2.2.2.2⟩ e2).1⟩
/-- What a report ends with is told by what is taken: these are what is added. -/
structure cx_S (x y : Rep) (d : D6) (dc : List S64) : Prop where
  o : y.o = x.o
  p : y.p = x.p
  c : y.c = x.c + d.a + d.i + d.e - d.r - d.w
  c0 : y.s0.c = x.s0.c + cx_D dc 1
  c1 : y.s1.c = x.s1.c + cx_D dc 2
  c2 : y.s2.c = x.s2.c + cx_D dc 3
  o1 : y.s1.o = x.s1.o
theorem InvX.take {x : Rep} {t : Nat} {ch : List S64} {d : D6} {dc : List S64} (h : InvX x ch) {er : Int} {x2 : Rep} {t2 : Nat} {ch2 : List S64} (hq : takeR x t ch d dc = (er, x2, t2, ch2)) :
    InvX x2 ch2 ∧ x2.p = x.p ∧ x2.o = x.o ∧ x2.s1.o = x.s1.o ∧ (er = 0 ∧ cx_S x x2 d dc ∨ er ≠ 0 ∧ x2 = x ∧ ch2 = ch) := by
  unfold takeR at hq
  split at hq
  · rename_i hf
    split at hq
    · simp only [Prod.mk.injEq] at hq
      obtain ⟨rfl, rfl, rfl, rfl⟩ := hq
      exact ⟨h, rfl, rfl, rfl, Or.inr ⟨by decide, rfl, rfl⟩⟩
    · split at hq
      · rename_i hw
        simp only [Prod.mk.injEq] at hq
        obtain ⟨rfl, hx, rfl, rfl⟩ := hq
        unfold withR at hw hx
        by_cases ha : allIn x d
        · rw [if_pos ha] at hw hx
          by_cases hb : (allow_Roll.g x.s0.o x.s1.o x.s2.o (ch ++ dc)).2.2.2 = 0 ∧ inM (clos (addI x d 6)).c ∧ in0 (allow_Roll.g x.s0.o x.s1.o x.s2.o (ch ++ dc)).1.c ∧ in0 (allow_Roll.g x.s0.o x.s1.o x.s2.o (ch ++ dc)).2.1.c ∧ in0 (allow_Roll.g x.s0.o x.s1.o x.s2.o (ch ++ dc)).2.2.1.c
          · rw [if_pos hb] at hx
            clear hw
            obtain ⟨hg, hcc, h0, h1, h2⟩ := hb
            obtain ⟨r0, r1, r2, re, hr⟩ : ∃ r0 r1 r2 re, allow_Roll.g x.s0.o x.s1.o x.s2.o (ch ++ dc) = (r0, r1, r2, re) := ⟨_, _, _, _, rfl⟩
            rw [hr] at hg h0 h1 h2 hx
            simp only at hg h0 h1 h2 hx
            subst hg
            have hcl := h.cl
            obtain ⟨ho, ha_, hi, he, hrr, hw, hc, heq, hrl, hc0, hc1, hc2⟩ := h
            obtain ⟨fa, fi, fe, fr, fw, fv⟩ := hf.1
            obtain ⟨A, I, E, R, W, V⟩ := ha
            change inM (wrap64 (x.a + d.a)) at A
            change inM (wrap64 (x.i + d.i)) at I
            change inM (wrap64 (x.e + d.e)) at E
            change inM (wrap64 (x.r + d.r)) at R
            change inM (wrap64 (x.w + d.w)) at W
            have cc : wrap64 (wrap64 (wrap64 (wrap64 (wrap64 (x.o + wrap64 (x.a + d.a)) + wrap64 (x.i + d.i)) + wrap64 (x.e + d.e)) - wrap64 (x.r + d.r)) - wrap64 (x.w + d.w)) = x.c + d.a + d.i + d.e - d.r - d.w := by
              rw [cx_wr ha_ fa] at A ⊢
              rw [cx_wr hi fi] at I ⊢
              rw [cx_wr he fe] at E ⊢
              rw [cx_wr hrr fr] at R ⊢
              rw [cx_wr hw fw] at W ⊢
              unfold inM at *
              rw [show wrap64 (x.o + (x.a + d.a)) = x.o + (x.a + d.a) by unfold wrap64; omega]
              rw [show wrap64 (x.o + (x.a + d.a) + (x.i + d.i)) = x.o + (x.a + d.a) + (x.i + d.i) by unfold wrap64; omega]
              rw [show wrap64 (x.o + (x.a + d.a) + (x.i + d.i) + (x.e + d.e)) = x.o + (x.a + d.a) + (x.i + d.i) + (x.e + d.e) by unfold wrap64; omega]
              rw [show wrap64 (x.o + (x.a + d.a) + (x.i + d.i) + (x.e + d.e) - (x.r + d.r)) = x.o + (x.a + d.a) + (x.i + d.i) + (x.e + d.e) - (x.r + d.r) by unfold wrap64; omega]
              rw [show wrap64 (x.o + (x.a + d.a) + (x.i + d.i) + (x.e + d.e) - (x.r + d.r) - (x.w + d.w)) = x.o + (x.a + d.a) + (x.i + d.i) + (x.e + d.e) - (x.r + d.r) - (x.w + d.w) by unfold wrap64; omega]
              omega
            obtain ⟨hl2, hok2, hO2, e0, e1, e2⟩ := cx_gok hr
            unfold allow_Roll.okO at hO2
            obtain ⟨q0, p0⟩ := cx_rc hok2 hl2 ⟨hO2.1, hO2.2.1⟩ e0
            obtain ⟨q1, p1⟩ := cx_rc hok2 hl2 ⟨hO2.2.2.1, hO2.2.2.2.1⟩ e1
            obtain ⟨q2, p2⟩ := cx_rc hok2 hl2 ⟨hO2.2.2.2.2.1, hO2.2.2.2.2.2⟩ e2
            rw [cx_Dapp] at q0 q1 q2
            have ceq : x2.c = x.c + d.a + d.i + d.e - d.r - d.w := by rw [← hx]; exact cc
            have hcM : inM x2.c := by rw [← hx]; exact hcc
            have xo : x2.o = x.o := by rw [← hx]; rfl
            have xa : x2.a = x.a + d.a := by rw [← hx]; exact cx_wr ha_ fa
            have xi : x2.i = x.i + d.i := by rw [← hx]; exact cx_wr hi fi
            have xe : x2.e = x.e + d.e := by rw [← hx]; exact cx_wr he fe
            have xr : x2.r = x.r + d.r := by rw [← hx]; exact cx_wr hrr fr
            have xw : x2.w = x.w + d.w := by rw [← hx]; exact cx_wr hw fw
            have xp : x2.p = x.p := by rw [← hx]; rfl
            have x0 : x2.s0 = r0 := by rw [← hx]; rfl
            have x1 : x2.s1 = r1 := by rw [← hx]; rfl
            have x2' : x2.s2 = r2 := by rw [← hx]; rfl
            clear hx
            rw [cx_wr ha_ fa] at A
            rw [cx_wr hi fi] at I
            rw [cx_wr he fe] at E
            rw [cx_wr hrr fr] at R
            rw [cx_wr hw fw] at W
            refine ⟨⟨by rw [xo]; exact ho, by rw [xa]; exact A, by rw [xi]; exact I, by rw [xe]; exact E, by rw [xr]; exact R, by rw [xw]; exact W, hcM, by rw [ceq, heq, xo, xa, xi, xe, xr, xw]; omega, ?_, by rw [x0]; exact h0, by rw [x1]; exact h1, by rw [x2']; exact h2⟩, xp, xo, by rw [x1, p1], Or.inl ⟨rfl, ⟨xo, xp, ceq, ?_, ?_, ?_, by rw [x1, p1]⟩⟩⟩
            · rw [x0, x1, x2', p0, p1, p2]; exact hr
            · rw [x0, q0]; omega
            · rw [x1, q1]; omega
            · rw [x2', q2]; omega
          · rw [if_neg hb] at hw
            simp at hw
        · rw [if_neg ha] at hw
          simp at hw
      · rename_i hw
        simp only [Prod.mk.injEq] at hq
        obtain ⟨rfl, rfl, rfl, rfl⟩ := hq
        exact ⟨h, rfl, rfl, rfl, Or.inr ⟨hw, rfl, rfl⟩⟩
  · simp only [Prod.mk.injEq] at hq
    obtain ⟨rfl, rfl, rfl, rfl⟩ := hq
    exact ⟨h, rfl, rfl, rfl, Or.inr ⟨by decide, rfl, rfl⟩⟩
variable {B : Nat} {w w' : World} {p t : Nat} {pv cv : Value} {past : List Rep} {x : Rep} {ch : List S64}
/-- What moves other blocks leaves a closer. -/
theorem CA.mv {F F' : Nat → Prop} (h : CA B w p pv past x t cv ch) (hm : Mv F F' w w') (h1 : ¬ F p) (h2 : ∀ k, pv.ownBlock = some k → ¬ F k) (h3 : ∀ k, F k → ∀ q, q ∈ (64 : Nat) :: k64.E → ∀ cs, w.heap[k]? ≠ some (.cells cs q (0, 0))) : CA B w' p pv past x t cv ch := by
  refine ⟨hm.blk h.hp h1, hm.R h.hw h2, Kd.R_mono (Kd.R_step (Kd.R_bound h.hc) (fun k hk hlt => hm.block k hlt (fun hf => ?_))) (fun _ hk => hk.1), h.hB⟩
  obtain ⟨_, _, _, q, hq, cs, hc⟩ := hk
  exact h3 k hf q hq cs hc
theorem CA.own41 (h : CA B w p pv past x t cv ch) {k : Nat} (hk : pv.ownBlock = some k) : ∃ cs, w.heap[k]? = some (.cells cs 41 (0, 0)) ∧ B ≤ k := by
  obtain ⟨inner, ho⟩ := Kd.R_own h.hw
  obtain ⟨cs, hc⟩ := own_typed ho k hk
  exact ⟨cs, hc, own_base ho k hk⟩
theorem cx_t57 {cs : Array Value} {k : Nat} (h : w.heap[k]? = some (.cells cs 57 (0, 0))) : ∀ q, q ∈ (64 : Nat) :: k64.E → ∀ cs, w.heap[k]? ≠ some (.cells cs q (0, 0)) := by
  intro q hq cs3 h2
  rw [h] at h2
  injection h2 with h2
  injection h2 with _ h2
  exact absurd h2 ((show ∀ q, q ∈ (64 : Nat) :: k64.E → (57 : Nat) ≠ q by decide) q hq)
theorem cx_t41 {cs : Array Value} {k : Nat} (h : w.heap[k]? = some (.cells cs 41 (0, 0))) : ∀ q, q ∈ (64 : Nat) :: k64.E → ∀ cs, w.heap[k]? ≠ some (.cells cs q (0, 0)) := by
  intro q hq cs3 h2
  rw [h] at h2
  injection h2 with h2
  injection h2 with _ h2
  exact absurd h2 ((show ∀ q, q ∈ (64 : Nat) :: k64.E → (41 : Nat) ≠ q by decide) q hq)
def cx_cv (x : S66) : S64 := ⟨x.f0, x.f1, x.f2, x.f3, x.f4⟩
theorem cx_done0 (a0 a1 a3 a4 a5 a6 a7 a8 : Int) : ∀ (n : Nat) (k i : Nat) (l : List S66) (acc : List S64), l.length ≤ 100000 → i ≤ l.length → l.length - i = n → n < k → acc.length ≤ i → lombardlaw23_done.l0 k l (l.length : Int) (i : Int) a0 a1 a3 a4 a5 a6 a7 a8 acc = some (a0, a1, [], a3, a4, a5, a6, a7, a8, acc ++ (l.drop i).map cx_cv) := by
  intro n
  induction n with
  | zero =>
    intro k i l acc hm hi hn hk ha
    obtain ⟨k, rfl⟩ : ∃ m, k = m + 1 := ⟨k - 1, by omega⟩
    obtain rfl : i = l.length := by omega
    simp only [lombardlaw23_done.l0]
    rw [if_neg (by omega), List.drop_length]
    simp
  | succ n ih =>
    intro k i l acc hm hi hn hk ha
    obtain ⟨k, rfl⟩ : ∃ m, k = m + 1 := ⟨k - 1, by omega⟩
    have hlt : i < l.length := by omega
    have ew : wrap64 ((i : Int) + 1) = ((i + 1 : Nat) : Int) := by unfold wrap64; omega
    have e : rd_T66 l (i : Int) = l[i] := by simp [rd_T66, List.getElem?_eq_getElem hlt]
    simp only [lombardlaw23_done.l0]
    rw [if_pos (by omega), if_pos (by omega), if_pos (by omega), if_pos (by omega), ew, ih k (i + 1) l _ hm (by omega) (by omega) (by omega) (by simp; omega), e, List.drop_eq_getElem_cons hlt, List.map_cons, List.append_assoc]
    rfl
theorem cx_done (b0 b1 : Int) {A2 A9 : Option Addr} {c2 c9 : Nat} {l2 : List S124} {l9 : List S66} (d : D6) (h2 : Kd.C k124 w A2 l2.length l2) (hc2 : l2.length ≤ c2) (h9 : Kd.C k66 w A9 l9.length l9) (hc9 : l9.length ≤ c9) (hl : l9.length ≤ 100) :
    Calls Try.prog 10 #[.agg #[.int .i64 b0, .int .i64 b1, .slice A2 l2.length c2, .int .i64 d.a, .int .i64 d.i, .int .i64 d.e, .int .i64 d.r, .int .i64 d.w, .int .i64 d.v, .slice A9 l9.length c9]] w fun e w' => ∃ lv A c, e = .returned (.agg (dcs 0 0 lv d (.slice A (l9.map cx_cv).length c))) ∧ Kd.C k64 w' A (l9.map cx_cv).length (l9.map cx_cv) ∧ (l9.map cx_cv).length ≤ c ∧ Below w.heap.size w w' := by
  have hf : lombardlaw23_done.f (l9.length + 1) b0 b1 l2 d.a d.i d.e d.r d.w d.v l9 = some (0, 0, [], d.a, d.i, d.e, d.r, d.w, d.v, l9.map cx_cv) := by
    have := cx_done0 0 0 d.a d.i d.e d.r d.w d.v l9.length (l9.length + 1) 0 l9 [] (by omega) (by omega) (by omega) (by omega) (by simp)
    simpa [lombardlaw23_done.f] using this
  refine (lombardlaw23_done.calls _ b0 b1 A2 c2 l2 d.a d.i d.e d.r d.w d.v A9 c9 l9 _ _ _ _ _ _ _ _ _ _ w h2 hc2 h9 hc9 hf).mono ?_
  rintro e w1 ⟨v2, v9, rfl, _, hR, hb⟩
  obtain ⟨A, c, hv⟩ := Kd.R_slice hR
  subst hv
  obtain ⟨_, hn, hC⟩ := Kd.R_reads' hR
  exact ⟨v2, A, c, rfl, hC, hn, hb⟩
theorem cx_great (l : List S34) (hl : l.length ≤ 9223372036854775807) : ∃ r, lombardlaw23_great.f (l.length + 1) l = some r ∧ (r = false → l.length ≤ 100 ∧ ∀ x ∈ l, x.f1.f7.length ≤ 100) := by
  have H : ∀ (n : Nat) (i : Nat), l.length - i + 1 ≤ n → i ≤ l.length → (∀ x ∈ l.take i, x.f1.f7.length ≤ 100) → ∃ r, lombardlaw23_great.l0 n l l (l.length : Int) (i : Int) = some r ∧ (r = false → l.length ≤ 100 ∧ ∀ x ∈ l, x.f1.f7.length ≤ 100) := by
    intro n
    induction n with
    | zero => intro i h; omega
    | succ n ih =>
      intro i h hi hx
      rw [lombardlaw23_great.l0]
      by_cases hlt : i < l.length
      · rw [if_pos (by omega), if_pos (by omega), if_pos (by omega)]
        split
        · exact ⟨_, rfl, fun h => by simp at h⟩
        · rename_i hgt
          have e : wrap64 ((i : Int) + 1) = ((i + 1 : Nat) : Int) := by unfold wrap64; omega
          rw [e]
          refine ih (i + 1) (by omega) (by omega) (fun y hy => ?_)
          rw [List.take_succ_eq_append_getElem hlt, List.mem_append, List.mem_singleton] at hy
          rcases hy with hy | rfl
          · exact hx y hy
          · have e : rd_T34 l (i : Int) = l[i] := by simp [rd_T34, List.getElem?_eq_getElem hlt]
            rw [e] at hgt
            omega
      · rw [if_neg (by omega)]
        refine ⟨_, rfl, fun hz => ?_⟩
        obtain rfl : i = l.length := by omega
        rw [List.take_length] at hx
        exact ⟨by have := of_decide_eq_false hz; omega, hx⟩
  exact H (l.length + 1) 0 (by omega) (by omega) (by simp)
/-- A step: whether it closes; what an event led to. -/
def opd (a0 a1 : Int) (v2 : Value) (d : D6) (v9 : Value) : Array Value := #[.int .i64 a0, .int .i64 a1, v2, .int .i64 d.a, .int .i64 d.i, .int .i64 d.e, .int .i64 d.r, .int .i64 d.w, .int .i64 d.v, v9]
theorem cx_doneD (b0 b1 : Int) {A2 A9 : Option Addr} {c2 c9 : Nat} {l2 : List S124} {l9 : List S66} (d : D6) (h2 : Kd.C k124 w A2 l2.length l2) (hc2 : l2.length ≤ c2) (h9 : Kd.C k66 w A9 l9.length l9) (hc9 : l9.length ≤ c9) (hl : l9.length ≤ 100) {dc : List S64} (hdc : l9.map cx_cv = dc) :
    Calls Try.prog 10 #[.agg (opd b0 b1 (.slice A2 l2.length c2) d (.slice A9 l9.length c9))] w fun e w' => ∃ lv A c, e = .returned (.agg (dcs 0 0 lv d (.slice A dc.length c))) ∧ Kd.C k64 w' A dc.length dc ∧ dc.length ≤ c ∧ Below w.heap.size w w' := by
  subst hdc
  exact cx_done b0 b1 d h2 hc2 h9 hc9 hl
theorem CA.lower {B0 : Nat} (h : CA B w p pv past x t cv ch) (hB : B0 ≤ B) : CA B0 w p pv past x t cv ch := ⟨h.hp, Kd.R_lower h.hw hB, Kd.R_lower h.hc hB, Nat.le_trans hB h.hB⟩
theorem CA.ne (h : CA B w p pv past x t cv ch) {g ty : Nat} {cs : Array Value} {fr : Nat × Nat} (hg : w.heap[g]? = some (.cells cs ty fr)) (ht : ty ≠ 57) : g ≠ p := by
  rintro rfl
  have h1 := h.hp
  rw [hg] at h1
  injection h1 with h1
  injection h1 with _ h1
  exact ht h1
theorem CA.own_ne (h : CA B w p pv past x t cv ch) {g ty : Nat} {cs : Array Value} {fr : Nat × Nat} (hg : w.heap[g]? = some (.cells cs ty fr)) (ht : ty ≠ 41) {k : Nat} (hk : pv.ownBlock = some k) : g ≠ k := by
  rintro rfl
  obtain ⟨cs2, h1, _⟩ := h.own41 hk
  rw [hg] at h1
  injection h1 with h1
  injection h1 with _ h1
  exact ht h1
variable {B' p' t' : Nat} {pv' cv' : Value} {past' : List Rep} {x' : Rep} {ch' : List S64} {F' : Nat → Prop}
/-- Another closer takes. -/
theorem CA.take_other (h : CA B w p pv past x t cv ch) (h' : CA B' w p' pv' past' x' t' cv' ch') (hne : p' ≠ p) (hm : Mv (fun k => k = p') F' w w') : CA B w' p pv past x t cv ch :=
  h.mv hm (fun e => hne e.symm) (fun k hk e => h.own_ne h'.hp (by decide) hk e.symm) (fun k e => by subst e; exact cx_t57 h'.hp)
/-- Another one closes. -/
theorem CA.close_other (h : CA B w p pv past x t cv ch) (h' : CA B' w p' pv' past' x' t' cv' ch') (hne : p' ≠ p) (hd : ∀ k, pv.ownBlock = some k → pv'.ownBlock ≠ some k) (hm : Mv (fun k => k = p' ∨ pv'.ownBlock = some k) F' w w') : CA B w' p pv past x t cv ch :=
  h.mv hm (fun e => e.elim (fun e => hne e.symm) (fun e => h'.own_ne h.hp (by decide) e rfl)) (fun k hk e => e.elim (fun e => h.own_ne h'.hp (by decide) hk e.symm) (hd k hk))
    (fun k e => by
      rcases e with rfl | e
      · exact cx_t57 h'.hp
      · obtain ⟨cs, h1, _⟩ := h'.own41 e
        exact cx_t41 h1)
theorem CA.base (h : CA B w p pv past x t cv ch) : ∀ k, (k = p ∨ pv.ownBlock = some k) → B ≤ k := fun k hk => by
  rcases hk with rfl | hk
  · exact h.hB
  · exact (h.own41 hk).choose_spec.2
theorem CA.lt (h : CA B w p pv past x t cv ch) : p < w.heap.size := blk_lt h.hp
def opc (b : Bool) (a0 a1 : Int) (v2 : Value) (d : D6) (v9 : Value) : Array Value := #[.bool b, .int .i64 a0, .int .i64 a1, v2, .int .i64 d.a, .int .i64 d.i, .int .i64 d.e, .int .i64 d.r, .int .i64 d.w, .int .i64 d.v, v9]
theorem opc_all (b : Bool) (a0 a1 : Int) (A2 A9 : Option Addr) (n2 c2 n9 c9 : Nat) (d : D6) : (opc b a0 a1 (.slice A2 n2 c2) d (.slice A9 n9 c9)).all (·.oneCell') = true := by kernel_rfl
theorem op_st (b : Bool) (a0 a1 : Int) (v2 : Value) (d : D6) (v9 : Value) {W : World} {g : Nat} {t : TypeId} {fr : Nat × Nat} (h : W.heap[g]? = some (.cells (opc b a0 a1 v2 d v9) t fr)) : ∀ j v, (opd a0 a1 v2 d v9).toList[j]? = some v → W.cell? ((⟨g, 1, none⟩ : Addr).add j) = some v := by
  intro j v hj
  have hlt : j < 10 := (List.getElem?_eq_some_iff.1 hj).1
  have hadd : (⟨g, 1, none⟩ : Addr).add j = ⟨g, 1 + j, none⟩ := by unfold Addr.add; split <;> simp_all
  rw [hadd, cell_of_row W g (1 + j) _ t fr h, ← hj]
  rcases (show j = 0 ∨ j = 1 ∨ j = 2 ∨ j = 3 ∨ j = 4 ∨ j = 5 ∨ j = 6 ∨ j = 7 ∨ j = 8 ∨ j = 9 by omega) with rfl | rfl | rfl | rfl | rfl | rfl | rfl | rfl | rfl | rfl <;> rfl
/-- Two closers whose reports end alike. -/
def cx_Eq (x y : Rep) : Prop := x.c = y.c ∧ x.s0.c = y.s0.c ∧ x.s1.c = y.s1.c ∧ x.s2.c = y.s2.c
theorem cx_Eq_take {x y x2 y2 : Rep} {t u : Nat} {ch dh : List S64} {d : D6} {dc : List S64} (hx : InvX x ch) (hy : InvX y dh) (h : cx_Eq x y) {er : Int} {t2 u2 : Nat} {ch2 dh2 : List S64} (h1 : takeR x t ch d dc = (er, x2, t2, ch2)) (h2 : takeR y u dh d dc = (er, y2, u2, dh2)) : cx_Eq x2 y2 := by
  obtain ⟨_, _, _, _, k1⟩ := hx.take h1
  obtain ⟨_, _, _, _, k2⟩ := hy.take h2
  obtain ⟨e, e0, e1, e2⟩ := h
  rcases k1 with ⟨r1, s1⟩ | ⟨r1, rfl, _⟩
  · rcases k2 with ⟨_, s2⟩ | ⟨r2, _, _⟩
    · exact ⟨by rw [s1.c, s2.c, e], by rw [s1.c0, s2.c0, e0], by rw [s1.c1, s2.c1, e1], by rw [s1.c2, s2.c2, e2]⟩
    · exact absurd r1 r2
  · rcases k2 with ⟨r2, _⟩ | ⟨_, rfl, _⟩
    · exact absurd r2 r1
    · exact ⟨e, e0, e1, e2⟩


end Go.Proofs.Ytpcllhhbaockfaa.Print
