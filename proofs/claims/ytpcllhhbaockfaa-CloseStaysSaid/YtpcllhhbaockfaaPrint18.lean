-- written by this session's program wip/hybrid.py over the kit's printer, and by hand. Not trusted: Lean checks it.
import Derived.Test.YtpcllhhbaockfaaPrint0
import Derived.Test.YtpcllhhbaockfaaPrint1
import Derived.Test.YtpcllhhbaockfaaPrint9
import Derived.Test.YtpcllhhbaockfaaPrint17
namespace Go.Proofs.Ytpcllhhbaockfaa.Print
open Go.RowKit Go.Proofs.YtpcllhhbaockfaaW.PrintWords Go.Proofs.YtpcllhhbaockfaaW.PrintLast Go.Proofs.YtpcllhhbaockfaaW.PrintMore
attribute [local go_sem] max2_int min2_int max_two min_two max_three min_three max_four min_four   -- for this text's walks alone
set_option linter.unusedVariables false
set_option linter.unusedSimpArgs false

/-! ### allow_Net: function 21 -/
theorem blk_new2 (w : World) (o1 o2 o3 : Obj) : (((w.alloc o1).alloc o2).alloc o3).heap[w.heap.size + 1 + 1]? = some o3 := by
  have e : ((w.alloc o1).alloc o2).heap.size = w.heap.size + 1 + 1 := by simp
  rw [← e]
  exact blk_new _ _
theorem allow_Net.c28 (a : Row6) (w : World) : Calls Try.prog 40 #[.agg #[.int .i64 a.o, .int .i64 a.i, .int .i64 a.u, .int .i64 a.n, .int .i64 a.w, .int .i64 a.c]] w fun e w' => e = .returned (.int .i64 a.o) ∧ Below w.heap.size w w' := by
  go_enter Try.func40, Try.ntmps40
  go_wp2
  go_ret
  exact ⟨rfl, below_alloc (Below.refl _ _) _⟩
theorem allow_Net.ix0 (w : World) : (Instr.index 96 (.agg #[.func (.func 40) #[] #[], .func (.func 41) #[] #[], .func (.func 42) #[] #[], .func (.func 43) #[] #[], .func (.func 44) #[] #[], .func (.func 45) #[] #[]]) (.int .i64 0)).run Try.prog w = .ok (.func (.func 40) #[] #[]) w := by kernel_rfl
theorem allow_Net.c29 (a : Row6) (w : World) : Calls Try.prog 41 #[.agg #[.int .i64 a.o, .int .i64 a.i, .int .i64 a.u, .int .i64 a.n, .int .i64 a.w, .int .i64 a.c]] w fun e w' => e = .returned (.int .i64 a.i) ∧ Below w.heap.size w w' := by
  go_enter Try.func41, Try.ntmps41
  go_wp2
  go_ret
  exact ⟨rfl, below_alloc (Below.refl _ _) _⟩
theorem allow_Net.ix1 (w : World) : (Instr.index 96 (.agg #[.func (.func 40) #[] #[], .func (.func 41) #[] #[], .func (.func 42) #[] #[], .func (.func 43) #[] #[], .func (.func 44) #[] #[], .func (.func 45) #[] #[]]) (.int .i64 1)).run Try.prog w = .ok (.func (.func 41) #[] #[]) w := by kernel_rfl
theorem allow_Net.c30 (a : Row6) (w : World) : Calls Try.prog 42 #[.agg #[.int .i64 a.o, .int .i64 a.i, .int .i64 a.u, .int .i64 a.n, .int .i64 a.w, .int .i64 a.c]] w fun e w' => e = .returned (.int .i64 a.u) ∧ Below w.heap.size w w' := by
  go_enter Try.func42, Try.ntmps42
  go_wp2
  go_ret
  exact ⟨rfl, below_alloc (Below.refl _ _) _⟩
theorem allow_Net.ix2 (w : World) : (Instr.index 96 (.agg #[.func (.func 40) #[] #[], .func (.func 41) #[] #[], .func (.func 42) #[] #[], .func (.func 43) #[] #[], .func (.func 44) #[] #[], .func (.func 45) #[] #[]]) (.int .i64 2)).run Try.prog w = .ok (.func (.func 42) #[] #[]) w := by kernel_rfl
theorem allow_Net.c31 (a : Row6) (w : World) : Calls Try.prog 43 #[.agg #[.int .i64 a.o, .int .i64 a.i, .int .i64 a.u, .int .i64 a.n, .int .i64 a.w, .int .i64 a.c]] w fun e w' => e = .returned (.int .i64 a.n) ∧ Below w.heap.size w w' := by
  go_enter Try.func43, Try.ntmps43
  go_wp2
  go_ret
  exact ⟨rfl, below_alloc (Below.refl _ _) _⟩
theorem allow_Net.ix3 (w : World) : (Instr.index 96 (.agg #[.func (.func 40) #[] #[], .func (.func 41) #[] #[], .func (.func 42) #[] #[], .func (.func 43) #[] #[], .func (.func 44) #[] #[], .func (.func 45) #[] #[]]) (.int .i64 3)).run Try.prog w = .ok (.func (.func 43) #[] #[]) w := by kernel_rfl
theorem allow_Net.c32 (a : Row6) (w : World) : Calls Try.prog 44 #[.agg #[.int .i64 a.o, .int .i64 a.i, .int .i64 a.u, .int .i64 a.n, .int .i64 a.w, .int .i64 a.c]] w fun e w' => e = .returned (.int .i64 a.w) ∧ Below w.heap.size w w' := by
  go_enter Try.func44, Try.ntmps44
  go_wp2
  go_ret
  exact ⟨rfl, below_alloc (Below.refl _ _) _⟩
theorem allow_Net.ix4 (w : World) : (Instr.index 96 (.agg #[.func (.func 40) #[] #[], .func (.func 41) #[] #[], .func (.func 42) #[] #[], .func (.func 43) #[] #[], .func (.func 44) #[] #[], .func (.func 45) #[] #[]]) (.int .i64 4)).run Try.prog w = .ok (.func (.func 44) #[] #[]) w := by kernel_rfl
theorem allow_Net.c33 (a : Row6) (w : World) : Calls Try.prog 45 #[.agg #[.int .i64 a.o, .int .i64 a.i, .int .i64 a.u, .int .i64 a.n, .int .i64 a.w, .int .i64 a.c]] w fun e w' => e = .returned (.int .i64 a.c) ∧ Below w.heap.size w w' := by
  go_enter Try.func45, Try.ntmps45
  go_wp2
  go_ret
  exact ⟨rfl, below_alloc (Below.refl _ _) _⟩
theorem allow_Net.ix5 (w : World) : (Instr.index 96 (.agg #[.func (.func 40) #[] #[], .func (.func 41) #[] #[], .func (.func 42) #[] #[], .func (.func 43) #[] #[], .func (.func 44) #[] #[], .func (.func 45) #[] #[]]) (.int .i64 5)).run Try.prog w = .ok (.func (.func 45) #[] #[]) w := by kernel_rfl
theorem goes_v {P : Program} {ops : Array Oper} {Q : Exit → Act → World → Prop} {oi : Oper} {N : Option Tmp} {a : Act} {w : World} {K : Act → World → Prop} {f : FuncId} {fn : Func} {as_ : Array Operand} {ts : Array TypeId} {x : Operand} (hf : P.funcs[f]? = some fn) (hname : (fn.name == "runtime.NumGoroutine") = false) (hb : fn.body.isSome = true) (args : Array Value)
    (hw : Region.wanted oi (yielded ops a.tmps) = true) (hN : oi.dst = N) (hop : oi.op = .call { callee := .value x, args := as_, argTypes := ts }) (hx : a.eval x = .func (.func f) #[] #[]) (hargs : as_.map a.eval = args)
    (h : Calls P f args w fun e w' => ∃ v, e = .returned v ∧ K (a.put N v) w') : if Region.wanted oi (yielded ops a.tmps) = true then Oper.wp P oi a w K Q else K (a.put N undef) w := by
  refine call_ f args hw hN ?_ h
  have he := enters_ hf hname hb args w
  unfold execOp
  simp [hop, resolve, Deferred.ofValue, invoke, hx, hargs, he]
def inr64 (x : Int) : Prop := -9223372036854775808 ≤ x ∧ x ≤ 9223372036854775807
instance (x : Int) : Decidable (inr64 x) := by unfold inr64; infer_instance
theorem allow_Net.sum3 (x y z : Int) (hx : inr64 x) (hy : inr64 y) (hz : inr64 z) : money_Sum.f [x, y, z] = some (if inr64 (x + y + z) then (x + y + z, 0) else (0, 3)) := by
  unfold inr64 at *
  unfold money_Sum.f
  rw [if_pos ⟨by simp, by simp; omega⟩]
  unfold money_Sum.s
  have e : ([x, y, z] : List Int).sum = x + y + z := by simp; omega
  rw [e]
theorem allow_Net.sumc {x y z s e : Int} {gl : Nat} {W : World} (h : money_Sum.f [x, y, z] = some (s, e)) (hb : W.heap[gl]? = some (.cells #[.int .i64 x, .int .i64 y, .int .i64 z] 2 (0, 0))) : Calls Try.prog 46 #[.slice (some ⟨gl, 0, none⟩) 3 3] W fun e' w' => e' = .returned (.tuple #[.int .i64 s, .int .i64 e]) ∧ Drawn0 W w' :=
  money_Sum.calls _ 3 [x, y, z] s e W (C_lit64 [x, y, z] hb rfl (by simp)) (by simp) h
theorem all6p (g : Nat) : (#[.pointer (some ⟨g, 0, none⟩), .pointer (some ⟨g, 1, none⟩), .pointer (some ⟨g, 2, none⟩), .pointer (some ⟨g, 3, none⟩), .pointer (some ⟨g, 4, none⟩), .pointer (some ⟨g, 5, none⟩)] : Array Value).all (·.oneCell') = true := by kernel_rfl
theorem all6n (a b c d e f : Int) : (#[Value.int .i64 a, .int .i64 b, .int .i64 c, .int .i64 d, .int .i64 e, .int .i64 f] : Array Value).all (·.oneCell') = true := by kernel_rfl
def Row6.inr (a : Row6) : Prop := inr64 a.o ∧ inr64 a.i ∧ inr64 a.u ∧ inr64 a.n ∧ inr64 a.w ∧ inr64 a.c
/-- All together. -/
def allow_Net.g (a b c : Row6) : Row6 × Int :=
  if inr64 (a.o + b.o + c.o) ∧ inr64 (a.i + b.i + c.i) ∧ inr64 (a.u + b.u + c.u) ∧ inr64 (a.n + b.n + c.n) ∧ inr64 (a.w + b.w + c.w) ∧ inr64 (a.c + b.c + c.c) then (⟨a.o + b.o + c.o, a.i + b.i + c.i, a.u + b.u + c.u, a.n + b.n + c.n, a.w + b.w + c.w, a.c + b.c + c.c⟩, 0) else (Row6.z, 3)
def row6 (a : Row6) : Array Value := #[.int .i64 a.o, .int .i64 a.i, .int .i64 a.u, .int .i64 a.n, .int .i64 a.w, .int .i64 a.c]
theorem allow_Net.start (w : World) (a b c : Row6) : Below w.heap.size w (((w.alloc (.cells (row18 a b c) 39)).alloc (.cells #[.int .i64 0, .int .i64 0, .int .i64 0, .int .i64 0, .int .i64 0, .int .i64 0] 38)).alloc (.cells #[.int .i64 0, .int .i64 0, .int .i64 0, .int .i64 0, .int .i64 0, .int .i64 0] 38)) ∧ (((w.alloc (.cells (row18 a b c) 39)).alloc (.cells #[.int .i64 0, .int .i64 0, .int .i64 0, .int .i64 0, .int .i64 0, .int .i64 0] 38)).alloc (.cells #[.int .i64 0, .int .i64 0, .int .i64 0, .int .i64 0, .int .i64 0, .int .i64 0] 38)).heap[w.heap.size]? = some (.cells (row18 a b c) 39 (0, 0)) ∧ (((w.alloc (.cells (row18 a b c) 39)).alloc (.cells #[.int .i64 0, .int .i64 0, .int .i64 0, .int .i64 0, .int .i64 0, .int .i64 0] 38)).alloc (.cells #[.int .i64 0, .int .i64 0, .int .i64 0, .int .i64 0, .int .i64 0, .int .i64 0] 38)).heap[w.heap.size + 1]? = some (.cells (row6 Row6.z) 38 (0, 0)) ∧ (((w.alloc (.cells (row18 a b c) 39)).alloc (.cells #[.int .i64 0, .int .i64 0, .int .i64 0, .int .i64 0, .int .i64 0, .int .i64 0] 38)).alloc (.cells #[.int .i64 0, .int .i64 0, .int .i64 0, .int .i64 0, .int .i64 0, .int .i64 0] 38)).heap[w.heap.size + 1 + 1]? = some (.cells (row6 Row6.z) 38 (0, 0)) :=
  ⟨below_alloc (below_alloc (below_alloc (Below.refl _ _) _) _) _, blk_alloc (blk_alloc (blk_new w _) _) _, blk_alloc (blk_new1 w _ _) _, blk_new2 w _ _ _⟩
def allow_Net.loopsOf : Code → List Code
  | .loop c => [c]
  | .seq a b => allow_Net.loopsOf a ++ allow_Net.loopsOf b
  | .block _ c => allow_Net.loopsOf c
  | .cond _ a b => allow_Net.loopsOf a ++ allow_Net.loopsOf b
  | _ => []
noncomputable def allow_Net.body : Code := ((Try.f21.body.map allow_Net.loopsOf).getD []).getD 0 .skip
set_option maxHeartbeats 16000000 in
set_option maxRecDepth 1000000 in
theorem allow_Net.round0 {a b c : Row6} (ha : Aside0 a.inr) (hb0 : Aside0 b.inr) (hc : Aside0 c.inr) {w v0 : World} {g2 g4 g5 : Nat} (hlt2 : w.heap.size < g2) (hlt4 : g2 < g4) (hlt5 : g4 < g5) {p1 p2 p3 p4 p5 : Int} {K : Act → World → Prop} {Q0 : Exit → Act → World → Prop} {c0 c10 c11 c12 c13 c14 c15 c16 c49 : Value} {u6 u7 u8 u9 u19 u20 u21 u22 u23 u24 u25 u26 u27 u28 u29 u30 u31 u32 u33 u34 u35 u36 u37 u38 u39 u40 u41 u42 u43 u44 u45 u46 u47 u48 : Value}
    (BK1 : Aside0 (v0.heap[w.heap.size]? = some (.cells (row18 a b c) 39 (0, 0)))) (BK2 : Aside0 (v0.heap[g2]? = some (.cells (row6 Row6.z) 38 (0, 0)))) (BK4 : Aside0 (v0.heap[g4]? = some (.cells #[.int .i64 0, .int .i64 p1, .int .i64 p2, .int .i64 p3, .int .i64 p4, .int .i64 p5] 38 (0, 0)))) (BK5 : Aside0 (v0.heap[g5]? = some (.cells #[.pointer (some ⟨g4, 0, none⟩), .pointer (some ⟨g4, 1, none⟩), .pointer (some ⟨g4, 2, none⟩), .pointer (some ⟨g4, 3, none⟩), .pointer (some ⟨g4, 4, none⟩), .pointer (some ⟨g4, 5, none⟩)] 95 (0, 0)))) (HB : Aside0 (Below w.heap.size w v0))
    (hpan : ∀ c_ (a_ b_ : Act) w_, a_.defers = b_.defers → Q0 (Exit.panic c_) a_ w_ → Q0 (Exit.panic c_) b_ w_)
    (herr : ∀ (x6 x7 x8 x9 x18 x19 x20 x21 x22 x23 x24 x25 x26 x27 x28 x29 x30 x31 x32 x33 x34 x35 x36 x37 x38 x39 x40 x41 x42 x43 x44 x45 x46 x47 x48 : Value) (w1 : World), (¬ inr64 (a.o + b.o + c.o) ∧ Aside0 (w1.heap[g2]? = some (.cells (row6 Row6.z) 38 (0, 0))) ∧ Aside0 (Below w.heap.size w w1)) → Q0 Exit.ret ⟨List.toArray (c0 :: .pointer (some ⟨w.heap.size, 0, none⟩) :: .pointer (some ⟨g2, 0, none⟩) :: .int .i64 3 :: .pointer (some ⟨g4, 0, none⟩) :: .pointer (some ⟨g5, 0, none⟩) :: x6 :: x7 :: x8 :: x9 :: c10 :: c11 :: c12 :: c13 :: c14 :: c15 :: c16 :: .agg #[.func (.func 40) #[] #[], .func (.func 41) #[] #[], .func (.func 42) #[] #[], .func (.func 43) #[] #[], .func (.func 44) #[] #[], .func (.func 45) #[] #[]] :: x18 :: x19 :: x20 :: x21 :: x22 :: x23 :: x24 :: x25 :: x26 :: x27 :: x28 :: x29 :: x30 :: x31 :: x32 :: x33 :: x34 :: x35 :: x36 :: x37 :: x38 :: x39 :: x40 :: x41 :: x42 :: x43 :: x44 :: x45 :: x46 :: x47 :: x48 :: c49 :: []), []⟩ w1)
    (hK : ∀ (x6 x7 x8 x9 x19 x20 x21 x22 x23 x24 x25 x26 x27 x28 x29 x30 x31 x32 x33 x34 x35 x36 x37 x38 x39 x40 x41 x42 x43 x44 x45 x46 x47 x48 : Value) (w1 : World), (inr64 (a.o + b.o + c.o) ∧ Aside0 (w1.heap[w.heap.size]? = some (.cells (row18 a b c) 39 (0, 0))) ∧ Aside0 (w1.heap[g2]? = some (.cells (row6 Row6.z) 38 (0, 0))) ∧ Aside0 (w1.heap[g4]? = some (.cells #[.int .i64 (a.o + b.o + c.o), .int .i64 p1, .int .i64 p2, .int .i64 p3, .int .i64 p4, .int .i64 p5] 38 (0, 0))) ∧ Aside0 (w1.heap[g5]? = some (.cells #[.pointer (some ⟨g4, 0, none⟩), .pointer (some ⟨g4, 1, none⟩), .pointer (some ⟨g4, 2, none⟩), .pointer (some ⟨g4, 3, none⟩), .pointer (some ⟨g4, 4, none⟩), .pointer (some ⟨g4, 5, none⟩)] 95 (0, 0))) ∧ Aside0 (Below w.heap.size w w1)) → K ⟨List.toArray (c0 :: .pointer (some ⟨w.heap.size, 0, none⟩) :: .pointer (some ⟨g2, 0, none⟩) :: .int .i64 0 :: .pointer (some ⟨g4, 0, none⟩) :: .pointer (some ⟨g5, 0, none⟩) :: x6 :: x7 :: x8 :: x9 :: c10 :: c11 :: c12 :: c13 :: c14 :: c15 :: c16 :: .agg #[.func (.func 40) #[] #[], .func (.func 41) #[] #[], .func (.func 42) #[] #[], .func (.func 43) #[] #[], .func (.func 44) #[] #[], .func (.func 45) #[] #[]] :: .int .i64 1 :: x19 :: x20 :: x21 :: x22 :: x23 :: x24 :: x25 :: x26 :: x27 :: x28 :: x29 :: x30 :: x31 :: x32 :: x33 :: x34 :: x35 :: x36 :: x37 :: x38 :: x39 :: x40 :: x41 :: x42 :: x43 :: x44 :: x45 :: x46 :: x47 :: x48 :: c49 :: []), []⟩ w1) :
    Code.wp Try.prog allow_Net.body (Exit.then K Q0) ⟨List.toArray (c0 :: .pointer (some ⟨w.heap.size, 0, none⟩) :: .pointer (some ⟨g2, 0, none⟩) :: .int .i64 0 :: .pointer (some ⟨g4, 0, none⟩) :: .pointer (some ⟨g5, 0, none⟩) :: u6 :: u7 :: u8 :: u9 :: c10 :: c11 :: c12 :: c13 :: c14 :: c15 :: c16 :: .agg #[.func (.func 40) #[] #[], .func (.func 41) #[] #[], .func (.func 42) #[] #[], .func (.func 43) #[] #[], .func (.func 44) #[] #[], .func (.func 45) #[] #[]] :: .int .i64 0 :: u19 :: u20 :: u21 :: u22 :: u23 :: u24 :: u25 :: u26 :: u27 :: u28 :: u29 :: u30 :: u31 :: u32 :: u33 :: u34 :: u35 :: u36 :: u37 :: u38 :: u39 :: u40 :: u41 :: u42 :: u43 :: u44 :: u45 :: u46 :: u47 :: u48 :: c49 :: []), []⟩ v0 := by
  conv => arg 2; whnf
  have hix := fun W => allow_Net.ix0 W
  go_wp2_with fail
  have n_HB := Aside0.mk (below_drew1 HB.out)
  have n_BK1 := Aside0.mk (blk_drew BK1.out)
  have n_BK2 := Aside0.mk (blk_drew BK2.out)
  have n_BK4 := Aside0.mk (blk_drew BK4.out)
  have n_BK5 := Aside0.mk (blk_drew BK5.out)
  clear HB BK1 BK2 BK4 BK5
  have HB := n_HB
  clear n_HB
  have BK1 := n_BK1
  clear n_BK1
  have BK2 := n_BK2
  clear n_BK2
  have BK4 := n_BK4
  clear n_BK4
  have BK5 := n_BK5
  clear n_BK5
  obtain ⟨⟨s, e⟩, hse⟩ : ∃ r, r = (if inr64 (a.o + b.o + c.o) then ((a.o + b.o + c.o), (0 : Int)) else (0, 3)) := ⟨_, rfl⟩
  have hsum := allow_Net.sum3 a.o b.o c.o (by have := ha.out; unfold Row6.inr at this; exact this.1) (by have := hb0.out; unfold Row6.inr at this; exact this.1) (by have := hc.out; unfold Row6.inr at this; exact this.1)
  rw [← hse] at hsum
  have HSE := Aside0.mk hse
  have HSUM := Aside0.mk hsum
  clear hse hsum
  refine start_ (n := 19) (S := fun w' => w'.cell? ⟨w.heap.size, 0, none⟩ = some (.int .i64 a.o) ∧ w'.cell? ⟨w.heap.size, 1, none⟩ = some (.int .i64 a.i) ∧ w'.cell? ⟨w.heap.size, 2, none⟩ = some (.int .i64 a.u) ∧ w'.cell? ⟨w.heap.size, 3, none⟩ = some (.int .i64 a.n) ∧ w'.cell? ⟨w.heap.size, 4, none⟩ = some (.int .i64 a.w) ∧ w'.cell? ⟨w.heap.size, 5, none⟩ = some (.int .i64 a.c) ∧ w'.cell? ⟨w.heap.size, 6, none⟩ = some (.int .i64 b.o) ∧ w'.cell? ⟨w.heap.size, 7, none⟩ = some (.int .i64 b.i) ∧ w'.cell? ⟨w.heap.size, 8, none⟩ = some (.int .i64 b.u) ∧ w'.cell? ⟨w.heap.size, 9, none⟩ = some (.int .i64 b.n) ∧ w'.cell? ⟨w.heap.size, 10, none⟩ = some (.int .i64 b.w) ∧ w'.cell? ⟨w.heap.size, 11, none⟩ = some (.int .i64 b.c) ∧ w'.cell? ⟨w.heap.size, 12, none⟩ = some (.int .i64 c.o) ∧ w'.cell? ⟨w.heap.size, 13, none⟩ = some (.int .i64 c.i) ∧ w'.cell? ⟨w.heap.size, 14, none⟩ = some (.int .i64 c.u) ∧ w'.cell? ⟨w.heap.size, 15, none⟩ = some (.int .i64 c.n) ∧ w'.cell? ⟨w.heap.size, 16, none⟩ = some (.int .i64 c.w) ∧ w'.cell? ⟨w.heap.size, 17, none⟩ = some (.int .i64 c.c)) (ds := []) #[false, false, false, false, false, false, false, false, false, false, false, false, false, false, false, false, false, false, false] (by kernel_rfl) rfl rfl ⟨(blk_cell BK1.out 0).trans rfl, (blk_cell BK1.out 1).trans rfl, (blk_cell BK1.out 2).trans rfl, (blk_cell BK1.out 3).trans rfl, (blk_cell BK1.out 4).trans rfl, (blk_cell BK1.out 5).trans rfl, (blk_cell BK1.out 6).trans rfl, (blk_cell BK1.out 7).trans rfl, (blk_cell BK1.out 8).trans rfl, (blk_cell BK1.out 9).trans rfl, (blk_cell BK1.out 10).trans rfl, (blk_cell BK1.out 11).trans rfl, (blk_cell BK1.out 12).trans rfl, (blk_cell BK1.out 13).trans rfl, (blk_cell BK1.out 14).trans rfl, (blk_cell BK1.out 15).trans rfl, (blk_cell BK1.out 16).trans rfl, (blk_cell BK1.out 17).trans rfl⟩ (fun hHeld => ?_)
  generalize v0.drew = x0 at HB BK1 BK2 BK4 BK5 hHeld ⊢
  refine pure_ (i := 0) (N := some 23) (v := ?_) (a' := ?_) #[true, false, false, false, false, false, false, false, false, false, false, false, false, false, false, false, false, false, false] rfl rfl (by kernel_rfl) (fun c_ a_ w_ h => hpan c_ (Act.put a_ _ _) a_ w_ (by rfl) h) (Or.inl ⟨by rfl, ?_⟩) ?_ ?_
  rotate_left
  · intro w'
    go_simp
    with_reducible rfl
  rotate_left
  · simp only [Act.put, List.setIfInBounds_toArray, List.set_cons_zero, List.set_cons_succ, i64_w, i32_w]
    rfl
  refine pure_ (i := 1) (N := some 24) (v := ?_) (a' := ?_) #[true, true, false, false, false, false, false, false, false, false, false, false, false, false, false, false, false, false, false] rfl rfl (by kernel_rfl) (fun c_ a_ w_ h => hpan c_ (Act.put a_ _ _) a_ w_ (by rfl) h) (Or.inl ⟨by rfl, ?_⟩) ?_ ?_
  rotate_left
  · intro w'
    go_simp
    with_reducible rfl
  rotate_left
  · simp only [Act.put, List.setIfInBounds_toArray, List.set_cons_zero, List.set_cons_succ, i64_w, i32_w]
    rfl
  refine pure_ (i := 4) (N := some 27) (v := ?_) (a' := ?_) #[true, true, false, false, true, false, false, false, false, false, false, false, false, false, false, false, false, false, false] rfl rfl (by kernel_rfl) (fun c_ a_ w_ h => hpan c_ (Act.put a_ _ _) a_ w_ (by rfl) h) (Or.inl ⟨by rfl, ?_⟩) ?_ ?_
  rotate_left
  · intro w'
    go_simp
    with_reducible rfl
  rotate_left
  · simp only [Act.put, List.setIfInBounds_toArray, List.set_cons_zero, List.set_cons_succ, i64_w, i32_w]
    rfl
  refine pure_ (i := 5) (N := some 28) (v := ?_) (a' := ?_) #[true, true, false, false, true, true, false, false, false, false, false, false, false, false, false, false, false, false, false] rfl rfl (by kernel_rfl) (fun c_ a_ w_ h => hpan c_ (Act.put a_ _ _) a_ w_ (by rfl) h) (Or.inl ⟨by rfl, ?_⟩) ?_ ?_
  rotate_left
  · intro w'
    go_simp
    with_reducible rfl
  rotate_left
  · simp only [Act.put, List.setIfInBounds_toArray, List.set_cons_zero, List.set_cons_succ, i64_w, i32_w]
    rfl
  refine pure_ (i := 8) (N := some 31) (v := ?_) (a' := ?_) #[true, true, false, false, true, true, false, false, true, false, false, false, false, false, false, false, false, false, false] rfl rfl (by kernel_rfl) (fun c_ a_ w_ h => hpan c_ (Act.put a_ _ _) a_ w_ (by rfl) h) (Or.inl ⟨by rfl, ?_⟩) ?_ ?_
  rotate_left
  · intro w'
    go_simp
    with_reducible rfl
  rotate_left
  · simp only [Act.put, List.setIfInBounds_toArray, List.set_cons_zero, List.set_cons_succ, i64_w, i32_w]
    rfl
  refine pure_ (i := 9) (N := some 32) (v := ?_) (a' := ?_) #[true, true, false, false, true, true, false, false, true, true, false, false, false, false, false, false, false, false, false] rfl rfl (by kernel_rfl) (fun c_ a_ w_ h => hpan c_ (Act.put a_ _ _) a_ w_ (by rfl) h) (Or.inl ⟨by rfl, ?_⟩) ?_ ?_
  rotate_left
  · intro w'
    go_simp
    with_reducible rfl
  rotate_left
  · simp only [Act.put, List.setIfInBounds_toArray, List.set_cons_zero, List.set_cons_succ, i64_w, i32_w]
    rfl
  refine take_ (i := 2) (N := some 25) (v := ?_) (a' := ?_) #[true, true, true, false, true, true, false, false, true, true, false, false, false, false, false, false, false, false, false] rfl rfl (by kernel_rfl) (fun c_ a_ w_ h => hpan c_ (Act.put a_ _ _) a_ w_ (by rfl) h) (Or.inl ⟨by rfl, ?_⟩) hHeld ?_ ?_
  rotate_left
  · rintro w' ⟨s0, s1, s2, s3, s4, s5, s6, s7, s8, s9, s10, s11, s12, s13, s14, s15, s16, s17⟩
    go_simp
    with_reducible rfl
  rotate_left
  · simp only [Act.put, List.setIfInBounds_toArray, List.set_cons_zero, List.set_cons_succ, i64_w, i32_w]
    rfl
  refine take_ (i := 6) (N := some 29) (v := ?_) (a' := ?_) #[true, true, true, false, true, true, true, false, true, true, false, false, false, false, false, false, false, false, false] rfl rfl (by kernel_rfl) (fun c_ a_ w_ h => hpan c_ (Act.put a_ _ _) a_ w_ (by rfl) h) (Or.inl ⟨by rfl, ?_⟩) hHeld ?_ ?_
  rotate_left
  · rintro w' ⟨s0, s1, s2, s3, s4, s5, s6, s7, s8, s9, s10, s11, s12, s13, s14, s15, s16, s17⟩
    go_simp
    with_reducible rfl
  rotate_left
  · simp only [Act.put, List.setIfInBounds_toArray, List.set_cons_zero, List.set_cons_succ, i64_w, i32_w]
    rfl
  refine take_ (i := 10) (N := some 33) (v := ?_) (a' := ?_) #[true, true, true, false, true, true, true, false, true, true, true, false, false, false, false, false, false, false, false] rfl rfl (by kernel_rfl) (fun c_ a_ w_ h => hpan c_ (Act.put a_ _ _) a_ w_ (by rfl) h) (Or.inl ⟨by rfl, ?_⟩) hHeld ?_ ?_
  rotate_left
  · rintro w' ⟨s0, s1, s2, s3, s4, s5, s6, s7, s8, s9, s10, s11, s12, s13, s14, s15, s16, s17⟩
    go_simp
    with_reducible rfl
  rotate_left
  · simp only [Act.put, List.setIfInBounds_toArray, List.set_cons_zero, List.set_cons_succ, i64_w, i32_w]
    rfl
  refine one_ (i := 3) (N := some 26) #[true, true, true, true, true, true, true, false, true, true, true, false, false, false, false, false, false, false, false] rfl rfl (by kernel_rfl) (by decide) (fun K hK => ?_)
  refine goes_v Try.func40 (by kernel_rfl) rfl #[.agg #[.int .i64 a.o, .int .i64 a.i, .int .i64 a.u, .int .i64 a.n, .int .i64 a.w, .int .i64 a.c]] (by rfl) rfl rfl (by rfl) (by (try simp only [List.map_toArray, List.map_cons, List.map_nil]); first | done | rfl) ?_
  with_reducible refine (allow_Net.c28 a _).mono ?_
  rintro e y1_ ⟨rfl, hb⟩
  refine ⟨_, rfl, ?_⟩
  have n_HB := Aside0.mk (below_step HB.out hb)
  have n_BK1 := Aside0.mk (blk_below BK1.out hb)
  have n_BK2 := Aside0.mk (blk_below BK2.out hb)
  have n_BK4 := Aside0.mk (blk_below BK4.out hb)
  have n_BK5 := Aside0.mk (blk_below BK5.out hb)
  clear HB
  have HB := n_HB
  clear n_HB
  clear BK1
  have BK1 := n_BK1
  clear n_BK1
  clear BK2
  have BK2 := n_BK2
  clear n_BK2
  clear BK4
  have BK4 := n_BK4
  clear n_BK4
  clear BK5
  have BK5 := n_BK5
  clear n_BK5
  clear hb
  refine hK.out _ _ ⟨(blk_cell BK1.out 0).trans rfl, (blk_cell BK1.out 1).trans rfl, (blk_cell BK1.out 2).trans rfl, (blk_cell BK1.out 3).trans rfl, (blk_cell BK1.out 4).trans rfl, (blk_cell BK1.out 5).trans rfl, (blk_cell BK1.out 6).trans rfl, (blk_cell BK1.out 7).trans rfl, (blk_cell BK1.out 8).trans rfl, (blk_cell BK1.out 9).trans rfl, (blk_cell BK1.out 10).trans rfl, (blk_cell BK1.out 11).trans rfl, (blk_cell BK1.out 12).trans rfl, (blk_cell BK1.out 13).trans rfl, (blk_cell BK1.out 14).trans rfl, (blk_cell BK1.out 15).trans rfl, (blk_cell BK1.out 16).trans rfl, (blk_cell BK1.out 17).trans rfl⟩ (fun hHeld => ?_)
  clear hK K
  refine norm_ (a' := ?_) ?_ ?_
  rotate_left
  · show Act.put _ (some 26) _ = _
    simp only [Act.put, List.setIfInBounds_toArray, List.set_cons_zero, List.set_cons_succ, i64_w, i32_w]
    rfl
  refine one_ (i := 7) (N := some 30) #[true, true, true, true, true, true, true, true, true, true, true, false, false, false, false, false, false, false, false] rfl rfl (by kernel_rfl) (by decide) (fun K hK => ?_)
  refine goes_v Try.func40 (by kernel_rfl) rfl #[.agg #[.int .i64 b.o, .int .i64 b.i, .int .i64 b.u, .int .i64 b.n, .int .i64 b.w, .int .i64 b.c]] (by rfl) rfl rfl (by rfl) (by (try simp only [List.map_toArray, List.map_cons, List.map_nil]); first | done | rfl) ?_
  with_reducible refine (allow_Net.c28 b _).mono ?_
  rintro e y2_ ⟨rfl, hb⟩
  refine ⟨_, rfl, ?_⟩
  have n_HB := Aside0.mk (below_step HB.out hb)
  have n_BK1 := Aside0.mk (blk_below BK1.out hb)
  have n_BK2 := Aside0.mk (blk_below BK2.out hb)
  have n_BK4 := Aside0.mk (blk_below BK4.out hb)
  have n_BK5 := Aside0.mk (blk_below BK5.out hb)
  clear HB
  have HB := n_HB
  clear n_HB
  clear BK1
  have BK1 := n_BK1
  clear n_BK1
  clear BK2
  have BK2 := n_BK2
  clear n_BK2
  clear BK4
  have BK4 := n_BK4
  clear n_BK4
  clear BK5
  have BK5 := n_BK5
  clear n_BK5
  clear hb
  refine hK.out _ _ ⟨(blk_cell BK1.out 0).trans rfl, (blk_cell BK1.out 1).trans rfl, (blk_cell BK1.out 2).trans rfl, (blk_cell BK1.out 3).trans rfl, (blk_cell BK1.out 4).trans rfl, (blk_cell BK1.out 5).trans rfl, (blk_cell BK1.out 6).trans rfl, (blk_cell BK1.out 7).trans rfl, (blk_cell BK1.out 8).trans rfl, (blk_cell BK1.out 9).trans rfl, (blk_cell BK1.out 10).trans rfl, (blk_cell BK1.out 11).trans rfl, (blk_cell BK1.out 12).trans rfl, (blk_cell BK1.out 13).trans rfl, (blk_cell BK1.out 14).trans rfl, (blk_cell BK1.out 15).trans rfl, (blk_cell BK1.out 16).trans rfl, (blk_cell BK1.out 17).trans rfl⟩ (fun hHeld => ?_)
  clear hK K
  refine norm_ (a' := ?_) ?_ ?_
  rotate_left
  · show Act.put _ (some 30) _ = _
    simp only [Act.put, List.setIfInBounds_toArray, List.set_cons_zero, List.set_cons_succ, i64_w, i32_w]
    rfl
  refine one_ (i := 11) (N := some 34) #[true, true, true, true, true, true, true, true, true, true, true, true, false, false, false, false, false, false, false] rfl rfl (by kernel_rfl) (by decide) (fun K hK => ?_)
  refine goes_v Try.func40 (by kernel_rfl) rfl #[.agg #[.int .i64 c.o, .int .i64 c.i, .int .i64 c.u, .int .i64 c.n, .int .i64 c.w, .int .i64 c.c]] (by rfl) rfl rfl (by rfl) (by (try simp only [List.map_toArray, List.map_cons, List.map_nil]); first | done | rfl) ?_
  with_reducible refine (allow_Net.c28 c _).mono ?_
  rintro e y3_ ⟨rfl, hb⟩
  refine ⟨_, rfl, ?_⟩
  have n_HB := Aside0.mk (below_step HB.out hb)
  have n_BK1 := Aside0.mk (blk_below BK1.out hb)
  have n_BK2 := Aside0.mk (blk_below BK2.out hb)
  have n_BK4 := Aside0.mk (blk_below BK4.out hb)
  have n_BK5 := Aside0.mk (blk_below BK5.out hb)
  clear HB
  have HB := n_HB
  clear n_HB
  clear BK1
  have BK1 := n_BK1
  clear n_BK1
  clear BK2
  have BK2 := n_BK2
  clear n_BK2
  clear BK4
  have BK4 := n_BK4
  clear n_BK4
  clear BK5
  have BK5 := n_BK5
  clear n_BK5
  clear hb
  refine hK.out _ _ ⟨(blk_cell BK1.out 0).trans rfl, (blk_cell BK1.out 1).trans rfl, (blk_cell BK1.out 2).trans rfl, (blk_cell BK1.out 3).trans rfl, (blk_cell BK1.out 4).trans rfl, (blk_cell BK1.out 5).trans rfl, (blk_cell BK1.out 6).trans rfl, (blk_cell BK1.out 7).trans rfl, (blk_cell BK1.out 8).trans rfl, (blk_cell BK1.out 9).trans rfl, (blk_cell BK1.out 10).trans rfl, (blk_cell BK1.out 11).trans rfl, (blk_cell BK1.out 12).trans rfl, (blk_cell BK1.out 13).trans rfl, (blk_cell BK1.out 14).trans rfl, (blk_cell BK1.out 15).trans rfl, (blk_cell BK1.out 16).trans rfl, (blk_cell BK1.out 17).trans rfl⟩ (fun hHeld => ?_)
  clear hK K
  refine norm_ (a' := ?_) ?_ ?_
  rotate_left
  · show Act.put _ (some 34) _ = _
    simp only [Act.put, List.setIfInBounds_toArray, List.set_cons_zero, List.set_cons_succ, i64_w, i32_w]
    rfl
  refine one_ (i := 12) (N := some 35) #[true, true, true, true, true, true, true, true, true, true, true, true, true, false, false, false, false, false, false] rfl rfl (by kernel_rfl) (by decide) (fun K hK => ?_)
  refine value_ (w1 := ?_) (v := ?_) (by rfl) rfl ?_ ?_
  rotate_left 2
  · go_simp
    constructor
    · rfl
    · rfl
  have hb := below_alloc (Below.refl y3_.heap.size y3_) (.cells #[.int .i64 a.o, .int .i64 b.o, .int .i64 c.o] 2)
  have hbox := blk_new y3_ (.cells #[.int .i64 a.o, .int .i64 b.o, .int .i64 c.o] 2)
  have m_ := Aside0.mk hbox
  have n_HB := Aside0.mk (below_step HB.out hb)
  have n_BK1 := Aside0.mk (blk_below BK1.out hb)
  have n_BK2 := Aside0.mk (blk_below BK2.out hb)
  have n_BK4 := Aside0.mk (blk_below BK4.out hb)
  have n_BK5 := Aside0.mk (blk_below BK5.out hb)
  clear HB
  have HB := n_HB
  clear n_HB
  clear BK1
  have BK1 := n_BK1
  clear n_BK1
  clear BK2
  have BK2 := n_BK2
  clear n_BK2
  clear BK4
  have BK4 := n_BK4
  clear n_BK4
  clear BK5
  have BK5 := n_BK5
  clear n_BK5
  clear hb hbox
  generalize y3_.alloc (.cells #[.int .i64 a.o, .int .i64 b.o, .int .i64 c.o] 2) = y4_ at m_ HB BK1 BK2 BK4 BK5 ⊢
  generalize y3_.heap.size = gl at m_ ⊢
  have BKgl := m_
  clear m_
  refine hK.out _ _ ⟨(blk_cell BK1.out 0).trans rfl, (blk_cell BK1.out 1).trans rfl, (blk_cell BK1.out 2).trans rfl, (blk_cell BK1.out 3).trans rfl, (blk_cell BK1.out 4).trans rfl, (blk_cell BK1.out 5).trans rfl, (blk_cell BK1.out 6).trans rfl, (blk_cell BK1.out 7).trans rfl, (blk_cell BK1.out 8).trans rfl, (blk_cell BK1.out 9).trans rfl, (blk_cell BK1.out 10).trans rfl, (blk_cell BK1.out 11).trans rfl, (blk_cell BK1.out 12).trans rfl, (blk_cell BK1.out 13).trans rfl, (blk_cell BK1.out 14).trans rfl, (blk_cell BK1.out 15).trans rfl, (blk_cell BK1.out 16).trans rfl, (blk_cell BK1.out 17).trans rfl⟩ (fun hHeld => ?_)
  clear hK K
  refine norm_ (a' := ?_) ?_ ?_
  rotate_left
  · show Act.put _ (some 35) _ = _
    simp only [Act.put, List.setIfInBounds_toArray, List.set_cons_zero, List.set_cons_succ, i64_w, i32_w]
    rfl
  refine one_ (i := 13) (N := some 36) #[true, true, true, true, true, true, true, true, true, true, true, true, true, true, false, false, false, false, false] rfl rfl (by kernel_rfl) (by decide) (fun K hK => ?_)
  refine goes_ Try.func46 (by kernel_rfl) rfl #[.slice (some ⟨gl, 0, none⟩) 3 3] (by rfl) rfl rfl (by (try simp only [List.map_toArray, List.map_cons, List.map_nil]); first | done | rfl) ?_
  with_reducible refine (allow_Net.sumc HSUM.out BKgl.out).mono ?_
  rintro e y5_ ⟨rfl, hd⟩
  have hb := hd.below
  refine ⟨_, rfl, ?_⟩
  have n_HB := Aside0.mk (below_step HB.out hb)
  have n_BK1 := Aside0.mk (blk_below BK1.out hb)
  have n_BK2 := Aside0.mk (blk_below BK2.out hb)
  have n_BK4 := Aside0.mk (blk_below BK4.out hb)
  have n_BK5 := Aside0.mk (blk_below BK5.out hb)
  have n_BKgl := Aside0.mk (blk_below BKgl.out hb)
  clear HB
  have HB := n_HB
  clear n_HB
  clear BK1
  have BK1 := n_BK1
  clear n_BK1
  clear BK2
  have BK2 := n_BK2
  clear n_BK2
  clear BK4
  have BK4 := n_BK4
  clear n_BK4
  clear BK5
  have BK5 := n_BK5
  clear n_BK5
  clear BKgl
  have BKgl := n_BKgl
  clear n_BKgl
  clear hb
  refine hK.out _ _ ⟨(blk_cell BK1.out 0).trans rfl, (blk_cell BK1.out 1).trans rfl, (blk_cell BK1.out 2).trans rfl, (blk_cell BK1.out 3).trans rfl, (blk_cell BK1.out 4).trans rfl, (blk_cell BK1.out 5).trans rfl, (blk_cell BK1.out 6).trans rfl, (blk_cell BK1.out 7).trans rfl, (blk_cell BK1.out 8).trans rfl, (blk_cell BK1.out 9).trans rfl, (blk_cell BK1.out 10).trans rfl, (blk_cell BK1.out 11).trans rfl, (blk_cell BK1.out 12).trans rfl, (blk_cell BK1.out 13).trans rfl, (blk_cell BK1.out 14).trans rfl, (blk_cell BK1.out 15).trans rfl, (blk_cell BK1.out 16).trans rfl, (blk_cell BK1.out 17).trans rfl⟩ (fun hHeld => ?_)
  clear hK K
  refine norm_ (a' := ?_) ?_ ?_
  rotate_left
  · show Act.put _ (some 36) _ = _
    simp only [Act.put, List.setIfInBounds_toArray, List.set_cons_zero, List.set_cons_succ, i64_w, i32_w]
    rfl
  refine pure_ (i := 14) (N := some 22) (v := ?_) (a' := ?_) #[true, true, true, true, true, true, true, true, true, true, true, true, true, true, true, false, false, false, false] rfl rfl (by kernel_rfl) (fun c_ a_ w_ h => hpan c_ (Act.put a_ _ _) a_ w_ (by rfl) h) (Or.inl ⟨by rfl, ?_⟩) ?_ ?_
  rotate_left
  · intro w'
    go_simp
    with_reducible rfl
  rotate_left
  · simp only [Act.put, List.setIfInBounds_toArray, List.set_cons_zero, List.set_cons_succ, i64_w, i32_w]
    rfl
  refine pure_ (i := 15) (N := some 37) (v := ?_) (a' := ?_) #[true, true, true, true, true, true, true, true, true, true, true, true, true, true, true, true, false, false, false] rfl rfl (by kernel_rfl) (fun c_ a_ w_ h => hpan c_ (Act.put a_ _ _) a_ w_ (by rfl) h) (Or.inl ⟨by rfl, ?_⟩) ?_ ?_
  rotate_left
  · intro w'
    go_simp
    with_reducible rfl
  rotate_left
  · simp only [Act.put, List.setIfInBounds_toArray, List.set_cons_zero, List.set_cons_succ, i64_w, i32_w]
    rfl
  refine pure_ (i := 16) (N := some 38) (v := ?_) (a' := ?_) #[true, true, true, true, true, true, true, true, true, true, true, true, true, true, true, true, true, false, false] rfl rfl (by kernel_rfl) (fun c_ a_ w_ h => hpan c_ (Act.put a_ _ _) a_ w_ (by rfl) h) (Or.inl ⟨by rfl, ?_⟩) ?_ ?_
  rotate_left
  · intro w'
    go_simp
    with_reducible rfl
  rotate_left
  · simp only [Act.put, List.setIfInBounds_toArray, List.set_cons_zero, List.set_cons_succ, i64_w, i32_w]
    rfl
  refine pure_ (i := 17) (N := some 8) (v := ?_) (a' := ?_) #[true, true, true, true, true, true, true, true, true, true, true, true, true, true, true, true, true, true, false] rfl rfl (by kernel_rfl) (fun c_ a_ w_ h => hpan c_ (Act.put a_ _ _) a_ w_ (by rfl) h) (Or.inl ⟨by rfl, ?_⟩) ?_ ?_
  rotate_left
  · intro w'
    go_simp
    with_reducible rfl
  rotate_left
  · simp only [Act.put, List.setIfInBounds_toArray, List.set_cons_zero, List.set_cons_succ, i64_w, i32_w]
    rfl
  refine pure_ (i := 18) (N := some 9) (v := ?_) (a' := ?_) #[true, true, true, true, true, true, true, true, true, true, true, true, true, true, true, true, true, true, true] rfl rfl (by kernel_rfl) (fun c_ a_ w_ h => hpan c_ (Act.put a_ _ _) a_ w_ (by rfl) h) (Or.inl ⟨by rfl, ?_⟩) ?_ ?_
  rotate_left
  · intro w'
    go_simp
    with_reducible rfl
  rotate_left
  · simp only [Act.put, List.setIfInBounds_toArray, List.set_cons_zero, List.set_cons_succ, i64_w, i32_w]
    rfl
  refine done_ (by kernel_rfl) ?_
  clear hHeld HSUM BKgl
  by_cases hi : inr64 (a.o + b.o + c.o)
  case neg =>
    have hq := HSE.out
    rw [if_neg hi] at hq
    simp only [Prod.mk.injEq] at hq
    obtain ⟨rfl, rfl⟩ := hq
    have HI := Aside0.mk hi
    clear hi hK
    go_wp2_with ((with_reducible refine gate_store (t := 38) (p := 2) (v := .tmp 41) rfl ?_); refine Shut.out ?_)
    unfold Shut
    refine store_rowTo rfl 38 (.tmp 2) (.tmp 41) rfl rfl g2 (row6 Row6.z) rfl rfl 38 _ BK2.out (by kernel_rfl) rfl (all6n _ _ _ _ _ _) ?_
    have HBn := Aside0.mk (row_below (g := g2) HB.out (by omega) (row6 Row6.z))
    have BKn := Aside0.mk (setRow_heap _ _ _ (row6 Row6.z) _ _ BK2.out)
    clear HB BK2
    go_wp2_with fail
    exact ⟨HI.out, BKn, HBn⟩
  have hq := HSE.out
  rw [if_pos hi] at hq
  simp only [Prod.mk.injEq] at hq
  obtain ⟨hs, rfl⟩ := hq
  have HS := Aside0.mk hs
  have HI := Aside0.mk hi
  clear hs hi HSE herr
  have kp : y5_.cell? ⟨g5, 0, none⟩ = some (.pointer (some ⟨g4, 0, none⟩)) := blk_cell BK5.out 0
  have kc : y5_.cell? ⟨g4, 0, none⟩ = some (.int .i64 0) := blk_cell BK4.out 0
  have kf := blk_frozen BK4.out 0
  go_wp2_with fail
  have n_HB := Aside0.mk (HB.out.setCell (p := ⟨g4, 0, none⟩) (show w.heap.size ≤ g4 by omega) (.int .i64 s))
  have n_BK1 := Aside0.mk ((Below.heap_setCell y5_ ⟨g4, 0, none⟩ (.int .i64 s) w.heap.size (show w.heap.size ≠ g4 by omega)).trans BK1.out)
  have n_BK2 := Aside0.mk ((Below.heap_setCell y5_ ⟨g4, 0, none⟩ (.int .i64 s) g2 (show g2 ≠ g4 by omega)).trans BK2.out)
  have n_BK5 := Aside0.mk ((Below.heap_setCell y5_ ⟨g4, 0, none⟩ (.int .i64 s) g5 (show g5 ≠ g4 by omega)).trans BK5.out)
  have n_BK4 := Aside0.mk (blk_put BK4.out 0 (.int .i64 s) (show _ = (#[.int .i64 (a.o + b.o + c.o), .int .i64 p1, .int .i64 p2, .int .i64 p3, .int .i64 p4, .int .i64 p5] : Array Value) from by rw [HS.out]; rfl))
  first | exact ⟨HI.out, n_BK1, n_BK2, n_BK4, n_BK5, n_HB⟩ | (refine hK _ _ _ _ _ _ _ _ _ _ _ _ _ _ _ _ _ _ _ _ _ _ _ _ _ _ _ _ _ _ _ _ _ _ _ ⟨HI.out, n_BK1, n_BK2, n_BK4, n_BK5, n_HB⟩)
set_option maxHeartbeats 16000000 in
set_option maxRecDepth 1000000 in
theorem allow_Net.round1 {a b c : Row6} (ha : Aside0 a.inr) (hb0 : Aside0 b.inr) (hc : Aside0 c.inr) {w v0 : World} {g2 g4 g5 : Nat} (hlt2 : w.heap.size < g2) (hlt4 : g2 < g4) (hlt5 : g4 < g5) {p0 p2 p3 p4 p5 : Int} {K : Act → World → Prop} {Q0 : Exit → Act → World → Prop} {c0 c10 c11 c12 c13 c14 c15 c16 c49 : Value} {u6 u7 u8 u9 u19 u20 u21 u22 u23 u24 u25 u26 u27 u28 u29 u30 u31 u32 u33 u34 u35 u36 u37 u38 u39 u40 u41 u42 u43 u44 u45 u46 u47 u48 : Value}
    (BK1 : Aside0 (v0.heap[w.heap.size]? = some (.cells (row18 a b c) 39 (0, 0)))) (BK2 : Aside0 (v0.heap[g2]? = some (.cells (row6 Row6.z) 38 (0, 0)))) (BK4 : Aside0 (v0.heap[g4]? = some (.cells #[.int .i64 p0, .int .i64 0, .int .i64 p2, .int .i64 p3, .int .i64 p4, .int .i64 p5] 38 (0, 0)))) (BK5 : Aside0 (v0.heap[g5]? = some (.cells #[.pointer (some ⟨g4, 0, none⟩), .pointer (some ⟨g4, 1, none⟩), .pointer (some ⟨g4, 2, none⟩), .pointer (some ⟨g4, 3, none⟩), .pointer (some ⟨g4, 4, none⟩), .pointer (some ⟨g4, 5, none⟩)] 95 (0, 0)))) (HB : Aside0 (Below w.heap.size w v0))
    (hpan : ∀ c_ (a_ b_ : Act) w_, a_.defers = b_.defers → Q0 (Exit.panic c_) a_ w_ → Q0 (Exit.panic c_) b_ w_)
    (herr : ∀ (x6 x7 x8 x9 x18 x19 x20 x21 x22 x23 x24 x25 x26 x27 x28 x29 x30 x31 x32 x33 x34 x35 x36 x37 x38 x39 x40 x41 x42 x43 x44 x45 x46 x47 x48 : Value) (w1 : World), (¬ inr64 (a.i + b.i + c.i) ∧ Aside0 (w1.heap[g2]? = some (.cells (row6 Row6.z) 38 (0, 0))) ∧ Aside0 (Below w.heap.size w w1)) → Q0 Exit.ret ⟨List.toArray (c0 :: .pointer (some ⟨w.heap.size, 0, none⟩) :: .pointer (some ⟨g2, 0, none⟩) :: .int .i64 3 :: .pointer (some ⟨g4, 0, none⟩) :: .pointer (some ⟨g5, 0, none⟩) :: x6 :: x7 :: x8 :: x9 :: c10 :: c11 :: c12 :: c13 :: c14 :: c15 :: c16 :: .agg #[.func (.func 40) #[] #[], .func (.func 41) #[] #[], .func (.func 42) #[] #[], .func (.func 43) #[] #[], .func (.func 44) #[] #[], .func (.func 45) #[] #[]] :: x18 :: x19 :: x20 :: x21 :: x22 :: x23 :: x24 :: x25 :: x26 :: x27 :: x28 :: x29 :: x30 :: x31 :: x32 :: x33 :: x34 :: x35 :: x36 :: x37 :: x38 :: x39 :: x40 :: x41 :: x42 :: x43 :: x44 :: x45 :: x46 :: x47 :: x48 :: c49 :: []), []⟩ w1)
    (hK : ∀ (x6 x7 x8 x9 x19 x20 x21 x22 x23 x24 x25 x26 x27 x28 x29 x30 x31 x32 x33 x34 x35 x36 x37 x38 x39 x40 x41 x42 x43 x44 x45 x46 x47 x48 : Value) (w1 : World), (inr64 (a.i + b.i + c.i) ∧ Aside0 (w1.heap[w.heap.size]? = some (.cells (row18 a b c) 39 (0, 0))) ∧ Aside0 (w1.heap[g2]? = some (.cells (row6 Row6.z) 38 (0, 0))) ∧ Aside0 (w1.heap[g4]? = some (.cells #[.int .i64 p0, .int .i64 (a.i + b.i + c.i), .int .i64 p2, .int .i64 p3, .int .i64 p4, .int .i64 p5] 38 (0, 0))) ∧ Aside0 (w1.heap[g5]? = some (.cells #[.pointer (some ⟨g4, 0, none⟩), .pointer (some ⟨g4, 1, none⟩), .pointer (some ⟨g4, 2, none⟩), .pointer (some ⟨g4, 3, none⟩), .pointer (some ⟨g4, 4, none⟩), .pointer (some ⟨g4, 5, none⟩)] 95 (0, 0))) ∧ Aside0 (Below w.heap.size w w1)) → K ⟨List.toArray (c0 :: .pointer (some ⟨w.heap.size, 0, none⟩) :: .pointer (some ⟨g2, 0, none⟩) :: .int .i64 0 :: .pointer (some ⟨g4, 0, none⟩) :: .pointer (some ⟨g5, 0, none⟩) :: x6 :: x7 :: x8 :: x9 :: c10 :: c11 :: c12 :: c13 :: c14 :: c15 :: c16 :: .agg #[.func (.func 40) #[] #[], .func (.func 41) #[] #[], .func (.func 42) #[] #[], .func (.func 43) #[] #[], .func (.func 44) #[] #[], .func (.func 45) #[] #[]] :: .int .i64 2 :: x19 :: x20 :: x21 :: x22 :: x23 :: x24 :: x25 :: x26 :: x27 :: x28 :: x29 :: x30 :: x31 :: x32 :: x33 :: x34 :: x35 :: x36 :: x37 :: x38 :: x39 :: x40 :: x41 :: x42 :: x43 :: x44 :: x45 :: x46 :: x47 :: x48 :: c49 :: []), []⟩ w1) :
    Code.wp Try.prog allow_Net.body (Exit.then K Q0) ⟨List.toArray (c0 :: .pointer (some ⟨w.heap.size, 0, none⟩) :: .pointer (some ⟨g2, 0, none⟩) :: .int .i64 0 :: .pointer (some ⟨g4, 0, none⟩) :: .pointer (some ⟨g5, 0, none⟩) :: u6 :: u7 :: u8 :: u9 :: c10 :: c11 :: c12 :: c13 :: c14 :: c15 :: c16 :: .agg #[.func (.func 40) #[] #[], .func (.func 41) #[] #[], .func (.func 42) #[] #[], .func (.func 43) #[] #[], .func (.func 44) #[] #[], .func (.func 45) #[] #[]] :: .int .i64 1 :: u19 :: u20 :: u21 :: u22 :: u23 :: u24 :: u25 :: u26 :: u27 :: u28 :: u29 :: u30 :: u31 :: u32 :: u33 :: u34 :: u35 :: u36 :: u37 :: u38 :: u39 :: u40 :: u41 :: u42 :: u43 :: u44 :: u45 :: u46 :: u47 :: u48 :: c49 :: []), []⟩ v0 := by
  conv => arg 2; whnf
  have hix := fun W => allow_Net.ix1 W
  go_wp2_with fail
  have n_HB := Aside0.mk (below_drew1 HB.out)
  have n_BK1 := Aside0.mk (blk_drew BK1.out)
  have n_BK2 := Aside0.mk (blk_drew BK2.out)
  have n_BK4 := Aside0.mk (blk_drew BK4.out)
  have n_BK5 := Aside0.mk (blk_drew BK5.out)
  clear HB BK1 BK2 BK4 BK5
  have HB := n_HB
  clear n_HB
  have BK1 := n_BK1
  clear n_BK1
  have BK2 := n_BK2
  clear n_BK2
  have BK4 := n_BK4
  clear n_BK4
  have BK5 := n_BK5
  clear n_BK5
  obtain ⟨⟨s, e⟩, hse⟩ : ∃ r, r = (if inr64 (a.i + b.i + c.i) then ((a.i + b.i + c.i), (0 : Int)) else (0, 3)) := ⟨_, rfl⟩
  have hsum := allow_Net.sum3 a.i b.i c.i (by have := ha.out; unfold Row6.inr at this; exact this.2.1) (by have := hb0.out; unfold Row6.inr at this; exact this.2.1) (by have := hc.out; unfold Row6.inr at this; exact this.2.1)
  rw [← hse] at hsum
  have HSE := Aside0.mk hse
  have HSUM := Aside0.mk hsum
  clear hse hsum
  refine start_ (n := 19) (S := fun w' => w'.cell? ⟨w.heap.size, 0, none⟩ = some (.int .i64 a.o) ∧ w'.cell? ⟨w.heap.size, 1, none⟩ = some (.int .i64 a.i) ∧ w'.cell? ⟨w.heap.size, 2, none⟩ = some (.int .i64 a.u) ∧ w'.cell? ⟨w.heap.size, 3, none⟩ = some (.int .i64 a.n) ∧ w'.cell? ⟨w.heap.size, 4, none⟩ = some (.int .i64 a.w) ∧ w'.cell? ⟨w.heap.size, 5, none⟩ = some (.int .i64 a.c) ∧ w'.cell? ⟨w.heap.size, 6, none⟩ = some (.int .i64 b.o) ∧ w'.cell? ⟨w.heap.size, 7, none⟩ = some (.int .i64 b.i) ∧ w'.cell? ⟨w.heap.size, 8, none⟩ = some (.int .i64 b.u) ∧ w'.cell? ⟨w.heap.size, 9, none⟩ = some (.int .i64 b.n) ∧ w'.cell? ⟨w.heap.size, 10, none⟩ = some (.int .i64 b.w) ∧ w'.cell? ⟨w.heap.size, 11, none⟩ = some (.int .i64 b.c) ∧ w'.cell? ⟨w.heap.size, 12, none⟩ = some (.int .i64 c.o) ∧ w'.cell? ⟨w.heap.size, 13, none⟩ = some (.int .i64 c.i) ∧ w'.cell? ⟨w.heap.size, 14, none⟩ = some (.int .i64 c.u) ∧ w'.cell? ⟨w.heap.size, 15, none⟩ = some (.int .i64 c.n) ∧ w'.cell? ⟨w.heap.size, 16, none⟩ = some (.int .i64 c.w) ∧ w'.cell? ⟨w.heap.size, 17, none⟩ = some (.int .i64 c.c)) (ds := []) #[false, false, false, false, false, false, false, false, false, false, false, false, false, false, false, false, false, false, false] (by kernel_rfl) rfl rfl ⟨(blk_cell BK1.out 0).trans rfl, (blk_cell BK1.out 1).trans rfl, (blk_cell BK1.out 2).trans rfl, (blk_cell BK1.out 3).trans rfl, (blk_cell BK1.out 4).trans rfl, (blk_cell BK1.out 5).trans rfl, (blk_cell BK1.out 6).trans rfl, (blk_cell BK1.out 7).trans rfl, (blk_cell BK1.out 8).trans rfl, (blk_cell BK1.out 9).trans rfl, (blk_cell BK1.out 10).trans rfl, (blk_cell BK1.out 11).trans rfl, (blk_cell BK1.out 12).trans rfl, (blk_cell BK1.out 13).trans rfl, (blk_cell BK1.out 14).trans rfl, (blk_cell BK1.out 15).trans rfl, (blk_cell BK1.out 16).trans rfl, (blk_cell BK1.out 17).trans rfl⟩ (fun hHeld => ?_)
  generalize v0.drew = x0 at HB BK1 BK2 BK4 BK5 hHeld ⊢
  refine pure_ (i := 0) (N := some 23) (v := ?_) (a' := ?_) #[true, false, false, false, false, false, false, false, false, false, false, false, false, false, false, false, false, false, false] rfl rfl (by kernel_rfl) (fun c_ a_ w_ h => hpan c_ (Act.put a_ _ _) a_ w_ (by rfl) h) (Or.inl ⟨by rfl, ?_⟩) ?_ ?_
  rotate_left
  · intro w'
    go_simp
    with_reducible rfl
  rotate_left
  · simp only [Act.put, List.setIfInBounds_toArray, List.set_cons_zero, List.set_cons_succ, i64_w, i32_w]
    rfl
  refine pure_ (i := 1) (N := some 24) (v := ?_) (a' := ?_) #[true, true, false, false, false, false, false, false, false, false, false, false, false, false, false, false, false, false, false] rfl rfl (by kernel_rfl) (fun c_ a_ w_ h => hpan c_ (Act.put a_ _ _) a_ w_ (by rfl) h) (Or.inl ⟨by rfl, ?_⟩) ?_ ?_
  rotate_left
  · intro w'
    go_simp
    with_reducible rfl
  rotate_left
  · simp only [Act.put, List.setIfInBounds_toArray, List.set_cons_zero, List.set_cons_succ, i64_w, i32_w]
    rfl
  refine pure_ (i := 4) (N := some 27) (v := ?_) (a' := ?_) #[true, true, false, false, true, false, false, false, false, false, false, false, false, false, false, false, false, false, false] rfl rfl (by kernel_rfl) (fun c_ a_ w_ h => hpan c_ (Act.put a_ _ _) a_ w_ (by rfl) h) (Or.inl ⟨by rfl, ?_⟩) ?_ ?_
  rotate_left
  · intro w'
    go_simp
    with_reducible rfl
  rotate_left
  · simp only [Act.put, List.setIfInBounds_toArray, List.set_cons_zero, List.set_cons_succ, i64_w, i32_w]
    rfl
  refine pure_ (i := 5) (N := some 28) (v := ?_) (a' := ?_) #[true, true, false, false, true, true, false, false, false, false, false, false, false, false, false, false, false, false, false] rfl rfl (by kernel_rfl) (fun c_ a_ w_ h => hpan c_ (Act.put a_ _ _) a_ w_ (by rfl) h) (Or.inl ⟨by rfl, ?_⟩) ?_ ?_
  rotate_left
  · intro w'
    go_simp
    with_reducible rfl
  rotate_left
  · simp only [Act.put, List.setIfInBounds_toArray, List.set_cons_zero, List.set_cons_succ, i64_w, i32_w]
    rfl
  refine pure_ (i := 8) (N := some 31) (v := ?_) (a' := ?_) #[true, true, false, false, true, true, false, false, true, false, false, false, false, false, false, false, false, false, false] rfl rfl (by kernel_rfl) (fun c_ a_ w_ h => hpan c_ (Act.put a_ _ _) a_ w_ (by rfl) h) (Or.inl ⟨by rfl, ?_⟩) ?_ ?_
  rotate_left
  · intro w'
    go_simp
    with_reducible rfl
  rotate_left
  · simp only [Act.put, List.setIfInBounds_toArray, List.set_cons_zero, List.set_cons_succ, i64_w, i32_w]
    rfl
  refine pure_ (i := 9) (N := some 32) (v := ?_) (a' := ?_) #[true, true, false, false, true, true, false, false, true, true, false, false, false, false, false, false, false, false, false] rfl rfl (by kernel_rfl) (fun c_ a_ w_ h => hpan c_ (Act.put a_ _ _) a_ w_ (by rfl) h) (Or.inl ⟨by rfl, ?_⟩) ?_ ?_
  rotate_left
  · intro w'
    go_simp
    with_reducible rfl
  rotate_left
  · simp only [Act.put, List.setIfInBounds_toArray, List.set_cons_zero, List.set_cons_succ, i64_w, i32_w]
    rfl
  refine take_ (i := 2) (N := some 25) (v := ?_) (a' := ?_) #[true, true, true, false, true, true, false, false, true, true, false, false, false, false, false, false, false, false, false] rfl rfl (by kernel_rfl) (fun c_ a_ w_ h => hpan c_ (Act.put a_ _ _) a_ w_ (by rfl) h) (Or.inl ⟨by rfl, ?_⟩) hHeld ?_ ?_
  rotate_left
  · rintro w' ⟨s0, s1, s2, s3, s4, s5, s6, s7, s8, s9, s10, s11, s12, s13, s14, s15, s16, s17⟩
    go_simp
    with_reducible rfl
  rotate_left
  · simp only [Act.put, List.setIfInBounds_toArray, List.set_cons_zero, List.set_cons_succ, i64_w, i32_w]
    rfl
  refine take_ (i := 6) (N := some 29) (v := ?_) (a' := ?_) #[true, true, true, false, true, true, true, false, true, true, false, false, false, false, false, false, false, false, false] rfl rfl (by kernel_rfl) (fun c_ a_ w_ h => hpan c_ (Act.put a_ _ _) a_ w_ (by rfl) h) (Or.inl ⟨by rfl, ?_⟩) hHeld ?_ ?_
  rotate_left
  · rintro w' ⟨s0, s1, s2, s3, s4, s5, s6, s7, s8, s9, s10, s11, s12, s13, s14, s15, s16, s17⟩
    go_simp
    with_reducible rfl
  rotate_left
  · simp only [Act.put, List.setIfInBounds_toArray, List.set_cons_zero, List.set_cons_succ, i64_w, i32_w]
    rfl
  refine take_ (i := 10) (N := some 33) (v := ?_) (a' := ?_) #[true, true, true, false, true, true, true, false, true, true, true, false, false, false, false, false, false, false, false] rfl rfl (by kernel_rfl) (fun c_ a_ w_ h => hpan c_ (Act.put a_ _ _) a_ w_ (by rfl) h) (Or.inl ⟨by rfl, ?_⟩) hHeld ?_ ?_
  rotate_left
  · rintro w' ⟨s0, s1, s2, s3, s4, s5, s6, s7, s8, s9, s10, s11, s12, s13, s14, s15, s16, s17⟩
    go_simp
    with_reducible rfl
  rotate_left
  · simp only [Act.put, List.setIfInBounds_toArray, List.set_cons_zero, List.set_cons_succ, i64_w, i32_w]
    rfl
  refine one_ (i := 3) (N := some 26) #[true, true, true, true, true, true, true, false, true, true, true, false, false, false, false, false, false, false, false] rfl rfl (by kernel_rfl) (by decide) (fun K hK => ?_)
  refine goes_v Try.func41 (by kernel_rfl) rfl #[.agg #[.int .i64 a.o, .int .i64 a.i, .int .i64 a.u, .int .i64 a.n, .int .i64 a.w, .int .i64 a.c]] (by rfl) rfl rfl (by rfl) (by (try simp only [List.map_toArray, List.map_cons, List.map_nil]); first | done | rfl) ?_
  with_reducible refine (allow_Net.c29 a _).mono ?_
  rintro e y6_ ⟨rfl, hb⟩
  refine ⟨_, rfl, ?_⟩
  have n_HB := Aside0.mk (below_step HB.out hb)
  have n_BK1 := Aside0.mk (blk_below BK1.out hb)
  have n_BK2 := Aside0.mk (blk_below BK2.out hb)
  have n_BK4 := Aside0.mk (blk_below BK4.out hb)
  have n_BK5 := Aside0.mk (blk_below BK5.out hb)
  clear HB
  have HB := n_HB
  clear n_HB
  clear BK1
  have BK1 := n_BK1
  clear n_BK1
  clear BK2
  have BK2 := n_BK2
  clear n_BK2
  clear BK4
  have BK4 := n_BK4
  clear n_BK4
  clear BK5
  have BK5 := n_BK5
  clear n_BK5
  clear hb
  refine hK.out _ _ ⟨(blk_cell BK1.out 0).trans rfl, (blk_cell BK1.out 1).trans rfl, (blk_cell BK1.out 2).trans rfl, (blk_cell BK1.out 3).trans rfl, (blk_cell BK1.out 4).trans rfl, (blk_cell BK1.out 5).trans rfl, (blk_cell BK1.out 6).trans rfl, (blk_cell BK1.out 7).trans rfl, (blk_cell BK1.out 8).trans rfl, (blk_cell BK1.out 9).trans rfl, (blk_cell BK1.out 10).trans rfl, (blk_cell BK1.out 11).trans rfl, (blk_cell BK1.out 12).trans rfl, (blk_cell BK1.out 13).trans rfl, (blk_cell BK1.out 14).trans rfl, (blk_cell BK1.out 15).trans rfl, (blk_cell BK1.out 16).trans rfl, (blk_cell BK1.out 17).trans rfl⟩ (fun hHeld => ?_)
  clear hK K
  refine norm_ (a' := ?_) ?_ ?_
  rotate_left
  · show Act.put _ (some 26) _ = _
    simp only [Act.put, List.setIfInBounds_toArray, List.set_cons_zero, List.set_cons_succ, i64_w, i32_w]
    rfl
  refine one_ (i := 7) (N := some 30) #[true, true, true, true, true, true, true, true, true, true, true, false, false, false, false, false, false, false, false] rfl rfl (by kernel_rfl) (by decide) (fun K hK => ?_)
  refine goes_v Try.func41 (by kernel_rfl) rfl #[.agg #[.int .i64 b.o, .int .i64 b.i, .int .i64 b.u, .int .i64 b.n, .int .i64 b.w, .int .i64 b.c]] (by rfl) rfl rfl (by rfl) (by (try simp only [List.map_toArray, List.map_cons, List.map_nil]); first | done | rfl) ?_
  with_reducible refine (allow_Net.c29 b _).mono ?_
  rintro e y7_ ⟨rfl, hb⟩
  refine ⟨_, rfl, ?_⟩
  have n_HB := Aside0.mk (below_step HB.out hb)
  have n_BK1 := Aside0.mk (blk_below BK1.out hb)
  have n_BK2 := Aside0.mk (blk_below BK2.out hb)
  have n_BK4 := Aside0.mk (blk_below BK4.out hb)
  have n_BK5 := Aside0.mk (blk_below BK5.out hb)
  clear HB
  have HB := n_HB
  clear n_HB
  clear BK1
  have BK1 := n_BK1
  clear n_BK1
  clear BK2
  have BK2 := n_BK2
  clear n_BK2
  clear BK4
  have BK4 := n_BK4
  clear n_BK4
  clear BK5
  have BK5 := n_BK5
  clear n_BK5
  clear hb
  refine hK.out _ _ ⟨(blk_cell BK1.out 0).trans rfl, (blk_cell BK1.out 1).trans rfl, (blk_cell BK1.out 2).trans rfl, (blk_cell BK1.out 3).trans rfl, (blk_cell BK1.out 4).trans rfl, (blk_cell BK1.out 5).trans rfl, (blk_cell BK1.out 6).trans rfl, (blk_cell BK1.out 7).trans rfl, (blk_cell BK1.out 8).trans rfl, (blk_cell BK1.out 9).trans rfl, (blk_cell BK1.out 10).trans rfl, (blk_cell BK1.out 11).trans rfl, (blk_cell BK1.out 12).trans rfl, (blk_cell BK1.out 13).trans rfl, (blk_cell BK1.out 14).trans rfl, (blk_cell BK1.out 15).trans rfl, (blk_cell BK1.out 16).trans rfl, (blk_cell BK1.out 17).trans rfl⟩ (fun hHeld => ?_)
  clear hK K
  refine norm_ (a' := ?_) ?_ ?_
  rotate_left
  · show Act.put _ (some 30) _ = _
    simp only [Act.put, List.setIfInBounds_toArray, List.set_cons_zero, List.set_cons_succ, i64_w, i32_w]
    rfl
  refine one_ (i := 11) (N := some 34) #[true, true, true, true, true, true, true, true, true, true, true, true, false, false, false, false, false, false, false] rfl rfl (by kernel_rfl) (by decide) (fun K hK => ?_)
  refine goes_v Try.func41 (by kernel_rfl) rfl #[.agg #[.int .i64 c.o, .int .i64 c.i, .int .i64 c.u, .int .i64 c.n, .int .i64 c.w, .int .i64 c.c]] (by rfl) rfl rfl (by rfl) (by (try simp only [List.map_toArray, List.map_cons, List.map_nil]); first | done | rfl) ?_
  with_reducible refine (allow_Net.c29 c _).mono ?_
  rintro e y8_ ⟨rfl, hb⟩
  refine ⟨_, rfl, ?_⟩
  have n_HB := Aside0.mk (below_step HB.out hb)
  have n_BK1 := Aside0.mk (blk_below BK1.out hb)
  have n_BK2 := Aside0.mk (blk_below BK2.out hb)
  have n_BK4 := Aside0.mk (blk_below BK4.out hb)
  have n_BK5 := Aside0.mk (blk_below BK5.out hb)
  clear HB
  have HB := n_HB
  clear n_HB
  clear BK1
  have BK1 := n_BK1
  clear n_BK1
  clear BK2
  have BK2 := n_BK2
  clear n_BK2
  clear BK4
  have BK4 := n_BK4
  clear n_BK4
  clear BK5
  have BK5 := n_BK5
  clear n_BK5
  clear hb
  refine hK.out _ _ ⟨(blk_cell BK1.out 0).trans rfl, (blk_cell BK1.out 1).trans rfl, (blk_cell BK1.out 2).trans rfl, (blk_cell BK1.out 3).trans rfl, (blk_cell BK1.out 4).trans rfl, (blk_cell BK1.out 5).trans rfl, (blk_cell BK1.out 6).trans rfl, (blk_cell BK1.out 7).trans rfl, (blk_cell BK1.out 8).trans rfl, (blk_cell BK1.out 9).trans rfl, (blk_cell BK1.out 10).trans rfl, (blk_cell BK1.out 11).trans rfl, (blk_cell BK1.out 12).trans rfl, (blk_cell BK1.out 13).trans rfl, (blk_cell BK1.out 14).trans rfl, (blk_cell BK1.out 15).trans rfl, (blk_cell BK1.out 16).trans rfl, (blk_cell BK1.out 17).trans rfl⟩ (fun hHeld => ?_)
  clear hK K
  refine norm_ (a' := ?_) ?_ ?_
  rotate_left
  · show Act.put _ (some 34) _ = _
    simp only [Act.put, List.setIfInBounds_toArray, List.set_cons_zero, List.set_cons_succ, i64_w, i32_w]
    rfl
  refine one_ (i := 12) (N := some 35) #[true, true, true, true, true, true, true, true, true, true, true, true, true, false, false, false, false, false, false] rfl rfl (by kernel_rfl) (by decide) (fun K hK => ?_)
  refine value_ (w1 := ?_) (v := ?_) (by rfl) rfl ?_ ?_
  rotate_left 2
  · go_simp
    constructor
    · rfl
    · rfl
  have hb := below_alloc (Below.refl y8_.heap.size y8_) (.cells #[.int .i64 a.i, .int .i64 b.i, .int .i64 c.i] 2)
  have hbox := blk_new y8_ (.cells #[.int .i64 a.i, .int .i64 b.i, .int .i64 c.i] 2)
  have m_ := Aside0.mk hbox
  have n_HB := Aside0.mk (below_step HB.out hb)
  have n_BK1 := Aside0.mk (blk_below BK1.out hb)
  have n_BK2 := Aside0.mk (blk_below BK2.out hb)
  have n_BK4 := Aside0.mk (blk_below BK4.out hb)
  have n_BK5 := Aside0.mk (blk_below BK5.out hb)
  clear HB
  have HB := n_HB
  clear n_HB
  clear BK1
  have BK1 := n_BK1
  clear n_BK1
  clear BK2
  have BK2 := n_BK2
  clear n_BK2
  clear BK4
  have BK4 := n_BK4
  clear n_BK4
  clear BK5
  have BK5 := n_BK5
  clear n_BK5
  clear hb hbox
  generalize y8_.alloc (.cells #[.int .i64 a.i, .int .i64 b.i, .int .i64 c.i] 2) = y9_ at m_ HB BK1 BK2 BK4 BK5 ⊢
  generalize y8_.heap.size = gl at m_ ⊢
  have BKgl := m_
  clear m_
  refine hK.out _ _ ⟨(blk_cell BK1.out 0).trans rfl, (blk_cell BK1.out 1).trans rfl, (blk_cell BK1.out 2).trans rfl, (blk_cell BK1.out 3).trans rfl, (blk_cell BK1.out 4).trans rfl, (blk_cell BK1.out 5).trans rfl, (blk_cell BK1.out 6).trans rfl, (blk_cell BK1.out 7).trans rfl, (blk_cell BK1.out 8).trans rfl, (blk_cell BK1.out 9).trans rfl, (blk_cell BK1.out 10).trans rfl, (blk_cell BK1.out 11).trans rfl, (blk_cell BK1.out 12).trans rfl, (blk_cell BK1.out 13).trans rfl, (blk_cell BK1.out 14).trans rfl, (blk_cell BK1.out 15).trans rfl, (blk_cell BK1.out 16).trans rfl, (blk_cell BK1.out 17).trans rfl⟩ (fun hHeld => ?_)
  clear hK K
  refine norm_ (a' := ?_) ?_ ?_
  rotate_left
  · show Act.put _ (some 35) _ = _
    simp only [Act.put, List.setIfInBounds_toArray, List.set_cons_zero, List.set_cons_succ, i64_w, i32_w]
    rfl
  refine one_ (i := 13) (N := some 36) #[true, true, true, true, true, true, true, true, true, true, true, true, true, true, false, false, false, false, false] rfl rfl (by kernel_rfl) (by decide) (fun K hK => ?_)
  refine goes_ Try.func46 (by kernel_rfl) rfl #[.slice (some ⟨gl, 0, none⟩) 3 3] (by rfl) rfl rfl (by (try simp only [List.map_toArray, List.map_cons, List.map_nil]); first | done | rfl) ?_
  with_reducible refine (allow_Net.sumc HSUM.out BKgl.out).mono ?_
  rintro e y10_ ⟨rfl, hd⟩
  have hb := hd.below
  refine ⟨_, rfl, ?_⟩
  have n_HB := Aside0.mk (below_step HB.out hb)
  have n_BK1 := Aside0.mk (blk_below BK1.out hb)
  have n_BK2 := Aside0.mk (blk_below BK2.out hb)
  have n_BK4 := Aside0.mk (blk_below BK4.out hb)
  have n_BK5 := Aside0.mk (blk_below BK5.out hb)
  have n_BKgl := Aside0.mk (blk_below BKgl.out hb)
  clear HB
  have HB := n_HB
  clear n_HB
  clear BK1
  have BK1 := n_BK1
  clear n_BK1
  clear BK2
  have BK2 := n_BK2
  clear n_BK2
  clear BK4
  have BK4 := n_BK4
  clear n_BK4
  clear BK5
  have BK5 := n_BK5
  clear n_BK5
  clear BKgl
  have BKgl := n_BKgl
  clear n_BKgl
  clear hb
  refine hK.out _ _ ⟨(blk_cell BK1.out 0).trans rfl, (blk_cell BK1.out 1).trans rfl, (blk_cell BK1.out 2).trans rfl, (blk_cell BK1.out 3).trans rfl, (blk_cell BK1.out 4).trans rfl, (blk_cell BK1.out 5).trans rfl, (blk_cell BK1.out 6).trans rfl, (blk_cell BK1.out 7).trans rfl, (blk_cell BK1.out 8).trans rfl, (blk_cell BK1.out 9).trans rfl, (blk_cell BK1.out 10).trans rfl, (blk_cell BK1.out 11).trans rfl, (blk_cell BK1.out 12).trans rfl, (blk_cell BK1.out 13).trans rfl, (blk_cell BK1.out 14).trans rfl, (blk_cell BK1.out 15).trans rfl, (blk_cell BK1.out 16).trans rfl, (blk_cell BK1.out 17).trans rfl⟩ (fun hHeld => ?_)
  clear hK K
  refine norm_ (a' := ?_) ?_ ?_
  rotate_left
  · show Act.put _ (some 36) _ = _
    simp only [Act.put, List.setIfInBounds_toArray, List.set_cons_zero, List.set_cons_succ, i64_w, i32_w]
    rfl
  refine pure_ (i := 14) (N := some 22) (v := ?_) (a' := ?_) #[true, true, true, true, true, true, true, true, true, true, true, true, true, true, true, false, false, false, false] rfl rfl (by kernel_rfl) (fun c_ a_ w_ h => hpan c_ (Act.put a_ _ _) a_ w_ (by rfl) h) (Or.inl ⟨by rfl, ?_⟩) ?_ ?_
  rotate_left
  · intro w'
    go_simp
    with_reducible rfl
  rotate_left
  · simp only [Act.put, List.setIfInBounds_toArray, List.set_cons_zero, List.set_cons_succ, i64_w, i32_w]
    rfl
  refine pure_ (i := 15) (N := some 37) (v := ?_) (a' := ?_) #[true, true, true, true, true, true, true, true, true, true, true, true, true, true, true, true, false, false, false] rfl rfl (by kernel_rfl) (fun c_ a_ w_ h => hpan c_ (Act.put a_ _ _) a_ w_ (by rfl) h) (Or.inl ⟨by rfl, ?_⟩) ?_ ?_
  rotate_left
  · intro w'
    go_simp
    with_reducible rfl
  rotate_left
  · simp only [Act.put, List.setIfInBounds_toArray, List.set_cons_zero, List.set_cons_succ, i64_w, i32_w]
    rfl
  refine pure_ (i := 16) (N := some 38) (v := ?_) (a' := ?_) #[true, true, true, true, true, true, true, true, true, true, true, true, true, true, true, true, true, false, false] rfl rfl (by kernel_rfl) (fun c_ a_ w_ h => hpan c_ (Act.put a_ _ _) a_ w_ (by rfl) h) (Or.inl ⟨by rfl, ?_⟩) ?_ ?_
  rotate_left
  · intro w'
    go_simp
    with_reducible rfl
  rotate_left
  · simp only [Act.put, List.setIfInBounds_toArray, List.set_cons_zero, List.set_cons_succ, i64_w, i32_w]
    rfl
  refine pure_ (i := 17) (N := some 8) (v := ?_) (a' := ?_) #[true, true, true, true, true, true, true, true, true, true, true, true, true, true, true, true, true, true, false] rfl rfl (by kernel_rfl) (fun c_ a_ w_ h => hpan c_ (Act.put a_ _ _) a_ w_ (by rfl) h) (Or.inl ⟨by rfl, ?_⟩) ?_ ?_
  rotate_left
  · intro w'
    go_simp
    with_reducible rfl
  rotate_left
  · simp only [Act.put, List.setIfInBounds_toArray, List.set_cons_zero, List.set_cons_succ, i64_w, i32_w]
    rfl
  refine pure_ (i := 18) (N := some 9) (v := ?_) (a' := ?_) #[true, true, true, true, true, true, true, true, true, true, true, true, true, true, true, true, true, true, true] rfl rfl (by kernel_rfl) (fun c_ a_ w_ h => hpan c_ (Act.put a_ _ _) a_ w_ (by rfl) h) (Or.inl ⟨by rfl, ?_⟩) ?_ ?_
  rotate_left
  · intro w'
    go_simp
    with_reducible rfl
  rotate_left
  · simp only [Act.put, List.setIfInBounds_toArray, List.set_cons_zero, List.set_cons_succ, i64_w, i32_w]
    rfl
  refine done_ (by kernel_rfl) ?_
  clear hHeld HSUM BKgl
  by_cases hi : inr64 (a.i + b.i + c.i)
  case neg =>
    have hq := HSE.out
    rw [if_neg hi] at hq
    simp only [Prod.mk.injEq] at hq
    obtain ⟨rfl, rfl⟩ := hq
    have HI := Aside0.mk hi
    clear hi hK
    go_wp2_with ((with_reducible refine gate_store (t := 38) (p := 2) (v := .tmp 41) rfl ?_); refine Shut.out ?_)
    unfold Shut
    refine store_rowTo rfl 38 (.tmp 2) (.tmp 41) rfl rfl g2 (row6 Row6.z) rfl rfl 38 _ BK2.out (by kernel_rfl) rfl (all6n _ _ _ _ _ _) ?_
    have HBn := Aside0.mk (row_below (g := g2) HB.out (by omega) (row6 Row6.z))
    have BKn := Aside0.mk (setRow_heap _ _ _ (row6 Row6.z) _ _ BK2.out)
    clear HB BK2
    go_wp2_with fail
    exact ⟨HI.out, BKn, HBn⟩
  have hq := HSE.out
  rw [if_pos hi] at hq
  simp only [Prod.mk.injEq] at hq
  obtain ⟨hs, rfl⟩ := hq
  have HS := Aside0.mk hs
  have HI := Aside0.mk hi
  clear hs hi HSE herr
  have kp : y10_.cell? ⟨g5, 1, none⟩ = some (.pointer (some ⟨g4, 1, none⟩)) := blk_cell BK5.out 1
  have kc : y10_.cell? ⟨g4, 1, none⟩ = some (.int .i64 0) := blk_cell BK4.out 1
  have kf := blk_frozen BK4.out 1
  go_wp2_with fail
  have n_HB := Aside0.mk (HB.out.setCell (p := ⟨g4, 1, none⟩) (show w.heap.size ≤ g4 by omega) (.int .i64 s))
  have n_BK1 := Aside0.mk ((Below.heap_setCell y10_ ⟨g4, 1, none⟩ (.int .i64 s) w.heap.size (show w.heap.size ≠ g4 by omega)).trans BK1.out)
  have n_BK2 := Aside0.mk ((Below.heap_setCell y10_ ⟨g4, 1, none⟩ (.int .i64 s) g2 (show g2 ≠ g4 by omega)).trans BK2.out)
  have n_BK5 := Aside0.mk ((Below.heap_setCell y10_ ⟨g4, 1, none⟩ (.int .i64 s) g5 (show g5 ≠ g4 by omega)).trans BK5.out)
  have n_BK4 := Aside0.mk (blk_put BK4.out 1 (.int .i64 s) (show _ = (#[.int .i64 p0, .int .i64 (a.i + b.i + c.i), .int .i64 p2, .int .i64 p3, .int .i64 p4, .int .i64 p5] : Array Value) from by rw [HS.out]; rfl))
  first | exact ⟨HI.out, n_BK1, n_BK2, n_BK4, n_BK5, n_HB⟩ | (refine hK _ _ _ _ _ _ _ _ _ _ _ _ _ _ _ _ _ _ _ _ _ _ _ _ _ _ _ _ _ _ _ _ _ _ _ ⟨HI.out, n_BK1, n_BK2, n_BK4, n_BK5, n_HB⟩)
set_option maxHeartbeats 16000000 in
set_option maxRecDepth 1000000 in
theorem allow_Net.round2 {a b c : Row6} (ha : Aside0 a.inr) (hb0 : Aside0 b.inr) (hc : Aside0 c.inr) {w v0 : World} {g2 g4 g5 : Nat} (hlt2 : w.heap.size < g2) (hlt4 : g2 < g4) (hlt5 : g4 < g5) {p0 p1 p3 p4 p5 : Int} {K : Act → World → Prop} {Q0 : Exit → Act → World → Prop} {c0 c10 c11 c12 c13 c14 c15 c16 c49 : Value} {u6 u7 u8 u9 u19 u20 u21 u22 u23 u24 u25 u26 u27 u28 u29 u30 u31 u32 u33 u34 u35 u36 u37 u38 u39 u40 u41 u42 u43 u44 u45 u46 u47 u48 : Value}
    (BK1 : Aside0 (v0.heap[w.heap.size]? = some (.cells (row18 a b c) 39 (0, 0)))) (BK2 : Aside0 (v0.heap[g2]? = some (.cells (row6 Row6.z) 38 (0, 0)))) (BK4 : Aside0 (v0.heap[g4]? = some (.cells #[.int .i64 p0, .int .i64 p1, .int .i64 0, .int .i64 p3, .int .i64 p4, .int .i64 p5] 38 (0, 0)))) (BK5 : Aside0 (v0.heap[g5]? = some (.cells #[.pointer (some ⟨g4, 0, none⟩), .pointer (some ⟨g4, 1, none⟩), .pointer (some ⟨g4, 2, none⟩), .pointer (some ⟨g4, 3, none⟩), .pointer (some ⟨g4, 4, none⟩), .pointer (some ⟨g4, 5, none⟩)] 95 (0, 0)))) (HB : Aside0 (Below w.heap.size w v0))
    (hpan : ∀ c_ (a_ b_ : Act) w_, a_.defers = b_.defers → Q0 (Exit.panic c_) a_ w_ → Q0 (Exit.panic c_) b_ w_)
    (herr : ∀ (x6 x7 x8 x9 x18 x19 x20 x21 x22 x23 x24 x25 x26 x27 x28 x29 x30 x31 x32 x33 x34 x35 x36 x37 x38 x39 x40 x41 x42 x43 x44 x45 x46 x47 x48 : Value) (w1 : World), (¬ inr64 (a.u + b.u + c.u) ∧ Aside0 (w1.heap[g2]? = some (.cells (row6 Row6.z) 38 (0, 0))) ∧ Aside0 (Below w.heap.size w w1)) → Q0 Exit.ret ⟨List.toArray (c0 :: .pointer (some ⟨w.heap.size, 0, none⟩) :: .pointer (some ⟨g2, 0, none⟩) :: .int .i64 3 :: .pointer (some ⟨g4, 0, none⟩) :: .pointer (some ⟨g5, 0, none⟩) :: x6 :: x7 :: x8 :: x9 :: c10 :: c11 :: c12 :: c13 :: c14 :: c15 :: c16 :: .agg #[.func (.func 40) #[] #[], .func (.func 41) #[] #[], .func (.func 42) #[] #[], .func (.func 43) #[] #[], .func (.func 44) #[] #[], .func (.func 45) #[] #[]] :: x18 :: x19 :: x20 :: x21 :: x22 :: x23 :: x24 :: x25 :: x26 :: x27 :: x28 :: x29 :: x30 :: x31 :: x32 :: x33 :: x34 :: x35 :: x36 :: x37 :: x38 :: x39 :: x40 :: x41 :: x42 :: x43 :: x44 :: x45 :: x46 :: x47 :: x48 :: c49 :: []), []⟩ w1)
    (hK : ∀ (x6 x7 x8 x9 x19 x20 x21 x22 x23 x24 x25 x26 x27 x28 x29 x30 x31 x32 x33 x34 x35 x36 x37 x38 x39 x40 x41 x42 x43 x44 x45 x46 x47 x48 : Value) (w1 : World), (inr64 (a.u + b.u + c.u) ∧ Aside0 (w1.heap[w.heap.size]? = some (.cells (row18 a b c) 39 (0, 0))) ∧ Aside0 (w1.heap[g2]? = some (.cells (row6 Row6.z) 38 (0, 0))) ∧ Aside0 (w1.heap[g4]? = some (.cells #[.int .i64 p0, .int .i64 p1, .int .i64 (a.u + b.u + c.u), .int .i64 p3, .int .i64 p4, .int .i64 p5] 38 (0, 0))) ∧ Aside0 (w1.heap[g5]? = some (.cells #[.pointer (some ⟨g4, 0, none⟩), .pointer (some ⟨g4, 1, none⟩), .pointer (some ⟨g4, 2, none⟩), .pointer (some ⟨g4, 3, none⟩), .pointer (some ⟨g4, 4, none⟩), .pointer (some ⟨g4, 5, none⟩)] 95 (0, 0))) ∧ Aside0 (Below w.heap.size w w1)) → K ⟨List.toArray (c0 :: .pointer (some ⟨w.heap.size, 0, none⟩) :: .pointer (some ⟨g2, 0, none⟩) :: .int .i64 0 :: .pointer (some ⟨g4, 0, none⟩) :: .pointer (some ⟨g5, 0, none⟩) :: x6 :: x7 :: x8 :: x9 :: c10 :: c11 :: c12 :: c13 :: c14 :: c15 :: c16 :: .agg #[.func (.func 40) #[] #[], .func (.func 41) #[] #[], .func (.func 42) #[] #[], .func (.func 43) #[] #[], .func (.func 44) #[] #[], .func (.func 45) #[] #[]] :: .int .i64 3 :: x19 :: x20 :: x21 :: x22 :: x23 :: x24 :: x25 :: x26 :: x27 :: x28 :: x29 :: x30 :: x31 :: x32 :: x33 :: x34 :: x35 :: x36 :: x37 :: x38 :: x39 :: x40 :: x41 :: x42 :: x43 :: x44 :: x45 :: x46 :: x47 :: x48 :: c49 :: []), []⟩ w1) :
    Code.wp Try.prog allow_Net.body (Exit.then K Q0) ⟨List.toArray (c0 :: .pointer (some ⟨w.heap.size, 0, none⟩) :: .pointer (some ⟨g2, 0, none⟩) :: .int .i64 0 :: .pointer (some ⟨g4, 0, none⟩) :: .pointer (some ⟨g5, 0, none⟩) :: u6 :: u7 :: u8 :: u9 :: c10 :: c11 :: c12 :: c13 :: c14 :: c15 :: c16 :: .agg #[.func (.func 40) #[] #[], .func (.func 41) #[] #[], .func (.func 42) #[] #[], .func (.func 43) #[] #[], .func (.func 44) #[] #[], .func (.func 45) #[] #[]] :: .int .i64 2 :: u19 :: u20 :: u21 :: u22 :: u23 :: u24 :: u25 :: u26 :: u27 :: u28 :: u29 :: u30 :: u31 :: u32 :: u33 :: u34 :: u35 :: u36 :: u37 :: u38 :: u39 :: u40 :: u41 :: u42 :: u43 :: u44 :: u45 :: u46 :: u47 :: u48 :: c49 :: []), []⟩ v0 := by
  conv => arg 2; whnf
  have hix := fun W => allow_Net.ix2 W
  go_wp2_with fail
  have n_HB := Aside0.mk (below_drew1 HB.out)
  have n_BK1 := Aside0.mk (blk_drew BK1.out)
  have n_BK2 := Aside0.mk (blk_drew BK2.out)
  have n_BK4 := Aside0.mk (blk_drew BK4.out)
  have n_BK5 := Aside0.mk (blk_drew BK5.out)
  clear HB BK1 BK2 BK4 BK5
  have HB := n_HB
  clear n_HB
  have BK1 := n_BK1
  clear n_BK1
  have BK2 := n_BK2
  clear n_BK2
  have BK4 := n_BK4
  clear n_BK4
  have BK5 := n_BK5
  clear n_BK5
  obtain ⟨⟨s, e⟩, hse⟩ : ∃ r, r = (if inr64 (a.u + b.u + c.u) then ((a.u + b.u + c.u), (0 : Int)) else (0, 3)) := ⟨_, rfl⟩
  have hsum := allow_Net.sum3 a.u b.u c.u (by have := ha.out; unfold Row6.inr at this; exact this.2.2.1) (by have := hb0.out; unfold Row6.inr at this; exact this.2.2.1) (by have := hc.out; unfold Row6.inr at this; exact this.2.2.1)
  rw [← hse] at hsum
  have HSE := Aside0.mk hse
  have HSUM := Aside0.mk hsum
  clear hse hsum
  refine start_ (n := 19) (S := fun w' => w'.cell? ⟨w.heap.size, 0, none⟩ = some (.int .i64 a.o) ∧ w'.cell? ⟨w.heap.size, 1, none⟩ = some (.int .i64 a.i) ∧ w'.cell? ⟨w.heap.size, 2, none⟩ = some (.int .i64 a.u) ∧ w'.cell? ⟨w.heap.size, 3, none⟩ = some (.int .i64 a.n) ∧ w'.cell? ⟨w.heap.size, 4, none⟩ = some (.int .i64 a.w) ∧ w'.cell? ⟨w.heap.size, 5, none⟩ = some (.int .i64 a.c) ∧ w'.cell? ⟨w.heap.size, 6, none⟩ = some (.int .i64 b.o) ∧ w'.cell? ⟨w.heap.size, 7, none⟩ = some (.int .i64 b.i) ∧ w'.cell? ⟨w.heap.size, 8, none⟩ = some (.int .i64 b.u) ∧ w'.cell? ⟨w.heap.size, 9, none⟩ = some (.int .i64 b.n) ∧ w'.cell? ⟨w.heap.size, 10, none⟩ = some (.int .i64 b.w) ∧ w'.cell? ⟨w.heap.size, 11, none⟩ = some (.int .i64 b.c) ∧ w'.cell? ⟨w.heap.size, 12, none⟩ = some (.int .i64 c.o) ∧ w'.cell? ⟨w.heap.size, 13, none⟩ = some (.int .i64 c.i) ∧ w'.cell? ⟨w.heap.size, 14, none⟩ = some (.int .i64 c.u) ∧ w'.cell? ⟨w.heap.size, 15, none⟩ = some (.int .i64 c.n) ∧ w'.cell? ⟨w.heap.size, 16, none⟩ = some (.int .i64 c.w) ∧ w'.cell? ⟨w.heap.size, 17, none⟩ = some (.int .i64 c.c)) (ds := []) #[false, false, false, false, false, false, false, false, false, false, false, false, false, false, false, false, false, false, false] (by kernel_rfl) rfl rfl ⟨(blk_cell BK1.out 0).trans rfl, (blk_cell BK1.out 1).trans rfl, (blk_cell BK1.out 2).trans rfl, (blk_cell BK1.out 3).trans rfl, (blk_cell BK1.out 4).trans rfl, (blk_cell BK1.out 5).trans rfl, (blk_cell BK1.out 6).trans rfl, (blk_cell BK1.out 7).trans rfl, (blk_cell BK1.out 8).trans rfl, (blk_cell BK1.out 9).trans rfl, (blk_cell BK1.out 10).trans rfl, (blk_cell BK1.out 11).trans rfl, (blk_cell BK1.out 12).trans rfl, (blk_cell BK1.out 13).trans rfl, (blk_cell BK1.out 14).trans rfl, (blk_cell BK1.out 15).trans rfl, (blk_cell BK1.out 16).trans rfl, (blk_cell BK1.out 17).trans rfl⟩ (fun hHeld => ?_)
  generalize v0.drew = x0 at HB BK1 BK2 BK4 BK5 hHeld ⊢
  refine pure_ (i := 0) (N := some 23) (v := ?_) (a' := ?_) #[true, false, false, false, false, false, false, false, false, false, false, false, false, false, false, false, false, false, false] rfl rfl (by kernel_rfl) (fun c_ a_ w_ h => hpan c_ (Act.put a_ _ _) a_ w_ (by rfl) h) (Or.inl ⟨by rfl, ?_⟩) ?_ ?_
  rotate_left
  · intro w'
    go_simp
    with_reducible rfl
  rotate_left
  · simp only [Act.put, List.setIfInBounds_toArray, List.set_cons_zero, List.set_cons_succ, i64_w, i32_w]
    rfl
  refine pure_ (i := 1) (N := some 24) (v := ?_) (a' := ?_) #[true, true, false, false, false, false, false, false, false, false, false, false, false, false, false, false, false, false, false] rfl rfl (by kernel_rfl) (fun c_ a_ w_ h => hpan c_ (Act.put a_ _ _) a_ w_ (by rfl) h) (Or.inl ⟨by rfl, ?_⟩) ?_ ?_
  rotate_left
  · intro w'
    go_simp
    with_reducible rfl
  rotate_left
  · simp only [Act.put, List.setIfInBounds_toArray, List.set_cons_zero, List.set_cons_succ, i64_w, i32_w]
    rfl
  refine pure_ (i := 4) (N := some 27) (v := ?_) (a' := ?_) #[true, true, false, false, true, false, false, false, false, false, false, false, false, false, false, false, false, false, false] rfl rfl (by kernel_rfl) (fun c_ a_ w_ h => hpan c_ (Act.put a_ _ _) a_ w_ (by rfl) h) (Or.inl ⟨by rfl, ?_⟩) ?_ ?_
  rotate_left
  · intro w'
    go_simp
    with_reducible rfl
  rotate_left
  · simp only [Act.put, List.setIfInBounds_toArray, List.set_cons_zero, List.set_cons_succ, i64_w, i32_w]
    rfl
  refine pure_ (i := 5) (N := some 28) (v := ?_) (a' := ?_) #[true, true, false, false, true, true, false, false, false, false, false, false, false, false, false, false, false, false, false] rfl rfl (by kernel_rfl) (fun c_ a_ w_ h => hpan c_ (Act.put a_ _ _) a_ w_ (by rfl) h) (Or.inl ⟨by rfl, ?_⟩) ?_ ?_
  rotate_left
  · intro w'
    go_simp
    with_reducible rfl
  rotate_left
  · simp only [Act.put, List.setIfInBounds_toArray, List.set_cons_zero, List.set_cons_succ, i64_w, i32_w]
    rfl
  refine pure_ (i := 8) (N := some 31) (v := ?_) (a' := ?_) #[true, true, false, false, true, true, false, false, true, false, false, false, false, false, false, false, false, false, false] rfl rfl (by kernel_rfl) (fun c_ a_ w_ h => hpan c_ (Act.put a_ _ _) a_ w_ (by rfl) h) (Or.inl ⟨by rfl, ?_⟩) ?_ ?_
  rotate_left
  · intro w'
    go_simp
    with_reducible rfl
  rotate_left
  · simp only [Act.put, List.setIfInBounds_toArray, List.set_cons_zero, List.set_cons_succ, i64_w, i32_w]
    rfl
  refine pure_ (i := 9) (N := some 32) (v := ?_) (a' := ?_) #[true, true, false, false, true, true, false, false, true, true, false, false, false, false, false, false, false, false, false] rfl rfl (by kernel_rfl) (fun c_ a_ w_ h => hpan c_ (Act.put a_ _ _) a_ w_ (by rfl) h) (Or.inl ⟨by rfl, ?_⟩) ?_ ?_
  rotate_left
  · intro w'
    go_simp
    with_reducible rfl
  rotate_left
  · simp only [Act.put, List.setIfInBounds_toArray, List.set_cons_zero, List.set_cons_succ, i64_w, i32_w]
    rfl
  refine take_ (i := 2) (N := some 25) (v := ?_) (a' := ?_) #[true, true, true, false, true, true, false, false, true, true, false, false, false, false, false, false, false, false, false] rfl rfl (by kernel_rfl) (fun c_ a_ w_ h => hpan c_ (Act.put a_ _ _) a_ w_ (by rfl) h) (Or.inl ⟨by rfl, ?_⟩) hHeld ?_ ?_
  rotate_left
  · rintro w' ⟨s0, s1, s2, s3, s4, s5, s6, s7, s8, s9, s10, s11, s12, s13, s14, s15, s16, s17⟩
    go_simp
    with_reducible rfl
  rotate_left
  · simp only [Act.put, List.setIfInBounds_toArray, List.set_cons_zero, List.set_cons_succ, i64_w, i32_w]
    rfl
  refine take_ (i := 6) (N := some 29) (v := ?_) (a' := ?_) #[true, true, true, false, true, true, true, false, true, true, false, false, false, false, false, false, false, false, false] rfl rfl (by kernel_rfl) (fun c_ a_ w_ h => hpan c_ (Act.put a_ _ _) a_ w_ (by rfl) h) (Or.inl ⟨by rfl, ?_⟩) hHeld ?_ ?_
  rotate_left
  · rintro w' ⟨s0, s1, s2, s3, s4, s5, s6, s7, s8, s9, s10, s11, s12, s13, s14, s15, s16, s17⟩
    go_simp
    with_reducible rfl
  rotate_left
  · simp only [Act.put, List.setIfInBounds_toArray, List.set_cons_zero, List.set_cons_succ, i64_w, i32_w]
    rfl
  refine take_ (i := 10) (N := some 33) (v := ?_) (a' := ?_) #[true, true, true, false, true, true, true, false, true, true, true, false, false, false, false, false, false, false, false] rfl rfl (by kernel_rfl) (fun c_ a_ w_ h => hpan c_ (Act.put a_ _ _) a_ w_ (by rfl) h) (Or.inl ⟨by rfl, ?_⟩) hHeld ?_ ?_
  rotate_left
  · rintro w' ⟨s0, s1, s2, s3, s4, s5, s6, s7, s8, s9, s10, s11, s12, s13, s14, s15, s16, s17⟩
    go_simp
    with_reducible rfl
  rotate_left
  · simp only [Act.put, List.setIfInBounds_toArray, List.set_cons_zero, List.set_cons_succ, i64_w, i32_w]
    rfl
  refine one_ (i := 3) (N := some 26) #[true, true, true, true, true, true, true, false, true, true, true, false, false, false, false, false, false, false, false] rfl rfl (by kernel_rfl) (by decide) (fun K hK => ?_)
  refine goes_v Try.func42 (by kernel_rfl) rfl #[.agg #[.int .i64 a.o, .int .i64 a.i, .int .i64 a.u, .int .i64 a.n, .int .i64 a.w, .int .i64 a.c]] (by rfl) rfl rfl (by rfl) (by (try simp only [List.map_toArray, List.map_cons, List.map_nil]); first | done | rfl) ?_
  with_reducible refine (allow_Net.c30 a _).mono ?_
  rintro e y11_ ⟨rfl, hb⟩
  refine ⟨_, rfl, ?_⟩
  have n_HB := Aside0.mk (below_step HB.out hb)
  have n_BK1 := Aside0.mk (blk_below BK1.out hb)
  have n_BK2 := Aside0.mk (blk_below BK2.out hb)
  have n_BK4 := Aside0.mk (blk_below BK4.out hb)
  have n_BK5 := Aside0.mk (blk_below BK5.out hb)
  clear HB
  have HB := n_HB
  clear n_HB
  clear BK1
  have BK1 := n_BK1
  clear n_BK1
  clear BK2
  have BK2 := n_BK2
  clear n_BK2
  clear BK4
  have BK4 := n_BK4
  clear n_BK4
  clear BK5
  have BK5 := n_BK5
  clear n_BK5
  clear hb
  refine hK.out _ _ ⟨(blk_cell BK1.out 0).trans rfl, (blk_cell BK1.out 1).trans rfl, (blk_cell BK1.out 2).trans rfl, (blk_cell BK1.out 3).trans rfl, (blk_cell BK1.out 4).trans rfl, (blk_cell BK1.out 5).trans rfl, (blk_cell BK1.out 6).trans rfl, (blk_cell BK1.out 7).trans rfl, (blk_cell BK1.out 8).trans rfl, (blk_cell BK1.out 9).trans rfl, (blk_cell BK1.out 10).trans rfl, (blk_cell BK1.out 11).trans rfl, (blk_cell BK1.out 12).trans rfl, (blk_cell BK1.out 13).trans rfl, (blk_cell BK1.out 14).trans rfl, (blk_cell BK1.out 15).trans rfl, (blk_cell BK1.out 16).trans rfl, (blk_cell BK1.out 17).trans rfl⟩ (fun hHeld => ?_)
  clear hK K
  refine norm_ (a' := ?_) ?_ ?_
  rotate_left
  · show Act.put _ (some 26) _ = _
    simp only [Act.put, List.setIfInBounds_toArray, List.set_cons_zero, List.set_cons_succ, i64_w, i32_w]
    rfl
  refine one_ (i := 7) (N := some 30) #[true, true, true, true, true, true, true, true, true, true, true, false, false, false, false, false, false, false, false] rfl rfl (by kernel_rfl) (by decide) (fun K hK => ?_)
  refine goes_v Try.func42 (by kernel_rfl) rfl #[.agg #[.int .i64 b.o, .int .i64 b.i, .int .i64 b.u, .int .i64 b.n, .int .i64 b.w, .int .i64 b.c]] (by rfl) rfl rfl (by rfl) (by (try simp only [List.map_toArray, List.map_cons, List.map_nil]); first | done | rfl) ?_
  with_reducible refine (allow_Net.c30 b _).mono ?_
  rintro e y12_ ⟨rfl, hb⟩
  refine ⟨_, rfl, ?_⟩
  have n_HB := Aside0.mk (below_step HB.out hb)
  have n_BK1 := Aside0.mk (blk_below BK1.out hb)
  have n_BK2 := Aside0.mk (blk_below BK2.out hb)
  have n_BK4 := Aside0.mk (blk_below BK4.out hb)
  have n_BK5 := Aside0.mk (blk_below BK5.out hb)
  clear HB
  have HB := n_HB
  clear n_HB
  clear BK1
  have BK1 := n_BK1
  clear n_BK1
  clear BK2
  have BK2 := n_BK2
  clear n_BK2
  clear BK4
  have BK4 := n_BK4
  clear n_BK4
  clear BK5
  have BK5 := n_BK5
  clear n_BK5
  clear hb
  refine hK.out _ _ ⟨(blk_cell BK1.out 0).trans rfl, (blk_cell BK1.out 1).trans rfl, (blk_cell BK1.out 2).trans rfl, (blk_cell BK1.out 3).trans rfl, (blk_cell BK1.out 4).trans rfl, (blk_cell BK1.out 5).trans rfl, (blk_cell BK1.out 6).trans rfl, (blk_cell BK1.out 7).trans rfl, (blk_cell BK1.out 8).trans rfl, (blk_cell BK1.out 9).trans rfl, (blk_cell BK1.out 10).trans rfl, (blk_cell BK1.out 11).trans rfl, (blk_cell BK1.out 12).trans rfl, (blk_cell BK1.out 13).trans rfl, (blk_cell BK1.out 14).trans rfl, (blk_cell BK1.out 15).trans rfl, (blk_cell BK1.out 16).trans rfl, (blk_cell BK1.out 17).trans rfl⟩ (fun hHeld => ?_)
  clear hK K
  refine norm_ (a' := ?_) ?_ ?_
  rotate_left
  · show Act.put _ (some 30) _ = _
    simp only [Act.put, List.setIfInBounds_toArray, List.set_cons_zero, List.set_cons_succ, i64_w, i32_w]
    rfl
  refine one_ (i := 11) (N := some 34) #[true, true, true, true, true, true, true, true, true, true, true, true, false, false, false, false, false, false, false] rfl rfl (by kernel_rfl) (by decide) (fun K hK => ?_)
  refine goes_v Try.func42 (by kernel_rfl) rfl #[.agg #[.int .i64 c.o, .int .i64 c.i, .int .i64 c.u, .int .i64 c.n, .int .i64 c.w, .int .i64 c.c]] (by rfl) rfl rfl (by rfl) (by (try simp only [List.map_toArray, List.map_cons, List.map_nil]); first | done | rfl) ?_
  with_reducible refine (allow_Net.c30 c _).mono ?_
  rintro e y13_ ⟨rfl, hb⟩
  refine ⟨_, rfl, ?_⟩
  have n_HB := Aside0.mk (below_step HB.out hb)
  have n_BK1 := Aside0.mk (blk_below BK1.out hb)
  have n_BK2 := Aside0.mk (blk_below BK2.out hb)
  have n_BK4 := Aside0.mk (blk_below BK4.out hb)
  have n_BK5 := Aside0.mk (blk_below BK5.out hb)
  clear HB
  have HB := n_HB
  clear n_HB
  clear BK1
  have BK1 := n_BK1
  clear n_BK1
  clear BK2
  have BK2 := n_BK2
  clear n_BK2
  clear BK4
  have BK4 := n_BK4
  clear n_BK4
  clear BK5
  have BK5 := n_BK5
  clear n_BK5
  clear hb
  refine hK.out _ _ ⟨(blk_cell BK1.out 0).trans rfl, (blk_cell BK1.out 1).trans rfl, (blk_cell BK1.out 2).trans rfl, (blk_cell BK1.out 3).trans rfl, (blk_cell BK1.out 4).trans rfl, (blk_cell BK1.out 5).trans rfl, (blk_cell BK1.out 6).trans rfl, (blk_cell BK1.out 7).trans rfl, (blk_cell BK1.out 8).trans rfl, (blk_cell BK1.out 9).trans rfl, (blk_cell BK1.out 10).trans rfl, (blk_cell BK1.out 11).trans rfl, (blk_cell BK1.out 12).trans rfl, (blk_cell BK1.out 13).trans rfl, (blk_cell BK1.out 14).trans rfl, (blk_cell BK1.out 15).trans rfl, (blk_cell BK1.out 16).trans rfl, (blk_cell BK1.out 17).trans rfl⟩ (fun hHeld => ?_)
  clear hK K
  refine norm_ (a' := ?_) ?_ ?_
  rotate_left
  · show Act.put _ (some 34) _ = _
    simp only [Act.put, List.setIfInBounds_toArray, List.set_cons_zero, List.set_cons_succ, i64_w, i32_w]
    rfl
  refine one_ (i := 12) (N := some 35) #[true, true, true, true, true, true, true, true, true, true, true, true, true, false, false, false, false, false, false] rfl rfl (by kernel_rfl) (by decide) (fun K hK => ?_)
  refine value_ (w1 := ?_) (v := ?_) (by rfl) rfl ?_ ?_
  rotate_left 2
  · go_simp
    constructor
    · rfl
    · rfl
  have hb := below_alloc (Below.refl y13_.heap.size y13_) (.cells #[.int .i64 a.u, .int .i64 b.u, .int .i64 c.u] 2)
  have hbox := blk_new y13_ (.cells #[.int .i64 a.u, .int .i64 b.u, .int .i64 c.u] 2)
  have m_ := Aside0.mk hbox
  have n_HB := Aside0.mk (below_step HB.out hb)
  have n_BK1 := Aside0.mk (blk_below BK1.out hb)
  have n_BK2 := Aside0.mk (blk_below BK2.out hb)
  have n_BK4 := Aside0.mk (blk_below BK4.out hb)
  have n_BK5 := Aside0.mk (blk_below BK5.out hb)
  clear HB
  have HB := n_HB
  clear n_HB
  clear BK1
  have BK1 := n_BK1
  clear n_BK1
  clear BK2
  have BK2 := n_BK2
  clear n_BK2
  clear BK4
  have BK4 := n_BK4
  clear n_BK4
  clear BK5
  have BK5 := n_BK5
  clear n_BK5
  clear hb hbox
  generalize y13_.alloc (.cells #[.int .i64 a.u, .int .i64 b.u, .int .i64 c.u] 2) = y14_ at m_ HB BK1 BK2 BK4 BK5 ⊢
  generalize y13_.heap.size = gl at m_ ⊢
  have BKgl := m_
  clear m_
  refine hK.out _ _ ⟨(blk_cell BK1.out 0).trans rfl, (blk_cell BK1.out 1).trans rfl, (blk_cell BK1.out 2).trans rfl, (blk_cell BK1.out 3).trans rfl, (blk_cell BK1.out 4).trans rfl, (blk_cell BK1.out 5).trans rfl, (blk_cell BK1.out 6).trans rfl, (blk_cell BK1.out 7).trans rfl, (blk_cell BK1.out 8).trans rfl, (blk_cell BK1.out 9).trans rfl, (blk_cell BK1.out 10).trans rfl, (blk_cell BK1.out 11).trans rfl, (blk_cell BK1.out 12).trans rfl, (blk_cell BK1.out 13).trans rfl, (blk_cell BK1.out 14).trans rfl, (blk_cell BK1.out 15).trans rfl, (blk_cell BK1.out 16).trans rfl, (blk_cell BK1.out 17).trans rfl⟩ (fun hHeld => ?_)
  clear hK K
  refine norm_ (a' := ?_) ?_ ?_
  rotate_left
  · show Act.put _ (some 35) _ = _
    simp only [Act.put, List.setIfInBounds_toArray, List.set_cons_zero, List.set_cons_succ, i64_w, i32_w]
    rfl
  refine one_ (i := 13) (N := some 36) #[true, true, true, true, true, true, true, true, true, true, true, true, true, true, false, false, false, false, false] rfl rfl (by kernel_rfl) (by decide) (fun K hK => ?_)
  refine goes_ Try.func46 (by kernel_rfl) rfl #[.slice (some ⟨gl, 0, none⟩) 3 3] (by rfl) rfl rfl (by (try simp only [List.map_toArray, List.map_cons, List.map_nil]); first | done | rfl) ?_
  with_reducible refine (allow_Net.sumc HSUM.out BKgl.out).mono ?_
  rintro e y15_ ⟨rfl, hd⟩
  have hb := hd.below
  refine ⟨_, rfl, ?_⟩
  have n_HB := Aside0.mk (below_step HB.out hb)
  have n_BK1 := Aside0.mk (blk_below BK1.out hb)
  have n_BK2 := Aside0.mk (blk_below BK2.out hb)
  have n_BK4 := Aside0.mk (blk_below BK4.out hb)
  have n_BK5 := Aside0.mk (blk_below BK5.out hb)
  have n_BKgl := Aside0.mk (blk_below BKgl.out hb)
  clear HB
  have HB := n_HB
  clear n_HB
  clear BK1
  have BK1 := n_BK1
  clear n_BK1
  clear BK2
  have BK2 := n_BK2
  clear n_BK2
  clear BK4
  have BK4 := n_BK4
  clear n_BK4
  clear BK5
  have BK5 := n_BK5
  clear n_BK5
  clear BKgl
  have BKgl := n_BKgl
  clear n_BKgl
  clear hb
  refine hK.out _ _ ⟨(blk_cell BK1.out 0).trans rfl, (blk_cell BK1.out 1).trans rfl, (blk_cell BK1.out 2).trans rfl, (blk_cell BK1.out 3).trans rfl, (blk_cell BK1.out 4).trans rfl, (blk_cell BK1.out 5).trans rfl, (blk_cell BK1.out 6).trans rfl, (blk_cell BK1.out 7).trans rfl, (blk_cell BK1.out 8).trans rfl, (blk_cell BK1.out 9).trans rfl, (blk_cell BK1.out 10).trans rfl, (blk_cell BK1.out 11).trans rfl, (blk_cell BK1.out 12).trans rfl, (blk_cell BK1.out 13).trans rfl, (blk_cell BK1.out 14).trans rfl, (blk_cell BK1.out 15).trans rfl, (blk_cell BK1.out 16).trans rfl, (blk_cell BK1.out 17).trans rfl⟩ (fun hHeld => ?_)
  clear hK K
  refine norm_ (a' := ?_) ?_ ?_
  rotate_left
  · show Act.put _ (some 36) _ = _
    simp only [Act.put, List.setIfInBounds_toArray, List.set_cons_zero, List.set_cons_succ, i64_w, i32_w]
    rfl
  refine pure_ (i := 14) (N := some 22) (v := ?_) (a' := ?_) #[true, true, true, true, true, true, true, true, true, true, true, true, true, true, true, false, false, false, false] rfl rfl (by kernel_rfl) (fun c_ a_ w_ h => hpan c_ (Act.put a_ _ _) a_ w_ (by rfl) h) (Or.inl ⟨by rfl, ?_⟩) ?_ ?_
  rotate_left
  · intro w'
    go_simp
    with_reducible rfl
  rotate_left
  · simp only [Act.put, List.setIfInBounds_toArray, List.set_cons_zero, List.set_cons_succ, i64_w, i32_w]
    rfl
  refine pure_ (i := 15) (N := some 37) (v := ?_) (a' := ?_) #[true, true, true, true, true, true, true, true, true, true, true, true, true, true, true, true, false, false, false] rfl rfl (by kernel_rfl) (fun c_ a_ w_ h => hpan c_ (Act.put a_ _ _) a_ w_ (by rfl) h) (Or.inl ⟨by rfl, ?_⟩) ?_ ?_
  rotate_left
  · intro w'
    go_simp
    with_reducible rfl
  rotate_left
  · simp only [Act.put, List.setIfInBounds_toArray, List.set_cons_zero, List.set_cons_succ, i64_w, i32_w]
    rfl
  refine pure_ (i := 16) (N := some 38) (v := ?_) (a' := ?_) #[true, true, true, true, true, true, true, true, true, true, true, true, true, true, true, true, true, false, false] rfl rfl (by kernel_rfl) (fun c_ a_ w_ h => hpan c_ (Act.put a_ _ _) a_ w_ (by rfl) h) (Or.inl ⟨by rfl, ?_⟩) ?_ ?_
  rotate_left
  · intro w'
    go_simp
    with_reducible rfl
  rotate_left
  · simp only [Act.put, List.setIfInBounds_toArray, List.set_cons_zero, List.set_cons_succ, i64_w, i32_w]
    rfl
  refine pure_ (i := 17) (N := some 8) (v := ?_) (a' := ?_) #[true, true, true, true, true, true, true, true, true, true, true, true, true, true, true, true, true, true, false] rfl rfl (by kernel_rfl) (fun c_ a_ w_ h => hpan c_ (Act.put a_ _ _) a_ w_ (by rfl) h) (Or.inl ⟨by rfl, ?_⟩) ?_ ?_
  rotate_left
  · intro w'
    go_simp
    with_reducible rfl
  rotate_left
  · simp only [Act.put, List.setIfInBounds_toArray, List.set_cons_zero, List.set_cons_succ, i64_w, i32_w]
    rfl
  refine pure_ (i := 18) (N := some 9) (v := ?_) (a' := ?_) #[true, true, true, true, true, true, true, true, true, true, true, true, true, true, true, true, true, true, true] rfl rfl (by kernel_rfl) (fun c_ a_ w_ h => hpan c_ (Act.put a_ _ _) a_ w_ (by rfl) h) (Or.inl ⟨by rfl, ?_⟩) ?_ ?_
  rotate_left
  · intro w'
    go_simp
    with_reducible rfl
  rotate_left
  · simp only [Act.put, List.setIfInBounds_toArray, List.set_cons_zero, List.set_cons_succ, i64_w, i32_w]
    rfl
  refine done_ (by kernel_rfl) ?_
  clear hHeld HSUM BKgl
  by_cases hi : inr64 (a.u + b.u + c.u)
  case neg =>
    have hq := HSE.out
    rw [if_neg hi] at hq
    simp only [Prod.mk.injEq] at hq
    obtain ⟨rfl, rfl⟩ := hq
    have HI := Aside0.mk hi
    clear hi hK
    go_wp2_with ((with_reducible refine gate_store (t := 38) (p := 2) (v := .tmp 41) rfl ?_); refine Shut.out ?_)
    unfold Shut
    refine store_rowTo rfl 38 (.tmp 2) (.tmp 41) rfl rfl g2 (row6 Row6.z) rfl rfl 38 _ BK2.out (by kernel_rfl) rfl (all6n _ _ _ _ _ _) ?_
    have HBn := Aside0.mk (row_below (g := g2) HB.out (by omega) (row6 Row6.z))
    have BKn := Aside0.mk (setRow_heap _ _ _ (row6 Row6.z) _ _ BK2.out)
    clear HB BK2
    go_wp2_with fail
    exact ⟨HI.out, BKn, HBn⟩
  have hq := HSE.out
  rw [if_pos hi] at hq
  simp only [Prod.mk.injEq] at hq
  obtain ⟨hs, rfl⟩ := hq
  have HS := Aside0.mk hs
  have HI := Aside0.mk hi
  clear hs hi HSE herr
  have kp : y15_.cell? ⟨g5, 2, none⟩ = some (.pointer (some ⟨g4, 2, none⟩)) := blk_cell BK5.out 2
  have kc : y15_.cell? ⟨g4, 2, none⟩ = some (.int .i64 0) := blk_cell BK4.out 2
  have kf := blk_frozen BK4.out 2
  go_wp2_with fail
  have n_HB := Aside0.mk (HB.out.setCell (p := ⟨g4, 2, none⟩) (show w.heap.size ≤ g4 by omega) (.int .i64 s))
  have n_BK1 := Aside0.mk ((Below.heap_setCell y15_ ⟨g4, 2, none⟩ (.int .i64 s) w.heap.size (show w.heap.size ≠ g4 by omega)).trans BK1.out)
  have n_BK2 := Aside0.mk ((Below.heap_setCell y15_ ⟨g4, 2, none⟩ (.int .i64 s) g2 (show g2 ≠ g4 by omega)).trans BK2.out)
  have n_BK5 := Aside0.mk ((Below.heap_setCell y15_ ⟨g4, 2, none⟩ (.int .i64 s) g5 (show g5 ≠ g4 by omega)).trans BK5.out)
  have n_BK4 := Aside0.mk (blk_put BK4.out 2 (.int .i64 s) (show _ = (#[.int .i64 p0, .int .i64 p1, .int .i64 (a.u + b.u + c.u), .int .i64 p3, .int .i64 p4, .int .i64 p5] : Array Value) from by rw [HS.out]; rfl))
  first | exact ⟨HI.out, n_BK1, n_BK2, n_BK4, n_BK5, n_HB⟩ | (refine hK _ _ _ _ _ _ _ _ _ _ _ _ _ _ _ _ _ _ _ _ _ _ _ _ _ _ _ _ _ _ _ _ _ _ _ ⟨HI.out, n_BK1, n_BK2, n_BK4, n_BK5, n_HB⟩)
set_option maxHeartbeats 16000000 in
set_option maxRecDepth 1000000 in
theorem allow_Net.round3 {a b c : Row6} (ha : Aside0 a.inr) (hb0 : Aside0 b.inr) (hc : Aside0 c.inr) {w v0 : World} {g2 g4 g5 : Nat} (hlt2 : w.heap.size < g2) (hlt4 : g2 < g4) (hlt5 : g4 < g5) {p0 p1 p2 p4 p5 : Int} {K : Act → World → Prop} {Q0 : Exit → Act → World → Prop} {c0 c10 c11 c12 c13 c14 c15 c16 c49 : Value} {u6 u7 u8 u9 u19 u20 u21 u22 u23 u24 u25 u26 u27 u28 u29 u30 u31 u32 u33 u34 u35 u36 u37 u38 u39 u40 u41 u42 u43 u44 u45 u46 u47 u48 : Value}
    (BK1 : Aside0 (v0.heap[w.heap.size]? = some (.cells (row18 a b c) 39 (0, 0)))) (BK2 : Aside0 (v0.heap[g2]? = some (.cells (row6 Row6.z) 38 (0, 0)))) (BK4 : Aside0 (v0.heap[g4]? = some (.cells #[.int .i64 p0, .int .i64 p1, .int .i64 p2, .int .i64 0, .int .i64 p4, .int .i64 p5] 38 (0, 0)))) (BK5 : Aside0 (v0.heap[g5]? = some (.cells #[.pointer (some ⟨g4, 0, none⟩), .pointer (some ⟨g4, 1, none⟩), .pointer (some ⟨g4, 2, none⟩), .pointer (some ⟨g4, 3, none⟩), .pointer (some ⟨g4, 4, none⟩), .pointer (some ⟨g4, 5, none⟩)] 95 (0, 0)))) (HB : Aside0 (Below w.heap.size w v0))
    (hpan : ∀ c_ (a_ b_ : Act) w_, a_.defers = b_.defers → Q0 (Exit.panic c_) a_ w_ → Q0 (Exit.panic c_) b_ w_)
    (herr : ∀ (x6 x7 x8 x9 x18 x19 x20 x21 x22 x23 x24 x25 x26 x27 x28 x29 x30 x31 x32 x33 x34 x35 x36 x37 x38 x39 x40 x41 x42 x43 x44 x45 x46 x47 x48 : Value) (w1 : World), (¬ inr64 (a.n + b.n + c.n) ∧ Aside0 (w1.heap[g2]? = some (.cells (row6 Row6.z) 38 (0, 0))) ∧ Aside0 (Below w.heap.size w w1)) → Q0 Exit.ret ⟨List.toArray (c0 :: .pointer (some ⟨w.heap.size, 0, none⟩) :: .pointer (some ⟨g2, 0, none⟩) :: .int .i64 3 :: .pointer (some ⟨g4, 0, none⟩) :: .pointer (some ⟨g5, 0, none⟩) :: x6 :: x7 :: x8 :: x9 :: c10 :: c11 :: c12 :: c13 :: c14 :: c15 :: c16 :: .agg #[.func (.func 40) #[] #[], .func (.func 41) #[] #[], .func (.func 42) #[] #[], .func (.func 43) #[] #[], .func (.func 44) #[] #[], .func (.func 45) #[] #[]] :: x18 :: x19 :: x20 :: x21 :: x22 :: x23 :: x24 :: x25 :: x26 :: x27 :: x28 :: x29 :: x30 :: x31 :: x32 :: x33 :: x34 :: x35 :: x36 :: x37 :: x38 :: x39 :: x40 :: x41 :: x42 :: x43 :: x44 :: x45 :: x46 :: x47 :: x48 :: c49 :: []), []⟩ w1)
    (hK : ∀ (x6 x7 x8 x9 x19 x20 x21 x22 x23 x24 x25 x26 x27 x28 x29 x30 x31 x32 x33 x34 x35 x36 x37 x38 x39 x40 x41 x42 x43 x44 x45 x46 x47 x48 : Value) (w1 : World), (inr64 (a.n + b.n + c.n) ∧ Aside0 (w1.heap[w.heap.size]? = some (.cells (row18 a b c) 39 (0, 0))) ∧ Aside0 (w1.heap[g2]? = some (.cells (row6 Row6.z) 38 (0, 0))) ∧ Aside0 (w1.heap[g4]? = some (.cells #[.int .i64 p0, .int .i64 p1, .int .i64 p2, .int .i64 (a.n + b.n + c.n), .int .i64 p4, .int .i64 p5] 38 (0, 0))) ∧ Aside0 (w1.heap[g5]? = some (.cells #[.pointer (some ⟨g4, 0, none⟩), .pointer (some ⟨g4, 1, none⟩), .pointer (some ⟨g4, 2, none⟩), .pointer (some ⟨g4, 3, none⟩), .pointer (some ⟨g4, 4, none⟩), .pointer (some ⟨g4, 5, none⟩)] 95 (0, 0))) ∧ Aside0 (Below w.heap.size w w1)) → K ⟨List.toArray (c0 :: .pointer (some ⟨w.heap.size, 0, none⟩) :: .pointer (some ⟨g2, 0, none⟩) :: .int .i64 0 :: .pointer (some ⟨g4, 0, none⟩) :: .pointer (some ⟨g5, 0, none⟩) :: x6 :: x7 :: x8 :: x9 :: c10 :: c11 :: c12 :: c13 :: c14 :: c15 :: c16 :: .agg #[.func (.func 40) #[] #[], .func (.func 41) #[] #[], .func (.func 42) #[] #[], .func (.func 43) #[] #[], .func (.func 44) #[] #[], .func (.func 45) #[] #[]] :: .int .i64 4 :: x19 :: x20 :: x21 :: x22 :: x23 :: x24 :: x25 :: x26 :: x27 :: x28 :: x29 :: x30 :: x31 :: x32 :: x33 :: x34 :: x35 :: x36 :: x37 :: x38 :: x39 :: x40 :: x41 :: x42 :: x43 :: x44 :: x45 :: x46 :: x47 :: x48 :: c49 :: []), []⟩ w1) :
    Code.wp Try.prog allow_Net.body (Exit.then K Q0) ⟨List.toArray (c0 :: .pointer (some ⟨w.heap.size, 0, none⟩) :: .pointer (some ⟨g2, 0, none⟩) :: .int .i64 0 :: .pointer (some ⟨g4, 0, none⟩) :: .pointer (some ⟨g5, 0, none⟩) :: u6 :: u7 :: u8 :: u9 :: c10 :: c11 :: c12 :: c13 :: c14 :: c15 :: c16 :: .agg #[.func (.func 40) #[] #[], .func (.func 41) #[] #[], .func (.func 42) #[] #[], .func (.func 43) #[] #[], .func (.func 44) #[] #[], .func (.func 45) #[] #[]] :: .int .i64 3 :: u19 :: u20 :: u21 :: u22 :: u23 :: u24 :: u25 :: u26 :: u27 :: u28 :: u29 :: u30 :: u31 :: u32 :: u33 :: u34 :: u35 :: u36 :: u37 :: u38 :: u39 :: u40 :: u41 :: u42 :: u43 :: u44 :: u45 :: u46 :: u47 :: u48 :: c49 :: []), []⟩ v0 := by
  conv => arg 2; whnf
  have hix := fun W => allow_Net.ix3 W
  go_wp2_with fail
  have n_HB := Aside0.mk (below_drew1 HB.out)
  have n_BK1 := Aside0.mk (blk_drew BK1.out)
  have n_BK2 := Aside0.mk (blk_drew BK2.out)
  have n_BK4 := Aside0.mk (blk_drew BK4.out)
  have n_BK5 := Aside0.mk (blk_drew BK5.out)
  clear HB BK1 BK2 BK4 BK5
  have HB := n_HB
  clear n_HB
  have BK1 := n_BK1
  clear n_BK1
  have BK2 := n_BK2
  clear n_BK2
  have BK4 := n_BK4
  clear n_BK4
  have BK5 := n_BK5
  clear n_BK5
  obtain ⟨⟨s, e⟩, hse⟩ : ∃ r, r = (if inr64 (a.n + b.n + c.n) then ((a.n + b.n + c.n), (0 : Int)) else (0, 3)) := ⟨_, rfl⟩
  have hsum := allow_Net.sum3 a.n b.n c.n (by have := ha.out; unfold Row6.inr at this; exact this.2.2.2.1) (by have := hb0.out; unfold Row6.inr at this; exact this.2.2.2.1) (by have := hc.out; unfold Row6.inr at this; exact this.2.2.2.1)
  rw [← hse] at hsum
  have HSE := Aside0.mk hse
  have HSUM := Aside0.mk hsum
  clear hse hsum
  refine start_ (n := 19) (S := fun w' => w'.cell? ⟨w.heap.size, 0, none⟩ = some (.int .i64 a.o) ∧ w'.cell? ⟨w.heap.size, 1, none⟩ = some (.int .i64 a.i) ∧ w'.cell? ⟨w.heap.size, 2, none⟩ = some (.int .i64 a.u) ∧ w'.cell? ⟨w.heap.size, 3, none⟩ = some (.int .i64 a.n) ∧ w'.cell? ⟨w.heap.size, 4, none⟩ = some (.int .i64 a.w) ∧ w'.cell? ⟨w.heap.size, 5, none⟩ = some (.int .i64 a.c) ∧ w'.cell? ⟨w.heap.size, 6, none⟩ = some (.int .i64 b.o) ∧ w'.cell? ⟨w.heap.size, 7, none⟩ = some (.int .i64 b.i) ∧ w'.cell? ⟨w.heap.size, 8, none⟩ = some (.int .i64 b.u) ∧ w'.cell? ⟨w.heap.size, 9, none⟩ = some (.int .i64 b.n) ∧ w'.cell? ⟨w.heap.size, 10, none⟩ = some (.int .i64 b.w) ∧ w'.cell? ⟨w.heap.size, 11, none⟩ = some (.int .i64 b.c) ∧ w'.cell? ⟨w.heap.size, 12, none⟩ = some (.int .i64 c.o) ∧ w'.cell? ⟨w.heap.size, 13, none⟩ = some (.int .i64 c.i) ∧ w'.cell? ⟨w.heap.size, 14, none⟩ = some (.int .i64 c.u) ∧ w'.cell? ⟨w.heap.size, 15, none⟩ = some (.int .i64 c.n) ∧ w'.cell? ⟨w.heap.size, 16, none⟩ = some (.int .i64 c.w) ∧ w'.cell? ⟨w.heap.size, 17, none⟩ = some (.int .i64 c.c)) (ds := []) #[false, false, false, false, false, false, false, false, false, false, false, false, false, false, false, false, false, false, false] (by kernel_rfl) rfl rfl ⟨(blk_cell BK1.out 0).trans rfl, (blk_cell BK1.out 1).trans rfl, (blk_cell BK1.out 2).trans rfl, (blk_cell BK1.out 3).trans rfl, (blk_cell BK1.out 4).trans rfl, (blk_cell BK1.out 5).trans rfl, (blk_cell BK1.out 6).trans rfl, (blk_cell BK1.out 7).trans rfl, (blk_cell BK1.out 8).trans rfl, (blk_cell BK1.out 9).trans rfl, (blk_cell BK1.out 10).trans rfl, (blk_cell BK1.out 11).trans rfl, (blk_cell BK1.out 12).trans rfl, (blk_cell BK1.out 13).trans rfl, (blk_cell BK1.out 14).trans rfl, (blk_cell BK1.out 15).trans rfl, (blk_cell BK1.out 16).trans rfl, (blk_cell BK1.out 17).trans rfl⟩ (fun hHeld => ?_)
  generalize v0.drew = x0 at HB BK1 BK2 BK4 BK5 hHeld ⊢
  refine pure_ (i := 0) (N := some 23) (v := ?_) (a' := ?_) #[true, false, false, false, false, false, false, false, false, false, false, false, false, false, false, false, false, false, false] rfl rfl (by kernel_rfl) (fun c_ a_ w_ h => hpan c_ (Act.put a_ _ _) a_ w_ (by rfl) h) (Or.inl ⟨by rfl, ?_⟩) ?_ ?_
  rotate_left
  · intro w'
    go_simp
    with_reducible rfl
  rotate_left
  · simp only [Act.put, List.setIfInBounds_toArray, List.set_cons_zero, List.set_cons_succ, i64_w, i32_w]
    rfl
  refine pure_ (i := 1) (N := some 24) (v := ?_) (a' := ?_) #[true, true, false, false, false, false, false, false, false, false, false, false, false, false, false, false, false, false, false] rfl rfl (by kernel_rfl) (fun c_ a_ w_ h => hpan c_ (Act.put a_ _ _) a_ w_ (by rfl) h) (Or.inl ⟨by rfl, ?_⟩) ?_ ?_
  rotate_left
  · intro w'
    go_simp
    with_reducible rfl
  rotate_left
  · simp only [Act.put, List.setIfInBounds_toArray, List.set_cons_zero, List.set_cons_succ, i64_w, i32_w]
    rfl
  refine pure_ (i := 4) (N := some 27) (v := ?_) (a' := ?_) #[true, true, false, false, true, false, false, false, false, false, false, false, false, false, false, false, false, false, false] rfl rfl (by kernel_rfl) (fun c_ a_ w_ h => hpan c_ (Act.put a_ _ _) a_ w_ (by rfl) h) (Or.inl ⟨by rfl, ?_⟩) ?_ ?_
  rotate_left
  · intro w'
    go_simp
    with_reducible rfl
  rotate_left
  · simp only [Act.put, List.setIfInBounds_toArray, List.set_cons_zero, List.set_cons_succ, i64_w, i32_w]
    rfl
  refine pure_ (i := 5) (N := some 28) (v := ?_) (a' := ?_) #[true, true, false, false, true, true, false, false, false, false, false, false, false, false, false, false, false, false, false] rfl rfl (by kernel_rfl) (fun c_ a_ w_ h => hpan c_ (Act.put a_ _ _) a_ w_ (by rfl) h) (Or.inl ⟨by rfl, ?_⟩) ?_ ?_
  rotate_left
  · intro w'
    go_simp
    with_reducible rfl
  rotate_left
  · simp only [Act.put, List.setIfInBounds_toArray, List.set_cons_zero, List.set_cons_succ, i64_w, i32_w]
    rfl
  refine pure_ (i := 8) (N := some 31) (v := ?_) (a' := ?_) #[true, true, false, false, true, true, false, false, true, false, false, false, false, false, false, false, false, false, false] rfl rfl (by kernel_rfl) (fun c_ a_ w_ h => hpan c_ (Act.put a_ _ _) a_ w_ (by rfl) h) (Or.inl ⟨by rfl, ?_⟩) ?_ ?_
  rotate_left
  · intro w'
    go_simp
    with_reducible rfl
  rotate_left
  · simp only [Act.put, List.setIfInBounds_toArray, List.set_cons_zero, List.set_cons_succ, i64_w, i32_w]
    rfl
  refine pure_ (i := 9) (N := some 32) (v := ?_) (a' := ?_) #[true, true, false, false, true, true, false, false, true, true, false, false, false, false, false, false, false, false, false] rfl rfl (by kernel_rfl) (fun c_ a_ w_ h => hpan c_ (Act.put a_ _ _) a_ w_ (by rfl) h) (Or.inl ⟨by rfl, ?_⟩) ?_ ?_
  rotate_left
  · intro w'
    go_simp
    with_reducible rfl
  rotate_left
  · simp only [Act.put, List.setIfInBounds_toArray, List.set_cons_zero, List.set_cons_succ, i64_w, i32_w]
    rfl
  refine take_ (i := 2) (N := some 25) (v := ?_) (a' := ?_) #[true, true, true, false, true, true, false, false, true, true, false, false, false, false, false, false, false, false, false] rfl rfl (by kernel_rfl) (fun c_ a_ w_ h => hpan c_ (Act.put a_ _ _) a_ w_ (by rfl) h) (Or.inl ⟨by rfl, ?_⟩) hHeld ?_ ?_
  rotate_left
  · rintro w' ⟨s0, s1, s2, s3, s4, s5, s6, s7, s8, s9, s10, s11, s12, s13, s14, s15, s16, s17⟩
    go_simp
    with_reducible rfl
  rotate_left
  · simp only [Act.put, List.setIfInBounds_toArray, List.set_cons_zero, List.set_cons_succ, i64_w, i32_w]
    rfl
  refine take_ (i := 6) (N := some 29) (v := ?_) (a' := ?_) #[true, true, true, false, true, true, true, false, true, true, false, false, false, false, false, false, false, false, false] rfl rfl (by kernel_rfl) (fun c_ a_ w_ h => hpan c_ (Act.put a_ _ _) a_ w_ (by rfl) h) (Or.inl ⟨by rfl, ?_⟩) hHeld ?_ ?_
  rotate_left
  · rintro w' ⟨s0, s1, s2, s3, s4, s5, s6, s7, s8, s9, s10, s11, s12, s13, s14, s15, s16, s17⟩
    go_simp
    with_reducible rfl
  rotate_left
  · simp only [Act.put, List.setIfInBounds_toArray, List.set_cons_zero, List.set_cons_succ, i64_w, i32_w]
    rfl
  refine take_ (i := 10) (N := some 33) (v := ?_) (a' := ?_) #[true, true, true, false, true, true, true, false, true, true, true, false, false, false, false, false, false, false, false] rfl rfl (by kernel_rfl) (fun c_ a_ w_ h => hpan c_ (Act.put a_ _ _) a_ w_ (by rfl) h) (Or.inl ⟨by rfl, ?_⟩) hHeld ?_ ?_
  rotate_left
  · rintro w' ⟨s0, s1, s2, s3, s4, s5, s6, s7, s8, s9, s10, s11, s12, s13, s14, s15, s16, s17⟩
    go_simp
    with_reducible rfl
  rotate_left
  · simp only [Act.put, List.setIfInBounds_toArray, List.set_cons_zero, List.set_cons_succ, i64_w, i32_w]
    rfl
  refine one_ (i := 3) (N := some 26) #[true, true, true, true, true, true, true, false, true, true, true, false, false, false, false, false, false, false, false] rfl rfl (by kernel_rfl) (by decide) (fun K hK => ?_)
  refine goes_v Try.func43 (by kernel_rfl) rfl #[.agg #[.int .i64 a.o, .int .i64 a.i, .int .i64 a.u, .int .i64 a.n, .int .i64 a.w, .int .i64 a.c]] (by rfl) rfl rfl (by rfl) (by (try simp only [List.map_toArray, List.map_cons, List.map_nil]); first | done | rfl) ?_
  with_reducible refine (allow_Net.c31 a _).mono ?_
  rintro e y16_ ⟨rfl, hb⟩
  refine ⟨_, rfl, ?_⟩
  have n_HB := Aside0.mk (below_step HB.out hb)
  have n_BK1 := Aside0.mk (blk_below BK1.out hb)
  have n_BK2 := Aside0.mk (blk_below BK2.out hb)
  have n_BK4 := Aside0.mk (blk_below BK4.out hb)
  have n_BK5 := Aside0.mk (blk_below BK5.out hb)
  clear HB
  have HB := n_HB
  clear n_HB
  clear BK1
  have BK1 := n_BK1
  clear n_BK1
  clear BK2
  have BK2 := n_BK2
  clear n_BK2
  clear BK4
  have BK4 := n_BK4
  clear n_BK4
  clear BK5
  have BK5 := n_BK5
  clear n_BK5
  clear hb
  refine hK.out _ _ ⟨(blk_cell BK1.out 0).trans rfl, (blk_cell BK1.out 1).trans rfl, (blk_cell BK1.out 2).trans rfl, (blk_cell BK1.out 3).trans rfl, (blk_cell BK1.out 4).trans rfl, (blk_cell BK1.out 5).trans rfl, (blk_cell BK1.out 6).trans rfl, (blk_cell BK1.out 7).trans rfl, (blk_cell BK1.out 8).trans rfl, (blk_cell BK1.out 9).trans rfl, (blk_cell BK1.out 10).trans rfl, (blk_cell BK1.out 11).trans rfl, (blk_cell BK1.out 12).trans rfl, (blk_cell BK1.out 13).trans rfl, (blk_cell BK1.out 14).trans rfl, (blk_cell BK1.out 15).trans rfl, (blk_cell BK1.out 16).trans rfl, (blk_cell BK1.out 17).trans rfl⟩ (fun hHeld => ?_)
  clear hK K
  refine norm_ (a' := ?_) ?_ ?_
  rotate_left
  · show Act.put _ (some 26) _ = _
    simp only [Act.put, List.setIfInBounds_toArray, List.set_cons_zero, List.set_cons_succ, i64_w, i32_w]
    rfl
  refine one_ (i := 7) (N := some 30) #[true, true, true, true, true, true, true, true, true, true, true, false, false, false, false, false, false, false, false] rfl rfl (by kernel_rfl) (by decide) (fun K hK => ?_)
  refine goes_v Try.func43 (by kernel_rfl) rfl #[.agg #[.int .i64 b.o, .int .i64 b.i, .int .i64 b.u, .int .i64 b.n, .int .i64 b.w, .int .i64 b.c]] (by rfl) rfl rfl (by rfl) (by (try simp only [List.map_toArray, List.map_cons, List.map_nil]); first | done | rfl) ?_
  with_reducible refine (allow_Net.c31 b _).mono ?_
  rintro e y17_ ⟨rfl, hb⟩
  refine ⟨_, rfl, ?_⟩
  have n_HB := Aside0.mk (below_step HB.out hb)
  have n_BK1 := Aside0.mk (blk_below BK1.out hb)
  have n_BK2 := Aside0.mk (blk_below BK2.out hb)
  have n_BK4 := Aside0.mk (blk_below BK4.out hb)
  have n_BK5 := Aside0.mk (blk_below BK5.out hb)
  clear HB
  have HB := n_HB
  clear n_HB
  clear BK1
  have BK1 := n_BK1
  clear n_BK1
  clear BK2
  have BK2 := n_BK2
  clear n_BK2
  clear BK4
  have BK4 := n_BK4
  clear n_BK4
  clear BK5
  have BK5 := n_BK5
  clear n_BK5
  clear hb
  refine hK.out _ _ ⟨(blk_cell BK1.out 0).trans rfl, (blk_cell BK1.out 1).trans rfl, (blk_cell BK1.out 2).trans rfl, (blk_cell BK1.out 3).trans rfl, (blk_cell BK1.out 4).trans rfl, (blk_cell BK1.out 5).trans rfl, (blk_cell BK1.out 6).trans rfl, (blk_cell BK1.out 7).trans rfl, (blk_cell BK1.out 8).trans rfl, (blk_cell BK1.out 9).trans rfl, (blk_cell BK1.out 10).trans rfl, (blk_cell BK1.out 11).trans rfl, (blk_cell BK1.out 12).trans rfl, (blk_cell BK1.out 13).trans rfl, (blk_cell BK1.out 14).trans rfl, (blk_cell BK1.out 15).trans rfl, (blk_cell BK1.out 16).trans rfl, (blk_cell BK1.out 17).trans rfl⟩ (fun hHeld => ?_)
  clear hK K
  refine norm_ (a' := ?_) ?_ ?_
  rotate_left
  · show Act.put _ (some 30) _ = _
    simp only [Act.put, List.setIfInBounds_toArray, List.set_cons_zero, List.set_cons_succ, i64_w, i32_w]
    rfl
  refine one_ (i := 11) (N := some 34) #[true, true, true, true, true, true, true, true, true, true, true, true, false, false, false, false, false, false, false] rfl rfl (by kernel_rfl) (by decide) (fun K hK => ?_)
  refine goes_v Try.func43 (by kernel_rfl) rfl #[.agg #[.int .i64 c.o, .int .i64 c.i, .int .i64 c.u, .int .i64 c.n, .int .i64 c.w, .int .i64 c.c]] (by rfl) rfl rfl (by rfl) (by (try simp only [List.map_toArray, List.map_cons, List.map_nil]); first | done | rfl) ?_
  with_reducible refine (allow_Net.c31 c _).mono ?_
  rintro e y18_ ⟨rfl, hb⟩
  refine ⟨_, rfl, ?_⟩
  have n_HB := Aside0.mk (below_step HB.out hb)
  have n_BK1 := Aside0.mk (blk_below BK1.out hb)
  have n_BK2 := Aside0.mk (blk_below BK2.out hb)
  have n_BK4 := Aside0.mk (blk_below BK4.out hb)
  have n_BK5 := Aside0.mk (blk_below BK5.out hb)
  clear HB
  have HB := n_HB
  clear n_HB
  clear BK1
  have BK1 := n_BK1
  clear n_BK1
  clear BK2
  have BK2 := n_BK2
  clear n_BK2
  clear BK4
  have BK4 := n_BK4
  clear n_BK4
  clear BK5
  have BK5 := n_BK5
  clear n_BK5
  clear hb
  refine hK.out _ _ ⟨(blk_cell BK1.out 0).trans rfl, (blk_cell BK1.out 1).trans rfl, (blk_cell BK1.out 2).trans rfl, (blk_cell BK1.out 3).trans rfl, (blk_cell BK1.out 4).trans rfl, (blk_cell BK1.out 5).trans rfl, (blk_cell BK1.out 6).trans rfl, (blk_cell BK1.out 7).trans rfl, (blk_cell BK1.out 8).trans rfl, (blk_cell BK1.out 9).trans rfl, (blk_cell BK1.out 10).trans rfl, (blk_cell BK1.out 11).trans rfl, (blk_cell BK1.out 12).trans rfl, (blk_cell BK1.out 13).trans rfl, (blk_cell BK1.out 14).trans rfl, (blk_cell BK1.out 15).trans rfl, (blk_cell BK1.out 16).trans rfl, (blk_cell BK1.out 17).trans rfl⟩ (fun hHeld => ?_)
  clear hK K
  refine norm_ (a' := ?_) ?_ ?_
  rotate_left
  · show Act.put _ (some 34) _ = _
    simp only [Act.put, List.setIfInBounds_toArray, List.set_cons_zero, List.set_cons_succ, i64_w, i32_w]
    rfl
  refine one_ (i := 12) (N := some 35) #[true, true, true, true, true, true, true, true, true, true, true, true, true, false, false, false, false, false, false] rfl rfl (by kernel_rfl) (by decide) (fun K hK => ?_)
  refine value_ (w1 := ?_) (v := ?_) (by rfl) rfl ?_ ?_
  rotate_left 2
  · go_simp
    constructor
    · rfl
    · rfl
  have hb := below_alloc (Below.refl y18_.heap.size y18_) (.cells #[.int .i64 a.n, .int .i64 b.n, .int .i64 c.n] 2)
  have hbox := blk_new y18_ (.cells #[.int .i64 a.n, .int .i64 b.n, .int .i64 c.n] 2)
  have m_ := Aside0.mk hbox
  have n_HB := Aside0.mk (below_step HB.out hb)
  have n_BK1 := Aside0.mk (blk_below BK1.out hb)
  have n_BK2 := Aside0.mk (blk_below BK2.out hb)
  have n_BK4 := Aside0.mk (blk_below BK4.out hb)
  have n_BK5 := Aside0.mk (blk_below BK5.out hb)
  clear HB
  have HB := n_HB
  clear n_HB
  clear BK1
  have BK1 := n_BK1
  clear n_BK1
  clear BK2
  have BK2 := n_BK2
  clear n_BK2
  clear BK4
  have BK4 := n_BK4
  clear n_BK4
  clear BK5
  have BK5 := n_BK5
  clear n_BK5
  clear hb hbox
  generalize y18_.alloc (.cells #[.int .i64 a.n, .int .i64 b.n, .int .i64 c.n] 2) = y19_ at m_ HB BK1 BK2 BK4 BK5 ⊢
  generalize y18_.heap.size = gl at m_ ⊢
  have BKgl := m_
  clear m_
  refine hK.out _ _ ⟨(blk_cell BK1.out 0).trans rfl, (blk_cell BK1.out 1).trans rfl, (blk_cell BK1.out 2).trans rfl, (blk_cell BK1.out 3).trans rfl, (blk_cell BK1.out 4).trans rfl, (blk_cell BK1.out 5).trans rfl, (blk_cell BK1.out 6).trans rfl, (blk_cell BK1.out 7).trans rfl, (blk_cell BK1.out 8).trans rfl, (blk_cell BK1.out 9).trans rfl, (blk_cell BK1.out 10).trans rfl, (blk_cell BK1.out 11).trans rfl, (blk_cell BK1.out 12).trans rfl, (blk_cell BK1.out 13).trans rfl, (blk_cell BK1.out 14).trans rfl, (blk_cell BK1.out 15).trans rfl, (blk_cell BK1.out 16).trans rfl, (blk_cell BK1.out 17).trans rfl⟩ (fun hHeld => ?_)
  clear hK K
  refine norm_ (a' := ?_) ?_ ?_
  rotate_left
  · show Act.put _ (some 35) _ = _
    simp only [Act.put, List.setIfInBounds_toArray, List.set_cons_zero, List.set_cons_succ, i64_w, i32_w]
    rfl
  refine one_ (i := 13) (N := some 36) #[true, true, true, true, true, true, true, true, true, true, true, true, true, true, false, false, false, false, false] rfl rfl (by kernel_rfl) (by decide) (fun K hK => ?_)
  refine goes_ Try.func46 (by kernel_rfl) rfl #[.slice (some ⟨gl, 0, none⟩) 3 3] (by rfl) rfl rfl (by (try simp only [List.map_toArray, List.map_cons, List.map_nil]); first | done | rfl) ?_
  with_reducible refine (allow_Net.sumc HSUM.out BKgl.out).mono ?_
  rintro e y20_ ⟨rfl, hd⟩
  have hb := hd.below
  refine ⟨_, rfl, ?_⟩
  have n_HB := Aside0.mk (below_step HB.out hb)
  have n_BK1 := Aside0.mk (blk_below BK1.out hb)
  have n_BK2 := Aside0.mk (blk_below BK2.out hb)
  have n_BK4 := Aside0.mk (blk_below BK4.out hb)
  have n_BK5 := Aside0.mk (blk_below BK5.out hb)
  have n_BKgl := Aside0.mk (blk_below BKgl.out hb)
  clear HB
  have HB := n_HB
  clear n_HB
  clear BK1
  have BK1 := n_BK1
  clear n_BK1
  clear BK2
  have BK2 := n_BK2
  clear n_BK2
  clear BK4
  have BK4 := n_BK4
  clear n_BK4
  clear BK5
  have BK5 := n_BK5
  clear n_BK5
  clear BKgl
  have BKgl := n_BKgl
  clear n_BKgl
  clear hb
  refine hK.out _ _ ⟨(blk_cell BK1.out 0).trans rfl, (blk_cell BK1.out 1).trans rfl, (blk_cell BK1.out 2).trans rfl, (blk_cell BK1.out 3).trans rfl, (blk_cell BK1.out 4).trans rfl, (blk_cell BK1.out 5).trans rfl, (blk_cell BK1.out 6).trans rfl, (blk_cell BK1.out 7).trans rfl, (blk_cell BK1.out 8).trans rfl, (blk_cell BK1.out 9).trans rfl, (blk_cell BK1.out 10).trans rfl, (blk_cell BK1.out 11).trans rfl, (blk_cell BK1.out 12).trans rfl, (blk_cell BK1.out 13).trans rfl, (blk_cell BK1.out 14).trans rfl, (blk_cell BK1.out 15).trans rfl, (blk_cell BK1.out 16).trans rfl, (blk_cell BK1.out 17).trans rfl⟩ (fun hHeld => ?_)
  clear hK K
  refine norm_ (a' := ?_) ?_ ?_
  rotate_left
  · show Act.put _ (some 36) _ = _
    simp only [Act.put, List.setIfInBounds_toArray, List.set_cons_zero, List.set_cons_succ, i64_w, i32_w]
    rfl
  refine pure_ (i := 14) (N := some 22) (v := ?_) (a' := ?_) #[true, true, true, true, true, true, true, true, true, true, true, true, true, true, true, false, false, false, false] rfl rfl (by kernel_rfl) (fun c_ a_ w_ h => hpan c_ (Act.put a_ _ _) a_ w_ (by rfl) h) (Or.inl ⟨by rfl, ?_⟩) ?_ ?_
  rotate_left
  · intro w'
    go_simp
    with_reducible rfl
  rotate_left
  · simp only [Act.put, List.setIfInBounds_toArray, List.set_cons_zero, List.set_cons_succ, i64_w, i32_w]
    rfl
  refine pure_ (i := 15) (N := some 37) (v := ?_) (a' := ?_) #[true, true, true, true, true, true, true, true, true, true, true, true, true, true, true, true, false, false, false] rfl rfl (by kernel_rfl) (fun c_ a_ w_ h => hpan c_ (Act.put a_ _ _) a_ w_ (by rfl) h) (Or.inl ⟨by rfl, ?_⟩) ?_ ?_
  rotate_left
  · intro w'
    go_simp
    with_reducible rfl
  rotate_left
  · simp only [Act.put, List.setIfInBounds_toArray, List.set_cons_zero, List.set_cons_succ, i64_w, i32_w]
    rfl
  refine pure_ (i := 16) (N := some 38) (v := ?_) (a' := ?_) #[true, true, true, true, true, true, true, true, true, true, true, true, true, true, true, true, true, false, false] rfl rfl (by kernel_rfl) (fun c_ a_ w_ h => hpan c_ (Act.put a_ _ _) a_ w_ (by rfl) h) (Or.inl ⟨by rfl, ?_⟩) ?_ ?_
  rotate_left
  · intro w'
    go_simp
    with_reducible rfl
  rotate_left
  · simp only [Act.put, List.setIfInBounds_toArray, List.set_cons_zero, List.set_cons_succ, i64_w, i32_w]
    rfl
  refine pure_ (i := 17) (N := some 8) (v := ?_) (a' := ?_) #[true, true, true, true, true, true, true, true, true, true, true, true, true, true, true, true, true, true, false] rfl rfl (by kernel_rfl) (fun c_ a_ w_ h => hpan c_ (Act.put a_ _ _) a_ w_ (by rfl) h) (Or.inl ⟨by rfl, ?_⟩) ?_ ?_
  rotate_left
  · intro w'
    go_simp
    with_reducible rfl
  rotate_left
  · simp only [Act.put, List.setIfInBounds_toArray, List.set_cons_zero, List.set_cons_succ, i64_w, i32_w]
    rfl
  refine pure_ (i := 18) (N := some 9) (v := ?_) (a' := ?_) #[true, true, true, true, true, true, true, true, true, true, true, true, true, true, true, true, true, true, true] rfl rfl (by kernel_rfl) (fun c_ a_ w_ h => hpan c_ (Act.put a_ _ _) a_ w_ (by rfl) h) (Or.inl ⟨by rfl, ?_⟩) ?_ ?_
  rotate_left
  · intro w'
    go_simp
    with_reducible rfl
  rotate_left
  · simp only [Act.put, List.setIfInBounds_toArray, List.set_cons_zero, List.set_cons_succ, i64_w, i32_w]
    rfl
  refine done_ (by kernel_rfl) ?_
  clear hHeld HSUM BKgl
  by_cases hi : inr64 (a.n + b.n + c.n)
  case neg =>
    have hq := HSE.out
    rw [if_neg hi] at hq
    simp only [Prod.mk.injEq] at hq
    obtain ⟨rfl, rfl⟩ := hq
    have HI := Aside0.mk hi
    clear hi hK
    go_wp2_with ((with_reducible refine gate_store (t := 38) (p := 2) (v := .tmp 41) rfl ?_); refine Shut.out ?_)
    unfold Shut
    refine store_rowTo rfl 38 (.tmp 2) (.tmp 41) rfl rfl g2 (row6 Row6.z) rfl rfl 38 _ BK2.out (by kernel_rfl) rfl (all6n _ _ _ _ _ _) ?_
    have HBn := Aside0.mk (row_below (g := g2) HB.out (by omega) (row6 Row6.z))
    have BKn := Aside0.mk (setRow_heap _ _ _ (row6 Row6.z) _ _ BK2.out)
    clear HB BK2
    go_wp2_with fail
    exact ⟨HI.out, BKn, HBn⟩
  have hq := HSE.out
  rw [if_pos hi] at hq
  simp only [Prod.mk.injEq] at hq
  obtain ⟨hs, rfl⟩ := hq
  have HS := Aside0.mk hs
  have HI := Aside0.mk hi
  clear hs hi HSE herr
  have kp : y20_.cell? ⟨g5, 3, none⟩ = some (.pointer (some ⟨g4, 3, none⟩)) := blk_cell BK5.out 3
  have kc : y20_.cell? ⟨g4, 3, none⟩ = some (.int .i64 0) := blk_cell BK4.out 3
  have kf := blk_frozen BK4.out 3
  go_wp2_with fail
  have n_HB := Aside0.mk (HB.out.setCell (p := ⟨g4, 3, none⟩) (show w.heap.size ≤ g4 by omega) (.int .i64 s))
  have n_BK1 := Aside0.mk ((Below.heap_setCell y20_ ⟨g4, 3, none⟩ (.int .i64 s) w.heap.size (show w.heap.size ≠ g4 by omega)).trans BK1.out)
  have n_BK2 := Aside0.mk ((Below.heap_setCell y20_ ⟨g4, 3, none⟩ (.int .i64 s) g2 (show g2 ≠ g4 by omega)).trans BK2.out)
  have n_BK5 := Aside0.mk ((Below.heap_setCell y20_ ⟨g4, 3, none⟩ (.int .i64 s) g5 (show g5 ≠ g4 by omega)).trans BK5.out)
  have n_BK4 := Aside0.mk (blk_put BK4.out 3 (.int .i64 s) (show _ = (#[.int .i64 p0, .int .i64 p1, .int .i64 p2, .int .i64 (a.n + b.n + c.n), .int .i64 p4, .int .i64 p5] : Array Value) from by rw [HS.out]; rfl))
  first | exact ⟨HI.out, n_BK1, n_BK2, n_BK4, n_BK5, n_HB⟩ | (refine hK _ _ _ _ _ _ _ _ _ _ _ _ _ _ _ _ _ _ _ _ _ _ _ _ _ _ _ _ _ _ _ _ _ _ _ ⟨HI.out, n_BK1, n_BK2, n_BK4, n_BK5, n_HB⟩)
set_option maxHeartbeats 16000000 in
set_option maxRecDepth 1000000 in
theorem allow_Net.round4 {a b c : Row6} (ha : Aside0 a.inr) (hb0 : Aside0 b.inr) (hc : Aside0 c.inr) {w v0 : World} {g2 g4 g5 : Nat} (hlt2 : w.heap.size < g2) (hlt4 : g2 < g4) (hlt5 : g4 < g5) {p0 p1 p2 p3 p5 : Int} {K : Act → World → Prop} {Q0 : Exit → Act → World → Prop} {c0 c10 c11 c12 c13 c14 c15 c16 c49 : Value} {u6 u7 u8 u9 u19 u20 u21 u22 u23 u24 u25 u26 u27 u28 u29 u30 u31 u32 u33 u34 u35 u36 u37 u38 u39 u40 u41 u42 u43 u44 u45 u46 u47 u48 : Value}
    (BK1 : Aside0 (v0.heap[w.heap.size]? = some (.cells (row18 a b c) 39 (0, 0)))) (BK2 : Aside0 (v0.heap[g2]? = some (.cells (row6 Row6.z) 38 (0, 0)))) (BK4 : Aside0 (v0.heap[g4]? = some (.cells #[.int .i64 p0, .int .i64 p1, .int .i64 p2, .int .i64 p3, .int .i64 0, .int .i64 p5] 38 (0, 0)))) (BK5 : Aside0 (v0.heap[g5]? = some (.cells #[.pointer (some ⟨g4, 0, none⟩), .pointer (some ⟨g4, 1, none⟩), .pointer (some ⟨g4, 2, none⟩), .pointer (some ⟨g4, 3, none⟩), .pointer (some ⟨g4, 4, none⟩), .pointer (some ⟨g4, 5, none⟩)] 95 (0, 0)))) (HB : Aside0 (Below w.heap.size w v0))
    (hpan : ∀ c_ (a_ b_ : Act) w_, a_.defers = b_.defers → Q0 (Exit.panic c_) a_ w_ → Q0 (Exit.panic c_) b_ w_)
    (herr : ∀ (x6 x7 x8 x9 x18 x19 x20 x21 x22 x23 x24 x25 x26 x27 x28 x29 x30 x31 x32 x33 x34 x35 x36 x37 x38 x39 x40 x41 x42 x43 x44 x45 x46 x47 x48 : Value) (w1 : World), (¬ inr64 (a.w + b.w + c.w) ∧ Aside0 (w1.heap[g2]? = some (.cells (row6 Row6.z) 38 (0, 0))) ∧ Aside0 (Below w.heap.size w w1)) → Q0 Exit.ret ⟨List.toArray (c0 :: .pointer (some ⟨w.heap.size, 0, none⟩) :: .pointer (some ⟨g2, 0, none⟩) :: .int .i64 3 :: .pointer (some ⟨g4, 0, none⟩) :: .pointer (some ⟨g5, 0, none⟩) :: x6 :: x7 :: x8 :: x9 :: c10 :: c11 :: c12 :: c13 :: c14 :: c15 :: c16 :: .agg #[.func (.func 40) #[] #[], .func (.func 41) #[] #[], .func (.func 42) #[] #[], .func (.func 43) #[] #[], .func (.func 44) #[] #[], .func (.func 45) #[] #[]] :: x18 :: x19 :: x20 :: x21 :: x22 :: x23 :: x24 :: x25 :: x26 :: x27 :: x28 :: x29 :: x30 :: x31 :: x32 :: x33 :: x34 :: x35 :: x36 :: x37 :: x38 :: x39 :: x40 :: x41 :: x42 :: x43 :: x44 :: x45 :: x46 :: x47 :: x48 :: c49 :: []), []⟩ w1)
    (hK : ∀ (x6 x7 x8 x9 x19 x20 x21 x22 x23 x24 x25 x26 x27 x28 x29 x30 x31 x32 x33 x34 x35 x36 x37 x38 x39 x40 x41 x42 x43 x44 x45 x46 x47 x48 : Value) (w1 : World), (inr64 (a.w + b.w + c.w) ∧ Aside0 (w1.heap[w.heap.size]? = some (.cells (row18 a b c) 39 (0, 0))) ∧ Aside0 (w1.heap[g2]? = some (.cells (row6 Row6.z) 38 (0, 0))) ∧ Aside0 (w1.heap[g4]? = some (.cells #[.int .i64 p0, .int .i64 p1, .int .i64 p2, .int .i64 p3, .int .i64 (a.w + b.w + c.w), .int .i64 p5] 38 (0, 0))) ∧ Aside0 (w1.heap[g5]? = some (.cells #[.pointer (some ⟨g4, 0, none⟩), .pointer (some ⟨g4, 1, none⟩), .pointer (some ⟨g4, 2, none⟩), .pointer (some ⟨g4, 3, none⟩), .pointer (some ⟨g4, 4, none⟩), .pointer (some ⟨g4, 5, none⟩)] 95 (0, 0))) ∧ Aside0 (Below w.heap.size w w1)) → K ⟨List.toArray (c0 :: .pointer (some ⟨w.heap.size, 0, none⟩) :: .pointer (some ⟨g2, 0, none⟩) :: .int .i64 0 :: .pointer (some ⟨g4, 0, none⟩) :: .pointer (some ⟨g5, 0, none⟩) :: x6 :: x7 :: x8 :: x9 :: c10 :: c11 :: c12 :: c13 :: c14 :: c15 :: c16 :: .agg #[.func (.func 40) #[] #[], .func (.func 41) #[] #[], .func (.func 42) #[] #[], .func (.func 43) #[] #[], .func (.func 44) #[] #[], .func (.func 45) #[] #[]] :: .int .i64 5 :: x19 :: x20 :: x21 :: x22 :: x23 :: x24 :: x25 :: x26 :: x27 :: x28 :: x29 :: x30 :: x31 :: x32 :: x33 :: x34 :: x35 :: x36 :: x37 :: x38 :: x39 :: x40 :: x41 :: x42 :: x43 :: x44 :: x45 :: x46 :: x47 :: x48 :: c49 :: []), []⟩ w1) :
    Code.wp Try.prog allow_Net.body (Exit.then K Q0) ⟨List.toArray (c0 :: .pointer (some ⟨w.heap.size, 0, none⟩) :: .pointer (some ⟨g2, 0, none⟩) :: .int .i64 0 :: .pointer (some ⟨g4, 0, none⟩) :: .pointer (some ⟨g5, 0, none⟩) :: u6 :: u7 :: u8 :: u9 :: c10 :: c11 :: c12 :: c13 :: c14 :: c15 :: c16 :: .agg #[.func (.func 40) #[] #[], .func (.func 41) #[] #[], .func (.func 42) #[] #[], .func (.func 43) #[] #[], .func (.func 44) #[] #[], .func (.func 45) #[] #[]] :: .int .i64 4 :: u19 :: u20 :: u21 :: u22 :: u23 :: u24 :: u25 :: u26 :: u27 :: u28 :: u29 :: u30 :: u31 :: u32 :: u33 :: u34 :: u35 :: u36 :: u37 :: u38 :: u39 :: u40 :: u41 :: u42 :: u43 :: u44 :: u45 :: u46 :: u47 :: u48 :: c49 :: []), []⟩ v0 := by
  conv => arg 2; whnf
  have hix := fun W => allow_Net.ix4 W
  go_wp2_with fail
  have n_HB := Aside0.mk (below_drew1 HB.out)
  have n_BK1 := Aside0.mk (blk_drew BK1.out)
  have n_BK2 := Aside0.mk (blk_drew BK2.out)
  have n_BK4 := Aside0.mk (blk_drew BK4.out)
  have n_BK5 := Aside0.mk (blk_drew BK5.out)
  clear HB BK1 BK2 BK4 BK5
  have HB := n_HB
  clear n_HB
  have BK1 := n_BK1
  clear n_BK1
  have BK2 := n_BK2
  clear n_BK2
  have BK4 := n_BK4
  clear n_BK4
  have BK5 := n_BK5
  clear n_BK5
  obtain ⟨⟨s, e⟩, hse⟩ : ∃ r, r = (if inr64 (a.w + b.w + c.w) then ((a.w + b.w + c.w), (0 : Int)) else (0, 3)) := ⟨_, rfl⟩
  have hsum := allow_Net.sum3 a.w b.w c.w (by have := ha.out; unfold Row6.inr at this; exact this.2.2.2.2.1) (by have := hb0.out; unfold Row6.inr at this; exact this.2.2.2.2.1) (by have := hc.out; unfold Row6.inr at this; exact this.2.2.2.2.1)
  rw [← hse] at hsum
  have HSE := Aside0.mk hse
  have HSUM := Aside0.mk hsum
  clear hse hsum
  refine start_ (n := 19) (S := fun w' => w'.cell? ⟨w.heap.size, 0, none⟩ = some (.int .i64 a.o) ∧ w'.cell? ⟨w.heap.size, 1, none⟩ = some (.int .i64 a.i) ∧ w'.cell? ⟨w.heap.size, 2, none⟩ = some (.int .i64 a.u) ∧ w'.cell? ⟨w.heap.size, 3, none⟩ = some (.int .i64 a.n) ∧ w'.cell? ⟨w.heap.size, 4, none⟩ = some (.int .i64 a.w) ∧ w'.cell? ⟨w.heap.size, 5, none⟩ = some (.int .i64 a.c) ∧ w'.cell? ⟨w.heap.size, 6, none⟩ = some (.int .i64 b.o) ∧ w'.cell? ⟨w.heap.size, 7, none⟩ = some (.int .i64 b.i) ∧ w'.cell? ⟨w.heap.size, 8, none⟩ = some (.int .i64 b.u) ∧ w'.cell? ⟨w.heap.size, 9, none⟩ = some (.int .i64 b.n) ∧ w'.cell? ⟨w.heap.size, 10, none⟩ = some (.int .i64 b.w) ∧ w'.cell? ⟨w.heap.size, 11, none⟩ = some (.int .i64 b.c) ∧ w'.cell? ⟨w.heap.size, 12, none⟩ = some (.int .i64 c.o) ∧ w'.cell? ⟨w.heap.size, 13, none⟩ = some (.int .i64 c.i) ∧ w'.cell? ⟨w.heap.size, 14, none⟩ = some (.int .i64 c.u) ∧ w'.cell? ⟨w.heap.size, 15, none⟩ = some (.int .i64 c.n) ∧ w'.cell? ⟨w.heap.size, 16, none⟩ = some (.int .i64 c.w) ∧ w'.cell? ⟨w.heap.size, 17, none⟩ = some (.int .i64 c.c)) (ds := []) #[false, false, false, false, false, false, false, false, false, false, false, false, false, false, false, false, false, false, false] (by kernel_rfl) rfl rfl ⟨(blk_cell BK1.out 0).trans rfl, (blk_cell BK1.out 1).trans rfl, (blk_cell BK1.out 2).trans rfl, (blk_cell BK1.out 3).trans rfl, (blk_cell BK1.out 4).trans rfl, (blk_cell BK1.out 5).trans rfl, (blk_cell BK1.out 6).trans rfl, (blk_cell BK1.out 7).trans rfl, (blk_cell BK1.out 8).trans rfl, (blk_cell BK1.out 9).trans rfl, (blk_cell BK1.out 10).trans rfl, (blk_cell BK1.out 11).trans rfl, (blk_cell BK1.out 12).trans rfl, (blk_cell BK1.out 13).trans rfl, (blk_cell BK1.out 14).trans rfl, (blk_cell BK1.out 15).trans rfl, (blk_cell BK1.out 16).trans rfl, (blk_cell BK1.out 17).trans rfl⟩ (fun hHeld => ?_)
  generalize v0.drew = x0 at HB BK1 BK2 BK4 BK5 hHeld ⊢
  refine pure_ (i := 0) (N := some 23) (v := ?_) (a' := ?_) #[true, false, false, false, false, false, false, false, false, false, false, false, false, false, false, false, false, false, false] rfl rfl (by kernel_rfl) (fun c_ a_ w_ h => hpan c_ (Act.put a_ _ _) a_ w_ (by rfl) h) (Or.inl ⟨by rfl, ?_⟩) ?_ ?_
  rotate_left
  · intro w'
    go_simp
    with_reducible rfl
  rotate_left
  · simp only [Act.put, List.setIfInBounds_toArray, List.set_cons_zero, List.set_cons_succ, i64_w, i32_w]
    rfl
  refine pure_ (i := 1) (N := some 24) (v := ?_) (a' := ?_) #[true, true, false, false, false, false, false, false, false, false, false, false, false, false, false, false, false, false, false] rfl rfl (by kernel_rfl) (fun c_ a_ w_ h => hpan c_ (Act.put a_ _ _) a_ w_ (by rfl) h) (Or.inl ⟨by rfl, ?_⟩) ?_ ?_
  rotate_left
  · intro w'
    go_simp
    with_reducible rfl
  rotate_left
  · simp only [Act.put, List.setIfInBounds_toArray, List.set_cons_zero, List.set_cons_succ, i64_w, i32_w]
    rfl
  refine pure_ (i := 4) (N := some 27) (v := ?_) (a' := ?_) #[true, true, false, false, true, false, false, false, false, false, false, false, false, false, false, false, false, false, false] rfl rfl (by kernel_rfl) (fun c_ a_ w_ h => hpan c_ (Act.put a_ _ _) a_ w_ (by rfl) h) (Or.inl ⟨by rfl, ?_⟩) ?_ ?_
  rotate_left
  · intro w'
    go_simp
    with_reducible rfl
  rotate_left
  · simp only [Act.put, List.setIfInBounds_toArray, List.set_cons_zero, List.set_cons_succ, i64_w, i32_w]
    rfl
  refine pure_ (i := 5) (N := some 28) (v := ?_) (a' := ?_) #[true, true, false, false, true, true, false, false, false, false, false, false, false, false, false, false, false, false, false] rfl rfl (by kernel_rfl) (fun c_ a_ w_ h => hpan c_ (Act.put a_ _ _) a_ w_ (by rfl) h) (Or.inl ⟨by rfl, ?_⟩) ?_ ?_
  rotate_left
  · intro w'
    go_simp
    with_reducible rfl
  rotate_left
  · simp only [Act.put, List.setIfInBounds_toArray, List.set_cons_zero, List.set_cons_succ, i64_w, i32_w]
    rfl
  refine pure_ (i := 8) (N := some 31) (v := ?_) (a' := ?_) #[true, true, false, false, true, true, false, false, true, false, false, false, false, false, false, false, false, false, false] rfl rfl (by kernel_rfl) (fun c_ a_ w_ h => hpan c_ (Act.put a_ _ _) a_ w_ (by rfl) h) (Or.inl ⟨by rfl, ?_⟩) ?_ ?_
  rotate_left
  · intro w'
    go_simp
    with_reducible rfl
  rotate_left
  · simp only [Act.put, List.setIfInBounds_toArray, List.set_cons_zero, List.set_cons_succ, i64_w, i32_w]
    rfl
  refine pure_ (i := 9) (N := some 32) (v := ?_) (a' := ?_) #[true, true, false, false, true, true, false, false, true, true, false, false, false, false, false, false, false, false, false] rfl rfl (by kernel_rfl) (fun c_ a_ w_ h => hpan c_ (Act.put a_ _ _) a_ w_ (by rfl) h) (Or.inl ⟨by rfl, ?_⟩) ?_ ?_
  rotate_left
  · intro w'
    go_simp
    with_reducible rfl
  rotate_left
  · simp only [Act.put, List.setIfInBounds_toArray, List.set_cons_zero, List.set_cons_succ, i64_w, i32_w]
    rfl
  refine take_ (i := 2) (N := some 25) (v := ?_) (a' := ?_) #[true, true, true, false, true, true, false, false, true, true, false, false, false, false, false, false, false, false, false] rfl rfl (by kernel_rfl) (fun c_ a_ w_ h => hpan c_ (Act.put a_ _ _) a_ w_ (by rfl) h) (Or.inl ⟨by rfl, ?_⟩) hHeld ?_ ?_
  rotate_left
  · rintro w' ⟨s0, s1, s2, s3, s4, s5, s6, s7, s8, s9, s10, s11, s12, s13, s14, s15, s16, s17⟩
    go_simp
    with_reducible rfl
  rotate_left
  · simp only [Act.put, List.setIfInBounds_toArray, List.set_cons_zero, List.set_cons_succ, i64_w, i32_w]
    rfl
  refine take_ (i := 6) (N := some 29) (v := ?_) (a' := ?_) #[true, true, true, false, true, true, true, false, true, true, false, false, false, false, false, false, false, false, false] rfl rfl (by kernel_rfl) (fun c_ a_ w_ h => hpan c_ (Act.put a_ _ _) a_ w_ (by rfl) h) (Or.inl ⟨by rfl, ?_⟩) hHeld ?_ ?_
  rotate_left
  · rintro w' ⟨s0, s1, s2, s3, s4, s5, s6, s7, s8, s9, s10, s11, s12, s13, s14, s15, s16, s17⟩
    go_simp
    with_reducible rfl
  rotate_left
  · simp only [Act.put, List.setIfInBounds_toArray, List.set_cons_zero, List.set_cons_succ, i64_w, i32_w]
    rfl
  refine take_ (i := 10) (N := some 33) (v := ?_) (a' := ?_) #[true, true, true, false, true, true, true, false, true, true, true, false, false, false, false, false, false, false, false] rfl rfl (by kernel_rfl) (fun c_ a_ w_ h => hpan c_ (Act.put a_ _ _) a_ w_ (by rfl) h) (Or.inl ⟨by rfl, ?_⟩) hHeld ?_ ?_
  rotate_left
  · rintro w' ⟨s0, s1, s2, s3, s4, s5, s6, s7, s8, s9, s10, s11, s12, s13, s14, s15, s16, s17⟩
    go_simp
    with_reducible rfl
  rotate_left
  · simp only [Act.put, List.setIfInBounds_toArray, List.set_cons_zero, List.set_cons_succ, i64_w, i32_w]
    rfl
  refine one_ (i := 3) (N := some 26) #[true, true, true, true, true, true, true, false, true, true, true, false, false, false, false, false, false, false, false] rfl rfl (by kernel_rfl) (by decide) (fun K hK => ?_)
  refine goes_v Try.func44 (by kernel_rfl) rfl #[.agg #[.int .i64 a.o, .int .i64 a.i, .int .i64 a.u, .int .i64 a.n, .int .i64 a.w, .int .i64 a.c]] (by rfl) rfl rfl (by rfl) (by (try simp only [List.map_toArray, List.map_cons, List.map_nil]); first | done | rfl) ?_
  with_reducible refine (allow_Net.c32 a _).mono ?_
  rintro e y21_ ⟨rfl, hb⟩
  refine ⟨_, rfl, ?_⟩
  have n_HB := Aside0.mk (below_step HB.out hb)
  have n_BK1 := Aside0.mk (blk_below BK1.out hb)
  have n_BK2 := Aside0.mk (blk_below BK2.out hb)
  have n_BK4 := Aside0.mk (blk_below BK4.out hb)
  have n_BK5 := Aside0.mk (blk_below BK5.out hb)
  clear HB
  have HB := n_HB
  clear n_HB
  clear BK1
  have BK1 := n_BK1
  clear n_BK1
  clear BK2
  have BK2 := n_BK2
  clear n_BK2
  clear BK4
  have BK4 := n_BK4
  clear n_BK4
  clear BK5
  have BK5 := n_BK5
  clear n_BK5
  clear hb
  refine hK.out _ _ ⟨(blk_cell BK1.out 0).trans rfl, (blk_cell BK1.out 1).trans rfl, (blk_cell BK1.out 2).trans rfl, (blk_cell BK1.out 3).trans rfl, (blk_cell BK1.out 4).trans rfl, (blk_cell BK1.out 5).trans rfl, (blk_cell BK1.out 6).trans rfl, (blk_cell BK1.out 7).trans rfl, (blk_cell BK1.out 8).trans rfl, (blk_cell BK1.out 9).trans rfl, (blk_cell BK1.out 10).trans rfl, (blk_cell BK1.out 11).trans rfl, (blk_cell BK1.out 12).trans rfl, (blk_cell BK1.out 13).trans rfl, (blk_cell BK1.out 14).trans rfl, (blk_cell BK1.out 15).trans rfl, (blk_cell BK1.out 16).trans rfl, (blk_cell BK1.out 17).trans rfl⟩ (fun hHeld => ?_)
  clear hK K
  refine norm_ (a' := ?_) ?_ ?_
  rotate_left
  · show Act.put _ (some 26) _ = _
    simp only [Act.put, List.setIfInBounds_toArray, List.set_cons_zero, List.set_cons_succ, i64_w, i32_w]
    rfl
  refine one_ (i := 7) (N := some 30) #[true, true, true, true, true, true, true, true, true, true, true, false, false, false, false, false, false, false, false] rfl rfl (by kernel_rfl) (by decide) (fun K hK => ?_)
  refine goes_v Try.func44 (by kernel_rfl) rfl #[.agg #[.int .i64 b.o, .int .i64 b.i, .int .i64 b.u, .int .i64 b.n, .int .i64 b.w, .int .i64 b.c]] (by rfl) rfl rfl (by rfl) (by (try simp only [List.map_toArray, List.map_cons, List.map_nil]); first | done | rfl) ?_
  with_reducible refine (allow_Net.c32 b _).mono ?_
  rintro e y22_ ⟨rfl, hb⟩
  refine ⟨_, rfl, ?_⟩
  have n_HB := Aside0.mk (below_step HB.out hb)
  have n_BK1 := Aside0.mk (blk_below BK1.out hb)
  have n_BK2 := Aside0.mk (blk_below BK2.out hb)
  have n_BK4 := Aside0.mk (blk_below BK4.out hb)
  have n_BK5 := Aside0.mk (blk_below BK5.out hb)
  clear HB
  have HB := n_HB
  clear n_HB
  clear BK1
  have BK1 := n_BK1
  clear n_BK1
  clear BK2
  have BK2 := n_BK2
  clear n_BK2
  clear BK4
  have BK4 := n_BK4
  clear n_BK4
  clear BK5
  have BK5 := n_BK5
  clear n_BK5
  clear hb
  refine hK.out _ _ ⟨(blk_cell BK1.out 0).trans rfl, (blk_cell BK1.out 1).trans rfl, (blk_cell BK1.out 2).trans rfl, (blk_cell BK1.out 3).trans rfl, (blk_cell BK1.out 4).trans rfl, (blk_cell BK1.out 5).trans rfl, (blk_cell BK1.out 6).trans rfl, (blk_cell BK1.out 7).trans rfl, (blk_cell BK1.out 8).trans rfl, (blk_cell BK1.out 9).trans rfl, (blk_cell BK1.out 10).trans rfl, (blk_cell BK1.out 11).trans rfl, (blk_cell BK1.out 12).trans rfl, (blk_cell BK1.out 13).trans rfl, (blk_cell BK1.out 14).trans rfl, (blk_cell BK1.out 15).trans rfl, (blk_cell BK1.out 16).trans rfl, (blk_cell BK1.out 17).trans rfl⟩ (fun hHeld => ?_)
  clear hK K
  refine norm_ (a' := ?_) ?_ ?_
  rotate_left
  · show Act.put _ (some 30) _ = _
    simp only [Act.put, List.setIfInBounds_toArray, List.set_cons_zero, List.set_cons_succ, i64_w, i32_w]
    rfl
  refine one_ (i := 11) (N := some 34) #[true, true, true, true, true, true, true, true, true, true, true, true, false, false, false, false, false, false, false] rfl rfl (by kernel_rfl) (by decide) (fun K hK => ?_)
  refine goes_v Try.func44 (by kernel_rfl) rfl #[.agg #[.int .i64 c.o, .int .i64 c.i, .int .i64 c.u, .int .i64 c.n, .int .i64 c.w, .int .i64 c.c]] (by rfl) rfl rfl (by rfl) (by (try simp only [List.map_toArray, List.map_cons, List.map_nil]); first | done | rfl) ?_
  with_reducible refine (allow_Net.c32 c _).mono ?_
  rintro e y23_ ⟨rfl, hb⟩
  refine ⟨_, rfl, ?_⟩
  have n_HB := Aside0.mk (below_step HB.out hb)
  have n_BK1 := Aside0.mk (blk_below BK1.out hb)
  have n_BK2 := Aside0.mk (blk_below BK2.out hb)
  have n_BK4 := Aside0.mk (blk_below BK4.out hb)
  have n_BK5 := Aside0.mk (blk_below BK5.out hb)
  clear HB
  have HB := n_HB
  clear n_HB
  clear BK1
  have BK1 := n_BK1
  clear n_BK1
  clear BK2
  have BK2 := n_BK2
  clear n_BK2
  clear BK4
  have BK4 := n_BK4
  clear n_BK4
  clear BK5
  have BK5 := n_BK5
  clear n_BK5
  clear hb
  refine hK.out _ _ ⟨(blk_cell BK1.out 0).trans rfl, (blk_cell BK1.out 1).trans rfl, (blk_cell BK1.out 2).trans rfl, (blk_cell BK1.out 3).trans rfl, (blk_cell BK1.out 4).trans rfl, (blk_cell BK1.out 5).trans rfl, (blk_cell BK1.out 6).trans rfl, (blk_cell BK1.out 7).trans rfl, (blk_cell BK1.out 8).trans rfl, (blk_cell BK1.out 9).trans rfl, (blk_cell BK1.out 10).trans rfl, (blk_cell BK1.out 11).trans rfl, (blk_cell BK1.out 12).trans rfl, (blk_cell BK1.out 13).trans rfl, (blk_cell BK1.out 14).trans rfl, (blk_cell BK1.out 15).trans rfl, (blk_cell BK1.out 16).trans rfl, (blk_cell BK1.out 17).trans rfl⟩ (fun hHeld => ?_)
  clear hK K
  refine norm_ (a' := ?_) ?_ ?_
  rotate_left
  · show Act.put _ (some 34) _ = _
    simp only [Act.put, List.setIfInBounds_toArray, List.set_cons_zero, List.set_cons_succ, i64_w, i32_w]
    rfl
  refine one_ (i := 12) (N := some 35) #[true, true, true, true, true, true, true, true, true, true, true, true, true, false, false, false, false, false, false] rfl rfl (by kernel_rfl) (by decide) (fun K hK => ?_)
  refine value_ (w1 := ?_) (v := ?_) (by rfl) rfl ?_ ?_
  rotate_left 2
  · go_simp
    constructor
    · rfl
    · rfl
  have hb := below_alloc (Below.refl y23_.heap.size y23_) (.cells #[.int .i64 a.w, .int .i64 b.w, .int .i64 c.w] 2)
  have hbox := blk_new y23_ (.cells #[.int .i64 a.w, .int .i64 b.w, .int .i64 c.w] 2)
  have m_ := Aside0.mk hbox
  have n_HB := Aside0.mk (below_step HB.out hb)
  have n_BK1 := Aside0.mk (blk_below BK1.out hb)
  have n_BK2 := Aside0.mk (blk_below BK2.out hb)
  have n_BK4 := Aside0.mk (blk_below BK4.out hb)
  have n_BK5 := Aside0.mk (blk_below BK5.out hb)
  clear HB
  have HB := n_HB
  clear n_HB
  clear BK1
  have BK1 := n_BK1
  clear n_BK1
  clear BK2
  have BK2 := n_BK2
  clear n_BK2
  clear BK4
  have BK4 := n_BK4
  clear n_BK4
  clear BK5
  have BK5 := n_BK5
  clear n_BK5
  clear hb hbox
  generalize y23_.alloc (.cells #[.int .i64 a.w, .int .i64 b.w, .int .i64 c.w] 2) = y24_ at m_ HB BK1 BK2 BK4 BK5 ⊢
  generalize y23_.heap.size = gl at m_ ⊢
  have BKgl := m_
  clear m_
  refine hK.out _ _ ⟨(blk_cell BK1.out 0).trans rfl, (blk_cell BK1.out 1).trans rfl, (blk_cell BK1.out 2).trans rfl, (blk_cell BK1.out 3).trans rfl, (blk_cell BK1.out 4).trans rfl, (blk_cell BK1.out 5).trans rfl, (blk_cell BK1.out 6).trans rfl, (blk_cell BK1.out 7).trans rfl, (blk_cell BK1.out 8).trans rfl, (blk_cell BK1.out 9).trans rfl, (blk_cell BK1.out 10).trans rfl, (blk_cell BK1.out 11).trans rfl, (blk_cell BK1.out 12).trans rfl, (blk_cell BK1.out 13).trans rfl, (blk_cell BK1.out 14).trans rfl, (blk_cell BK1.out 15).trans rfl, (blk_cell BK1.out 16).trans rfl, (blk_cell BK1.out 17).trans rfl⟩ (fun hHeld => ?_)
  clear hK K
  refine norm_ (a' := ?_) ?_ ?_
  rotate_left
  · show Act.put _ (some 35) _ = _
    simp only [Act.put, List.setIfInBounds_toArray, List.set_cons_zero, List.set_cons_succ, i64_w, i32_w]
    rfl
  refine one_ (i := 13) (N := some 36) #[true, true, true, true, true, true, true, true, true, true, true, true, true, true, false, false, false, false, false] rfl rfl (by kernel_rfl) (by decide) (fun K hK => ?_)
  refine goes_ Try.func46 (by kernel_rfl) rfl #[.slice (some ⟨gl, 0, none⟩) 3 3] (by rfl) rfl rfl (by (try simp only [List.map_toArray, List.map_cons, List.map_nil]); first | done | rfl) ?_
  with_reducible refine (allow_Net.sumc HSUM.out BKgl.out).mono ?_
  rintro e y25_ ⟨rfl, hd⟩
  have hb := hd.below
  refine ⟨_, rfl, ?_⟩
  have n_HB := Aside0.mk (below_step HB.out hb)
  have n_BK1 := Aside0.mk (blk_below BK1.out hb)
  have n_BK2 := Aside0.mk (blk_below BK2.out hb)
  have n_BK4 := Aside0.mk (blk_below BK4.out hb)
  have n_BK5 := Aside0.mk (blk_below BK5.out hb)
  have n_BKgl := Aside0.mk (blk_below BKgl.out hb)
  clear HB
  have HB := n_HB
  clear n_HB
  clear BK1
  have BK1 := n_BK1
  clear n_BK1
  clear BK2
  have BK2 := n_BK2
  clear n_BK2
  clear BK4
  have BK4 := n_BK4
  clear n_BK4
  clear BK5
  have BK5 := n_BK5
  clear n_BK5
  clear BKgl
  have BKgl := n_BKgl
  clear n_BKgl
  clear hb
  refine hK.out _ _ ⟨(blk_cell BK1.out 0).trans rfl, (blk_cell BK1.out 1).trans rfl, (blk_cell BK1.out 2).trans rfl, (blk_cell BK1.out 3).trans rfl, (blk_cell BK1.out 4).trans rfl, (blk_cell BK1.out 5).trans rfl, (blk_cell BK1.out 6).trans rfl, (blk_cell BK1.out 7).trans rfl, (blk_cell BK1.out 8).trans rfl, (blk_cell BK1.out 9).trans rfl, (blk_cell BK1.out 10).trans rfl, (blk_cell BK1.out 11).trans rfl, (blk_cell BK1.out 12).trans rfl, (blk_cell BK1.out 13).trans rfl, (blk_cell BK1.out 14).trans rfl, (blk_cell BK1.out 15).trans rfl, (blk_cell BK1.out 16).trans rfl, (blk_cell BK1.out 17).trans rfl⟩ (fun hHeld => ?_)
  clear hK K
  refine norm_ (a' := ?_) ?_ ?_
  rotate_left
  · show Act.put _ (some 36) _ = _
    simp only [Act.put, List.setIfInBounds_toArray, List.set_cons_zero, List.set_cons_succ, i64_w, i32_w]
    rfl
  refine pure_ (i := 14) (N := some 22) (v := ?_) (a' := ?_) #[true, true, true, true, true, true, true, true, true, true, true, true, true, true, true, false, false, false, false] rfl rfl (by kernel_rfl) (fun c_ a_ w_ h => hpan c_ (Act.put a_ _ _) a_ w_ (by rfl) h) (Or.inl ⟨by rfl, ?_⟩) ?_ ?_
  rotate_left
  · intro w'
    go_simp
    with_reducible rfl
  rotate_left
  · simp only [Act.put, List.setIfInBounds_toArray, List.set_cons_zero, List.set_cons_succ, i64_w, i32_w]
    rfl
  refine pure_ (i := 15) (N := some 37) (v := ?_) (a' := ?_) #[true, true, true, true, true, true, true, true, true, true, true, true, true, true, true, true, false, false, false] rfl rfl (by kernel_rfl) (fun c_ a_ w_ h => hpan c_ (Act.put a_ _ _) a_ w_ (by rfl) h) (Or.inl ⟨by rfl, ?_⟩) ?_ ?_
  rotate_left
  · intro w'
    go_simp
    with_reducible rfl
  rotate_left
  · simp only [Act.put, List.setIfInBounds_toArray, List.set_cons_zero, List.set_cons_succ, i64_w, i32_w]
    rfl
  refine pure_ (i := 16) (N := some 38) (v := ?_) (a' := ?_) #[true, true, true, true, true, true, true, true, true, true, true, true, true, true, true, true, true, false, false] rfl rfl (by kernel_rfl) (fun c_ a_ w_ h => hpan c_ (Act.put a_ _ _) a_ w_ (by rfl) h) (Or.inl ⟨by rfl, ?_⟩) ?_ ?_
  rotate_left
  · intro w'
    go_simp
    with_reducible rfl
  rotate_left
  · simp only [Act.put, List.setIfInBounds_toArray, List.set_cons_zero, List.set_cons_succ, i64_w, i32_w]
    rfl
  refine pure_ (i := 17) (N := some 8) (v := ?_) (a' := ?_) #[true, true, true, true, true, true, true, true, true, true, true, true, true, true, true, true, true, true, false] rfl rfl (by kernel_rfl) (fun c_ a_ w_ h => hpan c_ (Act.put a_ _ _) a_ w_ (by rfl) h) (Or.inl ⟨by rfl, ?_⟩) ?_ ?_
  rotate_left
  · intro w'
    go_simp
    with_reducible rfl
  rotate_left
  · simp only [Act.put, List.setIfInBounds_toArray, List.set_cons_zero, List.set_cons_succ, i64_w, i32_w]
    rfl
  refine pure_ (i := 18) (N := some 9) (v := ?_) (a' := ?_) #[true, true, true, true, true, true, true, true, true, true, true, true, true, true, true, true, true, true, true] rfl rfl (by kernel_rfl) (fun c_ a_ w_ h => hpan c_ (Act.put a_ _ _) a_ w_ (by rfl) h) (Or.inl ⟨by rfl, ?_⟩) ?_ ?_
  rotate_left
  · intro w'
    go_simp
    with_reducible rfl
  rotate_left
  · simp only [Act.put, List.setIfInBounds_toArray, List.set_cons_zero, List.set_cons_succ, i64_w, i32_w]
    rfl
  refine done_ (by kernel_rfl) ?_
  clear hHeld HSUM BKgl
  by_cases hi : inr64 (a.w + b.w + c.w)
  case neg =>
    have hq := HSE.out
    rw [if_neg hi] at hq
    simp only [Prod.mk.injEq] at hq
    obtain ⟨rfl, rfl⟩ := hq
    have HI := Aside0.mk hi
    clear hi hK
    go_wp2_with ((with_reducible refine gate_store (t := 38) (p := 2) (v := .tmp 41) rfl ?_); refine Shut.out ?_)
    unfold Shut
    refine store_rowTo rfl 38 (.tmp 2) (.tmp 41) rfl rfl g2 (row6 Row6.z) rfl rfl 38 _ BK2.out (by kernel_rfl) rfl (all6n _ _ _ _ _ _) ?_
    have HBn := Aside0.mk (row_below (g := g2) HB.out (by omega) (row6 Row6.z))
    have BKn := Aside0.mk (setRow_heap _ _ _ (row6 Row6.z) _ _ BK2.out)
    clear HB BK2
    go_wp2_with fail
    exact ⟨HI.out, BKn, HBn⟩
  have hq := HSE.out
  rw [if_pos hi] at hq
  simp only [Prod.mk.injEq] at hq
  obtain ⟨hs, rfl⟩ := hq
  have HS := Aside0.mk hs
  have HI := Aside0.mk hi
  clear hs hi HSE herr
  have kp : y25_.cell? ⟨g5, 4, none⟩ = some (.pointer (some ⟨g4, 4, none⟩)) := blk_cell BK5.out 4
  have kc : y25_.cell? ⟨g4, 4, none⟩ = some (.int .i64 0) := blk_cell BK4.out 4
  have kf := blk_frozen BK4.out 4
  go_wp2_with fail
  have n_HB := Aside0.mk (HB.out.setCell (p := ⟨g4, 4, none⟩) (show w.heap.size ≤ g4 by omega) (.int .i64 s))
  have n_BK1 := Aside0.mk ((Below.heap_setCell y25_ ⟨g4, 4, none⟩ (.int .i64 s) w.heap.size (show w.heap.size ≠ g4 by omega)).trans BK1.out)
  have n_BK2 := Aside0.mk ((Below.heap_setCell y25_ ⟨g4, 4, none⟩ (.int .i64 s) g2 (show g2 ≠ g4 by omega)).trans BK2.out)
  have n_BK5 := Aside0.mk ((Below.heap_setCell y25_ ⟨g4, 4, none⟩ (.int .i64 s) g5 (show g5 ≠ g4 by omega)).trans BK5.out)
  have n_BK4 := Aside0.mk (blk_put BK4.out 4 (.int .i64 s) (show _ = (#[.int .i64 p0, .int .i64 p1, .int .i64 p2, .int .i64 p3, .int .i64 (a.w + b.w + c.w), .int .i64 p5] : Array Value) from by rw [HS.out]; rfl))
  first | exact ⟨HI.out, n_BK1, n_BK2, n_BK4, n_BK5, n_HB⟩ | (refine hK _ _ _ _ _ _ _ _ _ _ _ _ _ _ _ _ _ _ _ _ _ _ _ _ _ _ _ _ _ _ _ _ _ _ _ ⟨HI.out, n_BK1, n_BK2, n_BK4, n_BK5, n_HB⟩)
set_option maxHeartbeats 16000000 in
set_option maxRecDepth 1000000 in
theorem allow_Net.round5 {a b c : Row6} (ha : Aside0 a.inr) (hb0 : Aside0 b.inr) (hc : Aside0 c.inr) {w v0 : World} {g2 g4 g5 : Nat} (hlt2 : w.heap.size < g2) (hlt4 : g2 < g4) (hlt5 : g4 < g5) {p0 p1 p2 p3 p4 : Int} {K : Act → World → Prop} {Q0 : Exit → Act → World → Prop} {c0 c10 c11 c12 c13 c14 c15 c16 c49 : Value} {u6 u7 u8 u9 u19 u20 u21 u22 u23 u24 u25 u26 u27 u28 u29 u30 u31 u32 u33 u34 u35 u36 u37 u38 u39 u40 u41 u42 u43 u44 u45 u46 u47 u48 : Value}
    (BK1 : Aside0 (v0.heap[w.heap.size]? = some (.cells (row18 a b c) 39 (0, 0)))) (BK2 : Aside0 (v0.heap[g2]? = some (.cells (row6 Row6.z) 38 (0, 0)))) (BK4 : Aside0 (v0.heap[g4]? = some (.cells #[.int .i64 p0, .int .i64 p1, .int .i64 p2, .int .i64 p3, .int .i64 p4, .int .i64 0] 38 (0, 0)))) (BK5 : Aside0 (v0.heap[g5]? = some (.cells #[.pointer (some ⟨g4, 0, none⟩), .pointer (some ⟨g4, 1, none⟩), .pointer (some ⟨g4, 2, none⟩), .pointer (some ⟨g4, 3, none⟩), .pointer (some ⟨g4, 4, none⟩), .pointer (some ⟨g4, 5, none⟩)] 95 (0, 0)))) (HB : Aside0 (Below w.heap.size w v0))
    (hpan : ∀ c_ (a_ b_ : Act) w_, a_.defers = b_.defers → Q0 (Exit.panic c_) a_ w_ → Q0 (Exit.panic c_) b_ w_)
    (herr : ∀ (x6 x7 x8 x9 x18 x19 x20 x21 x22 x23 x24 x25 x26 x27 x28 x29 x30 x31 x32 x33 x34 x35 x36 x37 x38 x39 x40 x41 x42 x43 x44 x45 x46 x47 x48 : Value) (w1 : World), (¬ inr64 (a.c + b.c + c.c) ∧ Aside0 (w1.heap[g2]? = some (.cells (row6 Row6.z) 38 (0, 0))) ∧ Aside0 (Below w.heap.size w w1)) → Q0 Exit.ret ⟨List.toArray (c0 :: .pointer (some ⟨w.heap.size, 0, none⟩) :: .pointer (some ⟨g2, 0, none⟩) :: .int .i64 3 :: .pointer (some ⟨g4, 0, none⟩) :: .pointer (some ⟨g5, 0, none⟩) :: x6 :: x7 :: x8 :: x9 :: c10 :: c11 :: c12 :: c13 :: c14 :: c15 :: c16 :: .agg #[.func (.func 40) #[] #[], .func (.func 41) #[] #[], .func (.func 42) #[] #[], .func (.func 43) #[] #[], .func (.func 44) #[] #[], .func (.func 45) #[] #[]] :: x18 :: x19 :: x20 :: x21 :: x22 :: x23 :: x24 :: x25 :: x26 :: x27 :: x28 :: x29 :: x30 :: x31 :: x32 :: x33 :: x34 :: x35 :: x36 :: x37 :: x38 :: x39 :: x40 :: x41 :: x42 :: x43 :: x44 :: x45 :: x46 :: x47 :: x48 :: c49 :: []), []⟩ w1)
    (hK : ∀ (x6 x7 x8 x9 x19 x20 x21 x22 x23 x24 x25 x26 x27 x28 x29 x30 x31 x32 x33 x34 x35 x36 x37 x38 x39 x40 x41 x42 x43 x44 x45 x46 x47 x48 : Value) (w1 : World), (inr64 (a.c + b.c + c.c) ∧ Aside0 (w1.heap[w.heap.size]? = some (.cells (row18 a b c) 39 (0, 0))) ∧ Aside0 (w1.heap[g2]? = some (.cells (row6 Row6.z) 38 (0, 0))) ∧ Aside0 (w1.heap[g4]? = some (.cells #[.int .i64 p0, .int .i64 p1, .int .i64 p2, .int .i64 p3, .int .i64 p4, .int .i64 (a.c + b.c + c.c)] 38 (0, 0))) ∧ Aside0 (w1.heap[g5]? = some (.cells #[.pointer (some ⟨g4, 0, none⟩), .pointer (some ⟨g4, 1, none⟩), .pointer (some ⟨g4, 2, none⟩), .pointer (some ⟨g4, 3, none⟩), .pointer (some ⟨g4, 4, none⟩), .pointer (some ⟨g4, 5, none⟩)] 95 (0, 0))) ∧ Aside0 (Below w.heap.size w w1)) → K ⟨List.toArray (c0 :: .pointer (some ⟨w.heap.size, 0, none⟩) :: .pointer (some ⟨g2, 0, none⟩) :: .int .i64 0 :: .pointer (some ⟨g4, 0, none⟩) :: .pointer (some ⟨g5, 0, none⟩) :: x6 :: x7 :: x8 :: x9 :: c10 :: c11 :: c12 :: c13 :: c14 :: c15 :: c16 :: .agg #[.func (.func 40) #[] #[], .func (.func 41) #[] #[], .func (.func 42) #[] #[], .func (.func 43) #[] #[], .func (.func 44) #[] #[], .func (.func 45) #[] #[]] :: .int .i64 6 :: x19 :: x20 :: x21 :: x22 :: x23 :: x24 :: x25 :: x26 :: x27 :: x28 :: x29 :: x30 :: x31 :: x32 :: x33 :: x34 :: x35 :: x36 :: x37 :: x38 :: x39 :: x40 :: x41 :: x42 :: x43 :: x44 :: x45 :: x46 :: x47 :: x48 :: c49 :: []), []⟩ w1) :
    Code.wp Try.prog allow_Net.body (Exit.then K Q0) ⟨List.toArray (c0 :: .pointer (some ⟨w.heap.size, 0, none⟩) :: .pointer (some ⟨g2, 0, none⟩) :: .int .i64 0 :: .pointer (some ⟨g4, 0, none⟩) :: .pointer (some ⟨g5, 0, none⟩) :: u6 :: u7 :: u8 :: u9 :: c10 :: c11 :: c12 :: c13 :: c14 :: c15 :: c16 :: .agg #[.func (.func 40) #[] #[], .func (.func 41) #[] #[], .func (.func 42) #[] #[], .func (.func 43) #[] #[], .func (.func 44) #[] #[], .func (.func 45) #[] #[]] :: .int .i64 5 :: u19 :: u20 :: u21 :: u22 :: u23 :: u24 :: u25 :: u26 :: u27 :: u28 :: u29 :: u30 :: u31 :: u32 :: u33 :: u34 :: u35 :: u36 :: u37 :: u38 :: u39 :: u40 :: u41 :: u42 :: u43 :: u44 :: u45 :: u46 :: u47 :: u48 :: c49 :: []), []⟩ v0 := by
  conv => arg 2; whnf
  have hix := fun W => allow_Net.ix5 W
  go_wp2_with fail
  have n_HB := Aside0.mk (below_drew1 HB.out)
  have n_BK1 := Aside0.mk (blk_drew BK1.out)
  have n_BK2 := Aside0.mk (blk_drew BK2.out)
  have n_BK4 := Aside0.mk (blk_drew BK4.out)
  have n_BK5 := Aside0.mk (blk_drew BK5.out)
  clear HB BK1 BK2 BK4 BK5
  have HB := n_HB
  clear n_HB
  have BK1 := n_BK1
  clear n_BK1
  have BK2 := n_BK2
  clear n_BK2
  have BK4 := n_BK4
  clear n_BK4
  have BK5 := n_BK5
  clear n_BK5
  obtain ⟨⟨s, e⟩, hse⟩ : ∃ r, r = (if inr64 (a.c + b.c + c.c) then ((a.c + b.c + c.c), (0 : Int)) else (0, 3)) := ⟨_, rfl⟩
  have hsum := allow_Net.sum3 a.c b.c c.c (by have := ha.out; unfold Row6.inr at this; exact this.2.2.2.2.2) (by have := hb0.out; unfold Row6.inr at this; exact this.2.2.2.2.2) (by have := hc.out; unfold Row6.inr at this; exact this.2.2.2.2.2)
  rw [← hse] at hsum
  have HSE := Aside0.mk hse
  have HSUM := Aside0.mk hsum
  clear hse hsum
  refine start_ (n := 19) (S := fun w' => w'.cell? ⟨w.heap.size, 0, none⟩ = some (.int .i64 a.o) ∧ w'.cell? ⟨w.heap.size, 1, none⟩ = some (.int .i64 a.i) ∧ w'.cell? ⟨w.heap.size, 2, none⟩ = some (.int .i64 a.u) ∧ w'.cell? ⟨w.heap.size, 3, none⟩ = some (.int .i64 a.n) ∧ w'.cell? ⟨w.heap.size, 4, none⟩ = some (.int .i64 a.w) ∧ w'.cell? ⟨w.heap.size, 5, none⟩ = some (.int .i64 a.c) ∧ w'.cell? ⟨w.heap.size, 6, none⟩ = some (.int .i64 b.o) ∧ w'.cell? ⟨w.heap.size, 7, none⟩ = some (.int .i64 b.i) ∧ w'.cell? ⟨w.heap.size, 8, none⟩ = some (.int .i64 b.u) ∧ w'.cell? ⟨w.heap.size, 9, none⟩ = some (.int .i64 b.n) ∧ w'.cell? ⟨w.heap.size, 10, none⟩ = some (.int .i64 b.w) ∧ w'.cell? ⟨w.heap.size, 11, none⟩ = some (.int .i64 b.c) ∧ w'.cell? ⟨w.heap.size, 12, none⟩ = some (.int .i64 c.o) ∧ w'.cell? ⟨w.heap.size, 13, none⟩ = some (.int .i64 c.i) ∧ w'.cell? ⟨w.heap.size, 14, none⟩ = some (.int .i64 c.u) ∧ w'.cell? ⟨w.heap.size, 15, none⟩ = some (.int .i64 c.n) ∧ w'.cell? ⟨w.heap.size, 16, none⟩ = some (.int .i64 c.w) ∧ w'.cell? ⟨w.heap.size, 17, none⟩ = some (.int .i64 c.c)) (ds := []) #[false, false, false, false, false, false, false, false, false, false, false, false, false, false, false, false, false, false, false] (by kernel_rfl) rfl rfl ⟨(blk_cell BK1.out 0).trans rfl, (blk_cell BK1.out 1).trans rfl, (blk_cell BK1.out 2).trans rfl, (blk_cell BK1.out 3).trans rfl, (blk_cell BK1.out 4).trans rfl, (blk_cell BK1.out 5).trans rfl, (blk_cell BK1.out 6).trans rfl, (blk_cell BK1.out 7).trans rfl, (blk_cell BK1.out 8).trans rfl, (blk_cell BK1.out 9).trans rfl, (blk_cell BK1.out 10).trans rfl, (blk_cell BK1.out 11).trans rfl, (blk_cell BK1.out 12).trans rfl, (blk_cell BK1.out 13).trans rfl, (blk_cell BK1.out 14).trans rfl, (blk_cell BK1.out 15).trans rfl, (blk_cell BK1.out 16).trans rfl, (blk_cell BK1.out 17).trans rfl⟩ (fun hHeld => ?_)
  generalize v0.drew = x0 at HB BK1 BK2 BK4 BK5 hHeld ⊢
  refine pure_ (i := 0) (N := some 23) (v := ?_) (a' := ?_) #[true, false, false, false, false, false, false, false, false, false, false, false, false, false, false, false, false, false, false] rfl rfl (by kernel_rfl) (fun c_ a_ w_ h => hpan c_ (Act.put a_ _ _) a_ w_ (by rfl) h) (Or.inl ⟨by rfl, ?_⟩) ?_ ?_
  rotate_left
  · intro w'
    go_simp
    with_reducible rfl
  rotate_left
  · simp only [Act.put, List.setIfInBounds_toArray, List.set_cons_zero, List.set_cons_succ, i64_w, i32_w]
    rfl
  refine pure_ (i := 1) (N := some 24) (v := ?_) (a' := ?_) #[true, true, false, false, false, false, false, false, false, false, false, false, false, false, false, false, false, false, false] rfl rfl (by kernel_rfl) (fun c_ a_ w_ h => hpan c_ (Act.put a_ _ _) a_ w_ (by rfl) h) (Or.inl ⟨by rfl, ?_⟩) ?_ ?_
  rotate_left
  · intro w'
    go_simp
    with_reducible rfl
  rotate_left
  · simp only [Act.put, List.setIfInBounds_toArray, List.set_cons_zero, List.set_cons_succ, i64_w, i32_w]
    rfl
  refine pure_ (i := 4) (N := some 27) (v := ?_) (a' := ?_) #[true, true, false, false, true, false, false, false, false, false, false, false, false, false, false, false, false, false, false] rfl rfl (by kernel_rfl) (fun c_ a_ w_ h => hpan c_ (Act.put a_ _ _) a_ w_ (by rfl) h) (Or.inl ⟨by rfl, ?_⟩) ?_ ?_
  rotate_left
  · intro w'
    go_simp
    with_reducible rfl
  rotate_left
  · simp only [Act.put, List.setIfInBounds_toArray, List.set_cons_zero, List.set_cons_succ, i64_w, i32_w]
    rfl
  refine pure_ (i := 5) (N := some 28) (v := ?_) (a' := ?_) #[true, true, false, false, true, true, false, false, false, false, false, false, false, false, false, false, false, false, false] rfl rfl (by kernel_rfl) (fun c_ a_ w_ h => hpan c_ (Act.put a_ _ _) a_ w_ (by rfl) h) (Or.inl ⟨by rfl, ?_⟩) ?_ ?_
  rotate_left
  · intro w'
    go_simp
    with_reducible rfl
  rotate_left
  · simp only [Act.put, List.setIfInBounds_toArray, List.set_cons_zero, List.set_cons_succ, i64_w, i32_w]
    rfl
  refine pure_ (i := 8) (N := some 31) (v := ?_) (a' := ?_) #[true, true, false, false, true, true, false, false, true, false, false, false, false, false, false, false, false, false, false] rfl rfl (by kernel_rfl) (fun c_ a_ w_ h => hpan c_ (Act.put a_ _ _) a_ w_ (by rfl) h) (Or.inl ⟨by rfl, ?_⟩) ?_ ?_
  rotate_left
  · intro w'
    go_simp
    with_reducible rfl
  rotate_left
  · simp only [Act.put, List.setIfInBounds_toArray, List.set_cons_zero, List.set_cons_succ, i64_w, i32_w]
    rfl
  refine pure_ (i := 9) (N := some 32) (v := ?_) (a' := ?_) #[true, true, false, false, true, true, false, false, true, true, false, false, false, false, false, false, false, false, false] rfl rfl (by kernel_rfl) (fun c_ a_ w_ h => hpan c_ (Act.put a_ _ _) a_ w_ (by rfl) h) (Or.inl ⟨by rfl, ?_⟩) ?_ ?_
  rotate_left
  · intro w'
    go_simp
    with_reducible rfl
  rotate_left
  · simp only [Act.put, List.setIfInBounds_toArray, List.set_cons_zero, List.set_cons_succ, i64_w, i32_w]
    rfl
  refine take_ (i := 2) (N := some 25) (v := ?_) (a' := ?_) #[true, true, true, false, true, true, false, false, true, true, false, false, false, false, false, false, false, false, false] rfl rfl (by kernel_rfl) (fun c_ a_ w_ h => hpan c_ (Act.put a_ _ _) a_ w_ (by rfl) h) (Or.inl ⟨by rfl, ?_⟩) hHeld ?_ ?_
  rotate_left
  · rintro w' ⟨s0, s1, s2, s3, s4, s5, s6, s7, s8, s9, s10, s11, s12, s13, s14, s15, s16, s17⟩
    go_simp
    with_reducible rfl
  rotate_left
  · simp only [Act.put, List.setIfInBounds_toArray, List.set_cons_zero, List.set_cons_succ, i64_w, i32_w]
    rfl
  refine take_ (i := 6) (N := some 29) (v := ?_) (a' := ?_) #[true, true, true, false, true, true, true, false, true, true, false, false, false, false, false, false, false, false, false] rfl rfl (by kernel_rfl) (fun c_ a_ w_ h => hpan c_ (Act.put a_ _ _) a_ w_ (by rfl) h) (Or.inl ⟨by rfl, ?_⟩) hHeld ?_ ?_
  rotate_left
  · rintro w' ⟨s0, s1, s2, s3, s4, s5, s6, s7, s8, s9, s10, s11, s12, s13, s14, s15, s16, s17⟩
    go_simp
    with_reducible rfl
  rotate_left
  · simp only [Act.put, List.setIfInBounds_toArray, List.set_cons_zero, List.set_cons_succ, i64_w, i32_w]
    rfl
  refine take_ (i := 10) (N := some 33) (v := ?_) (a' := ?_) #[true, true, true, false, true, true, true, false, true, true, true, false, false, false, false, false, false, false, false] rfl rfl (by kernel_rfl) (fun c_ a_ w_ h => hpan c_ (Act.put a_ _ _) a_ w_ (by rfl) h) (Or.inl ⟨by rfl, ?_⟩) hHeld ?_ ?_
  rotate_left
  · rintro w' ⟨s0, s1, s2, s3, s4, s5, s6, s7, s8, s9, s10, s11, s12, s13, s14, s15, s16, s17⟩
    go_simp
    with_reducible rfl
  rotate_left
  · simp only [Act.put, List.setIfInBounds_toArray, List.set_cons_zero, List.set_cons_succ, i64_w, i32_w]
    rfl
  refine one_ (i := 3) (N := some 26) #[true, true, true, true, true, true, true, false, true, true, true, false, false, false, false, false, false, false, false] rfl rfl (by kernel_rfl) (by decide) (fun K hK => ?_)
  refine goes_v Try.func45 (by kernel_rfl) rfl #[.agg #[.int .i64 a.o, .int .i64 a.i, .int .i64 a.u, .int .i64 a.n, .int .i64 a.w, .int .i64 a.c]] (by rfl) rfl rfl (by rfl) (by (try simp only [List.map_toArray, List.map_cons, List.map_nil]); first | done | rfl) ?_
  with_reducible refine (allow_Net.c33 a _).mono ?_
  rintro e y26_ ⟨rfl, hb⟩
  refine ⟨_, rfl, ?_⟩
  have n_HB := Aside0.mk (below_step HB.out hb)
  have n_BK1 := Aside0.mk (blk_below BK1.out hb)
  have n_BK2 := Aside0.mk (blk_below BK2.out hb)
  have n_BK4 := Aside0.mk (blk_below BK4.out hb)
  have n_BK5 := Aside0.mk (blk_below BK5.out hb)
  clear HB
  have HB := n_HB
  clear n_HB
  clear BK1
  have BK1 := n_BK1
  clear n_BK1
  clear BK2
  have BK2 := n_BK2
  clear n_BK2
  clear BK4
  have BK4 := n_BK4
  clear n_BK4
  clear BK5
  have BK5 := n_BK5
  clear n_BK5
  clear hb
  refine hK.out _ _ ⟨(blk_cell BK1.out 0).trans rfl, (blk_cell BK1.out 1).trans rfl, (blk_cell BK1.out 2).trans rfl, (blk_cell BK1.out 3).trans rfl, (blk_cell BK1.out 4).trans rfl, (blk_cell BK1.out 5).trans rfl, (blk_cell BK1.out 6).trans rfl, (blk_cell BK1.out 7).trans rfl, (blk_cell BK1.out 8).trans rfl, (blk_cell BK1.out 9).trans rfl, (blk_cell BK1.out 10).trans rfl, (blk_cell BK1.out 11).trans rfl, (blk_cell BK1.out 12).trans rfl, (blk_cell BK1.out 13).trans rfl, (blk_cell BK1.out 14).trans rfl, (blk_cell BK1.out 15).trans rfl, (blk_cell BK1.out 16).trans rfl, (blk_cell BK1.out 17).trans rfl⟩ (fun hHeld => ?_)
  clear hK K
  refine norm_ (a' := ?_) ?_ ?_
  rotate_left
  · show Act.put _ (some 26) _ = _
    simp only [Act.put, List.setIfInBounds_toArray, List.set_cons_zero, List.set_cons_succ, i64_w, i32_w]
    rfl
  refine one_ (i := 7) (N := some 30) #[true, true, true, true, true, true, true, true, true, true, true, false, false, false, false, false, false, false, false] rfl rfl (by kernel_rfl) (by decide) (fun K hK => ?_)
  refine goes_v Try.func45 (by kernel_rfl) rfl #[.agg #[.int .i64 b.o, .int .i64 b.i, .int .i64 b.u, .int .i64 b.n, .int .i64 b.w, .int .i64 b.c]] (by rfl) rfl rfl (by rfl) (by (try simp only [List.map_toArray, List.map_cons, List.map_nil]); first | done | rfl) ?_
  with_reducible refine (allow_Net.c33 b _).mono ?_
  rintro e y27_ ⟨rfl, hb⟩
  refine ⟨_, rfl, ?_⟩
  have n_HB := Aside0.mk (below_step HB.out hb)
  have n_BK1 := Aside0.mk (blk_below BK1.out hb)
  have n_BK2 := Aside0.mk (blk_below BK2.out hb)
  have n_BK4 := Aside0.mk (blk_below BK4.out hb)
  have n_BK5 := Aside0.mk (blk_below BK5.out hb)
  clear HB
  have HB := n_HB
  clear n_HB
  clear BK1
  have BK1 := n_BK1
  clear n_BK1
  clear BK2
  have BK2 := n_BK2
  clear n_BK2
  clear BK4
  have BK4 := n_BK4
  clear n_BK4
  clear BK5
  have BK5 := n_BK5
  clear n_BK5
  clear hb
  refine hK.out _ _ ⟨(blk_cell BK1.out 0).trans rfl, (blk_cell BK1.out 1).trans rfl, (blk_cell BK1.out 2).trans rfl, (blk_cell BK1.out 3).trans rfl, (blk_cell BK1.out 4).trans rfl, (blk_cell BK1.out 5).trans rfl, (blk_cell BK1.out 6).trans rfl, (blk_cell BK1.out 7).trans rfl, (blk_cell BK1.out 8).trans rfl, (blk_cell BK1.out 9).trans rfl, (blk_cell BK1.out 10).trans rfl, (blk_cell BK1.out 11).trans rfl, (blk_cell BK1.out 12).trans rfl, (blk_cell BK1.out 13).trans rfl, (blk_cell BK1.out 14).trans rfl, (blk_cell BK1.out 15).trans rfl, (blk_cell BK1.out 16).trans rfl, (blk_cell BK1.out 17).trans rfl⟩ (fun hHeld => ?_)
  clear hK K
  refine norm_ (a' := ?_) ?_ ?_
  rotate_left
  · show Act.put _ (some 30) _ = _
    simp only [Act.put, List.setIfInBounds_toArray, List.set_cons_zero, List.set_cons_succ, i64_w, i32_w]
    rfl
  refine one_ (i := 11) (N := some 34) #[true, true, true, true, true, true, true, true, true, true, true, true, false, false, false, false, false, false, false] rfl rfl (by kernel_rfl) (by decide) (fun K hK => ?_)
  refine goes_v Try.func45 (by kernel_rfl) rfl #[.agg #[.int .i64 c.o, .int .i64 c.i, .int .i64 c.u, .int .i64 c.n, .int .i64 c.w, .int .i64 c.c]] (by rfl) rfl rfl (by rfl) (by (try simp only [List.map_toArray, List.map_cons, List.map_nil]); first | done | rfl) ?_
  with_reducible refine (allow_Net.c33 c _).mono ?_
  rintro e y28_ ⟨rfl, hb⟩
  refine ⟨_, rfl, ?_⟩
  have n_HB := Aside0.mk (below_step HB.out hb)
  have n_BK1 := Aside0.mk (blk_below BK1.out hb)
  have n_BK2 := Aside0.mk (blk_below BK2.out hb)
  have n_BK4 := Aside0.mk (blk_below BK4.out hb)
  have n_BK5 := Aside0.mk (blk_below BK5.out hb)
  clear HB
  have HB := n_HB
  clear n_HB
  clear BK1
  have BK1 := n_BK1
  clear n_BK1
  clear BK2
  have BK2 := n_BK2
  clear n_BK2
  clear BK4
  have BK4 := n_BK4
  clear n_BK4
  clear BK5
  have BK5 := n_BK5
  clear n_BK5
  clear hb
  refine hK.out _ _ ⟨(blk_cell BK1.out 0).trans rfl, (blk_cell BK1.out 1).trans rfl, (blk_cell BK1.out 2).trans rfl, (blk_cell BK1.out 3).trans rfl, (blk_cell BK1.out 4).trans rfl, (blk_cell BK1.out 5).trans rfl, (blk_cell BK1.out 6).trans rfl, (blk_cell BK1.out 7).trans rfl, (blk_cell BK1.out 8).trans rfl, (blk_cell BK1.out 9).trans rfl, (blk_cell BK1.out 10).trans rfl, (blk_cell BK1.out 11).trans rfl, (blk_cell BK1.out 12).trans rfl, (blk_cell BK1.out 13).trans rfl, (blk_cell BK1.out 14).trans rfl, (blk_cell BK1.out 15).trans rfl, (blk_cell BK1.out 16).trans rfl, (blk_cell BK1.out 17).trans rfl⟩ (fun hHeld => ?_)
  clear hK K
  refine norm_ (a' := ?_) ?_ ?_
  rotate_left
  · show Act.put _ (some 34) _ = _
    simp only [Act.put, List.setIfInBounds_toArray, List.set_cons_zero, List.set_cons_succ, i64_w, i32_w]
    rfl
  refine one_ (i := 12) (N := some 35) #[true, true, true, true, true, true, true, true, true, true, true, true, true, false, false, false, false, false, false] rfl rfl (by kernel_rfl) (by decide) (fun K hK => ?_)
  refine value_ (w1 := ?_) (v := ?_) (by rfl) rfl ?_ ?_
  rotate_left 2
  · go_simp
    constructor
    · rfl
    · rfl
  have hb := below_alloc (Below.refl y28_.heap.size y28_) (.cells #[.int .i64 a.c, .int .i64 b.c, .int .i64 c.c] 2)
  have hbox := blk_new y28_ (.cells #[.int .i64 a.c, .int .i64 b.c, .int .i64 c.c] 2)
  have m_ := Aside0.mk hbox
  have n_HB := Aside0.mk (below_step HB.out hb)
  have n_BK1 := Aside0.mk (blk_below BK1.out hb)
  have n_BK2 := Aside0.mk (blk_below BK2.out hb)
  have n_BK4 := Aside0.mk (blk_below BK4.out hb)
  have n_BK5 := Aside0.mk (blk_below BK5.out hb)
  clear HB
  have HB := n_HB
  clear n_HB
  clear BK1
  have BK1 := n_BK1
  clear n_BK1
  clear BK2
  have BK2 := n_BK2
  clear n_BK2
  clear BK4
  have BK4 := n_BK4
  clear n_BK4
  clear BK5
  have BK5 := n_BK5
  clear n_BK5
  clear hb hbox
  generalize y28_.alloc (.cells #[.int .i64 a.c, .int .i64 b.c, .int .i64 c.c] 2) = y29_ at m_ HB BK1 BK2 BK4 BK5 ⊢
  generalize y28_.heap.size = gl at m_ ⊢
  have BKgl := m_
  clear m_
  refine hK.out _ _ ⟨(blk_cell BK1.out 0).trans rfl, (blk_cell BK1.out 1).trans rfl, (blk_cell BK1.out 2).trans rfl, (blk_cell BK1.out 3).trans rfl, (blk_cell BK1.out 4).trans rfl, (blk_cell BK1.out 5).trans rfl, (blk_cell BK1.out 6).trans rfl, (blk_cell BK1.out 7).trans rfl, (blk_cell BK1.out 8).trans rfl, (blk_cell BK1.out 9).trans rfl, (blk_cell BK1.out 10).trans rfl, (blk_cell BK1.out 11).trans rfl, (blk_cell BK1.out 12).trans rfl, (blk_cell BK1.out 13).trans rfl, (blk_cell BK1.out 14).trans rfl, (blk_cell BK1.out 15).trans rfl, (blk_cell BK1.out 16).trans rfl, (blk_cell BK1.out 17).trans rfl⟩ (fun hHeld => ?_)
  clear hK K
  refine norm_ (a' := ?_) ?_ ?_
  rotate_left
  · show Act.put _ (some 35) _ = _
    simp only [Act.put, List.setIfInBounds_toArray, List.set_cons_zero, List.set_cons_succ, i64_w, i32_w]
    rfl
  refine one_ (i := 13) (N := some 36) #[true, true, true, true, true, true, true, true, true, true, true, true, true, true, false, false, false, false, false] rfl rfl (by kernel_rfl) (by decide) (fun K hK => ?_)
  refine goes_ Try.func46 (by kernel_rfl) rfl #[.slice (some ⟨gl, 0, none⟩) 3 3] (by rfl) rfl rfl (by (try simp only [List.map_toArray, List.map_cons, List.map_nil]); first | done | rfl) ?_
  with_reducible refine (allow_Net.sumc HSUM.out BKgl.out).mono ?_
  rintro e y30_ ⟨rfl, hd⟩
  have hb := hd.below
  refine ⟨_, rfl, ?_⟩
  have n_HB := Aside0.mk (below_step HB.out hb)
  have n_BK1 := Aside0.mk (blk_below BK1.out hb)
  have n_BK2 := Aside0.mk (blk_below BK2.out hb)
  have n_BK4 := Aside0.mk (blk_below BK4.out hb)
  have n_BK5 := Aside0.mk (blk_below BK5.out hb)
  have n_BKgl := Aside0.mk (blk_below BKgl.out hb)
  clear HB
  have HB := n_HB
  clear n_HB
  clear BK1
  have BK1 := n_BK1
  clear n_BK1
  clear BK2
  have BK2 := n_BK2
  clear n_BK2
  clear BK4
  have BK4 := n_BK4
  clear n_BK4
  clear BK5
  have BK5 := n_BK5
  clear n_BK5
  clear BKgl
  have BKgl := n_BKgl
  clear n_BKgl
  clear hb
  refine hK.out _ _ ⟨(blk_cell BK1.out 0).trans rfl, (blk_cell BK1.out 1).trans rfl, (blk_cell BK1.out 2).trans rfl, (blk_cell BK1.out 3).trans rfl, (blk_cell BK1.out 4).trans rfl, (blk_cell BK1.out 5).trans rfl, (blk_cell BK1.out 6).trans rfl, (blk_cell BK1.out 7).trans rfl, (blk_cell BK1.out 8).trans rfl, (blk_cell BK1.out 9).trans rfl, (blk_cell BK1.out 10).trans rfl, (blk_cell BK1.out 11).trans rfl, (blk_cell BK1.out 12).trans rfl, (blk_cell BK1.out 13).trans rfl, (blk_cell BK1.out 14).trans rfl, (blk_cell BK1.out 15).trans rfl, (blk_cell BK1.out 16).trans rfl, (blk_cell BK1.out 17).trans rfl⟩ (fun hHeld => ?_)
  clear hK K
  refine norm_ (a' := ?_) ?_ ?_
  rotate_left
  · show Act.put _ (some 36) _ = _
    simp only [Act.put, List.setIfInBounds_toArray, List.set_cons_zero, List.set_cons_succ, i64_w, i32_w]
    rfl
  refine pure_ (i := 14) (N := some 22) (v := ?_) (a' := ?_) #[true, true, true, true, true, true, true, true, true, true, true, true, true, true, true, false, false, false, false] rfl rfl (by kernel_rfl) (fun c_ a_ w_ h => hpan c_ (Act.put a_ _ _) a_ w_ (by rfl) h) (Or.inl ⟨by rfl, ?_⟩) ?_ ?_
  rotate_left
  · intro w'
    go_simp
    with_reducible rfl
  rotate_left
  · simp only [Act.put, List.setIfInBounds_toArray, List.set_cons_zero, List.set_cons_succ, i64_w, i32_w]
    rfl
  refine pure_ (i := 15) (N := some 37) (v := ?_) (a' := ?_) #[true, true, true, true, true, true, true, true, true, true, true, true, true, true, true, true, false, false, false] rfl rfl (by kernel_rfl) (fun c_ a_ w_ h => hpan c_ (Act.put a_ _ _) a_ w_ (by rfl) h) (Or.inl ⟨by rfl, ?_⟩) ?_ ?_
  rotate_left
  · intro w'
    go_simp
    with_reducible rfl
  rotate_left
  · simp only [Act.put, List.setIfInBounds_toArray, List.set_cons_zero, List.set_cons_succ, i64_w, i32_w]
    rfl
  refine pure_ (i := 16) (N := some 38) (v := ?_) (a' := ?_) #[true, true, true, true, true, true, true, true, true, true, true, true, true, true, true, true, true, false, false] rfl rfl (by kernel_rfl) (fun c_ a_ w_ h => hpan c_ (Act.put a_ _ _) a_ w_ (by rfl) h) (Or.inl ⟨by rfl, ?_⟩) ?_ ?_
  rotate_left
  · intro w'
    go_simp
    with_reducible rfl
  rotate_left
  · simp only [Act.put, List.setIfInBounds_toArray, List.set_cons_zero, List.set_cons_succ, i64_w, i32_w]
    rfl
  refine pure_ (i := 17) (N := some 8) (v := ?_) (a' := ?_) #[true, true, true, true, true, true, true, true, true, true, true, true, true, true, true, true, true, true, false] rfl rfl (by kernel_rfl) (fun c_ a_ w_ h => hpan c_ (Act.put a_ _ _) a_ w_ (by rfl) h) (Or.inl ⟨by rfl, ?_⟩) ?_ ?_
  rotate_left
  · intro w'
    go_simp
    with_reducible rfl
  rotate_left
  · simp only [Act.put, List.setIfInBounds_toArray, List.set_cons_zero, List.set_cons_succ, i64_w, i32_w]
    rfl
  refine pure_ (i := 18) (N := some 9) (v := ?_) (a' := ?_) #[true, true, true, true, true, true, true, true, true, true, true, true, true, true, true, true, true, true, true] rfl rfl (by kernel_rfl) (fun c_ a_ w_ h => hpan c_ (Act.put a_ _ _) a_ w_ (by rfl) h) (Or.inl ⟨by rfl, ?_⟩) ?_ ?_
  rotate_left
  · intro w'
    go_simp
    with_reducible rfl
  rotate_left
  · simp only [Act.put, List.setIfInBounds_toArray, List.set_cons_zero, List.set_cons_succ, i64_w, i32_w]
    rfl
  refine done_ (by kernel_rfl) ?_
  clear hHeld HSUM BKgl
  by_cases hi : inr64 (a.c + b.c + c.c)
  case neg =>
    have hq := HSE.out
    rw [if_neg hi] at hq
    simp only [Prod.mk.injEq] at hq
    obtain ⟨rfl, rfl⟩ := hq
    have HI := Aside0.mk hi
    clear hi hK
    go_wp2_with ((with_reducible refine gate_store (t := 38) (p := 2) (v := .tmp 41) rfl ?_); refine Shut.out ?_)
    unfold Shut
    refine store_rowTo rfl 38 (.tmp 2) (.tmp 41) rfl rfl g2 (row6 Row6.z) rfl rfl 38 _ BK2.out (by kernel_rfl) rfl (all6n _ _ _ _ _ _) ?_
    have HBn := Aside0.mk (row_below (g := g2) HB.out (by omega) (row6 Row6.z))
    have BKn := Aside0.mk (setRow_heap _ _ _ (row6 Row6.z) _ _ BK2.out)
    clear HB BK2
    go_wp2_with fail
    exact ⟨HI.out, BKn, HBn⟩
  have hq := HSE.out
  rw [if_pos hi] at hq
  simp only [Prod.mk.injEq] at hq
  obtain ⟨hs, rfl⟩ := hq
  have HS := Aside0.mk hs
  have HI := Aside0.mk hi
  clear hs hi HSE herr
  have kp : y30_.cell? ⟨g5, 5, none⟩ = some (.pointer (some ⟨g4, 5, none⟩)) := blk_cell BK5.out 5
  have kc : y30_.cell? ⟨g4, 5, none⟩ = some (.int .i64 0) := blk_cell BK4.out 5
  have kf := blk_frozen BK4.out 5
  go_wp2_with fail
  have n_HB := Aside0.mk (HB.out.setCell (p := ⟨g4, 5, none⟩) (show w.heap.size ≤ g4 by omega) (.int .i64 s))
  have n_BK1 := Aside0.mk ((Below.heap_setCell y30_ ⟨g4, 5, none⟩ (.int .i64 s) w.heap.size (show w.heap.size ≠ g4 by omega)).trans BK1.out)
  have n_BK2 := Aside0.mk ((Below.heap_setCell y30_ ⟨g4, 5, none⟩ (.int .i64 s) g2 (show g2 ≠ g4 by omega)).trans BK2.out)
  have n_BK5 := Aside0.mk ((Below.heap_setCell y30_ ⟨g4, 5, none⟩ (.int .i64 s) g5 (show g5 ≠ g4 by omega)).trans BK5.out)
  have n_BK4 := Aside0.mk (blk_put BK4.out 5 (.int .i64 s) (show _ = (#[.int .i64 p0, .int .i64 p1, .int .i64 p2, .int .i64 p3, .int .i64 p4, .int .i64 (a.c + b.c + c.c)] : Array Value) from by rw [HS.out]; rfl))
  first | exact ⟨HI.out, n_BK1, n_BK2, n_BK4, n_BK5, n_HB⟩ | (refine hK _ _ _ _ _ _ _ _ _ _ _ _ _ _ _ _ _ _ _ _ _ _ _ _ _ _ _ _ _ _ _ _ _ _ _ ⟨HI.out, n_BK1, n_BK2, n_BK4, n_BK5, n_HB⟩)
set_option maxHeartbeats 16000000 in
set_option maxRecDepth 100000 in
theorem allow_Net.go_ (a b c : Row6) (ha : Aside0 a.inr) (hb0 : Aside0 b.inr) (hc : Aside0 c.inr) (w : World) {r : Row6 × Int} (HRES : Aside0 (allow_Net.g a b c = r)) : Calls Try.prog 21 #[.agg (row18 a b c)] w fun e w' => e = .returned (.tuple #[.agg (row6 r.1), .int .i64 r.2]) ∧ Below w.heap.size w w' := by
  obtain ⟨h1, h2, h3, h4⟩ := allow_Net.start w a b c
  have HB := Aside0.mk h1
  have BK1 := Aside0.mk h2
  have BK2 := Aside0.mk h3
  have BK4 := Aside0.mk h4
  clear h1 h2 h3 h4
  have hix0 := fun W => allow_Net.ix0 W
  have hix1 := fun W => allow_Net.ix1 W
  have hix2 := fun W => allow_Net.ix2 W
  have hix3 := fun W => allow_Net.ix3 W
  have hix4 := fun W => allow_Net.ix4 W
  have hix5 := fun W => allow_Net.ix5 W
  go_enter Try.func21, Try.ntmps21
  go_wp2_with ((with_reducible refine gate_dst (N := 5) rfl ?_); refine Shut.out ?_)
  unfold Shut
  generalize ((w.alloc (.cells (row18 a b c) 39)).alloc (.cells #[.int .i64 0, .int .i64 0, .int .i64 0, .int .i64 0, .int .i64 0, .int .i64 0] 38)).alloc (.cells #[.int .i64 0, .int .i64 0, .int .i64 0, .int .i64 0, .int .i64 0, .int .i64 0] 38) = y0 at HB BK1 BK2 BK4 ⊢
  obtain ⟨g2, hg2⟩ : ∃ g, g = w.heap.size + 1 := ⟨_, rfl⟩
  obtain ⟨g4, hg4⟩ : ∃ g, g = w.heap.size + 1 + 1 := ⟨_, rfl⟩
  rw [← hg4] at BK4 ⊢
  rw [← hg2] at BK2 ⊢
  have hlt2 : w.heap.size < g2 := by omega
  have hlt4 : g2 < g4 := by omega
  clear hg2 hg4
  refine box_event ?hg (N := 5) ?hd (cs := #[.pointer none, .pointer none, .pointer none, .pointer none, .pointer none, .pointer none]) (t := 95) ?hr ?_
  case hd => rfl
  case hg => rfl
  case hr => first | (go_simp; done) | (go_simp; rfl)
  intro g5 hg y1 hbox hb
  have n_HB := Aside0.mk (below_step HB.out hb)
  have n_BK1 := Aside0.mk (blk_below BK1.out hb)
  have n_BK2 := Aside0.mk (blk_below BK2.out hb)
  have n_BK4 := Aside0.mk (blk_below BK4.out hb)
  have hlt5 : g4 < g5 := by have := blk_lt BK4.out; omega
  have n_BK5 := Aside0.mk hbox
  clear HB BK1 BK2 BK4 hb hbox hg
  have HB := n_HB
  clear n_HB
  have BK1 := n_BK1
  clear n_BK1
  have BK2 := n_BK2
  clear n_BK2
  have BK4 := n_BK4
  clear n_BK4
  have BK5 := n_BK5
  clear n_BK5
  go_wp2_with ((with_reducible refine gate_store (t := 95) (p := 5) (v := .tmp 16) rfl ?_); refine Shut.out ?_)
  unfold Shut
  refine store_rowTo rfl 95 (.tmp 5) (.tmp 16) rfl rfl g5 #[.pointer (some ⟨g4, 0, none⟩), .pointer (some ⟨g4, 1, none⟩), .pointer (some ⟨g4, 2, none⟩), .pointer (some ⟨g4, 3, none⟩), .pointer (some ⟨g4, 4, none⟩), .pointer (some ⟨g4, 5, none⟩)] rfl rfl 95 _ BK5.out (by kernel_rfl) rfl (all6p g4) ?_
  have n_HB := Aside0.mk (row_below (g := g5) HB.out (by omega) #[.pointer (some ⟨g4, 0, none⟩), .pointer (some ⟨g4, 1, none⟩), .pointer (some ⟨g4, 2, none⟩), .pointer (some ⟨g4, 3, none⟩), .pointer (some ⟨g4, 4, none⟩), .pointer (some ⟨g4, 5, none⟩)])
  have n_BK1 := Aside0.mk ((setRow_other y1 g5 w.heap.size #[.pointer (some ⟨g4, 0, none⟩), .pointer (some ⟨g4, 1, none⟩), .pointer (some ⟨g4, 2, none⟩), .pointer (some ⟨g4, 3, none⟩), .pointer (some ⟨g4, 4, none⟩), .pointer (some ⟨g4, 5, none⟩)] (by omega)).trans BK1.out)
  have n_BK2 := Aside0.mk ((setRow_other y1 g5 g2 #[.pointer (some ⟨g4, 0, none⟩), .pointer (some ⟨g4, 1, none⟩), .pointer (some ⟨g4, 2, none⟩), .pointer (some ⟨g4, 3, none⟩), .pointer (some ⟨g4, 4, none⟩), .pointer (some ⟨g4, 5, none⟩)] (by omega)).trans BK2.out)
  have n_BK4 := Aside0.mk ((setRow_other y1 g5 g4 #[.pointer (some ⟨g4, 0, none⟩), .pointer (some ⟨g4, 1, none⟩), .pointer (some ⟨g4, 2, none⟩), .pointer (some ⟨g4, 3, none⟩), .pointer (some ⟨g4, 4, none⟩), .pointer (some ⟨g4, 5, none⟩)] (by omega)).trans BK4.out)
  have n_BK5 := Aside0.mk (setRow_heap _ _ _ #[.pointer (some ⟨g4, 0, none⟩), .pointer (some ⟨g4, 1, none⟩), .pointer (some ⟨g4, 2, none⟩), .pointer (some ⟨g4, 3, none⟩), .pointer (some ⟨g4, 4, none⟩), .pointer (some ⟨g4, 5, none⟩)] _ _ BK5.out)
  clear HB BK1 BK2 BK4 BK5
  generalize y1.setRow g5 #[.pointer (some ⟨g4, 0, none⟩), .pointer (some ⟨g4, 1, none⟩), .pointer (some ⟨g4, 2, none⟩), .pointer (some ⟨g4, 3, none⟩), .pointer (some ⟨g4, 4, none⟩), .pointer (some ⟨g4, 5, none⟩)] = v0 at n_HB n_BK1 n_BK2 n_BK4 n_BK5 ⊢
  have HB := n_HB
  clear n_HB
  have BK1 := n_BK1
  clear n_BK1
  have BK2 := n_BK2
  clear n_BK2
  have BK4 := n_BK4
  clear n_BK4
  have BK5 := n_BK5
  clear n_BK5
  go_wp2_with fail
  refine wp_loop_rounds 7 ?_
  rw [rounds_succ]
  replace BK4 : Aside0 (v0.heap[g4]? = some (.cells #[.int .i64 0, .int .i64 0, .int .i64 0, .int .i64 0, .int .i64 0, .int .i64 0] 38 (0, 0))) := ⟨BK4.out⟩
  refine allow_Net.round0 ha hb0 hc hlt2 hlt4 hlt5 BK1 BK2 BK4 BK5 HB (fun c_ a_ b_ w_ hd h => by cases a_; cases b_; cases hd; exact h) ?er ?_
  case er =>
    clear BK1 BK2 BK4 BK5 HB
    intro x6 x7 x8 x9 x18 x19 x20 x21 x22 x23 x24 x25 x26 x27 x28 x29 x30 x31 x32 x33 x34 x35 x36 x37 x38 x39 x40 x41 x42 x43 x44 x45 x46 x47 x48 w1
    rintro ⟨hi, BKn, HBn⟩
    have hr : r = (Row6.z, 3) := by rw [← HRES.out]; unfold allow_Net.g; rw [if_neg (fun z => hi z.1)]
    subst hr
    clear hi HRES
    go_wp2_with fail
    exact bodyPost_ret (v := .tuple #[.agg (row6 Row6.z), .int .i64 3]) (results_ct Try.results21 _ _ g2 38 _ (0, 0) _ rfl BKn.out Try.underlying38 rfl (by kernel_rfl)) rfl ⟨rfl, HBn.out⟩
  clear BK1 BK2 BK4 BK5 HB
  intro x6 x7 x8 x9 x19 x20 x21 x22 x23 x24 x25 x26 x27 x28 x29 x30 x31 x32 x33 x34 x35 x36 x37 x38 x39 x40 x41 x42 x43 x44 x45 x46 x47 x48 v1
  rintro ⟨hi0, BK1, BK2, BK4, BK5, HB⟩
  have HI0 := Aside0.mk hi0
  clear hi0
  rw [rounds_succ]
  refine allow_Net.round1 ha hb0 hc hlt2 hlt4 hlt5 BK1 BK2 BK4 BK5 HB (fun c_ a_ b_ w_ hd h => by cases a_; cases b_; cases hd; exact h) ?er ?_
  case er =>
    clear BK1 BK2 BK4 BK5 HB
    intro x6 x7 x8 x9 x18 x19 x20 x21 x22 x23 x24 x25 x26 x27 x28 x29 x30 x31 x32 x33 x34 x35 x36 x37 x38 x39 x40 x41 x42 x43 x44 x45 x46 x47 x48 w1
    rintro ⟨hi, BKn, HBn⟩
    have hr : r = (Row6.z, 3) := by rw [← HRES.out]; unfold allow_Net.g; rw [if_neg (fun z => hi z.2.1)]
    subst hr
    clear hi HRES
    go_wp2_with fail
    exact bodyPost_ret (v := .tuple #[.agg (row6 Row6.z), .int .i64 3]) (results_ct Try.results21 _ _ g2 38 _ (0, 0) _ rfl BKn.out Try.underlying38 rfl (by kernel_rfl)) rfl ⟨rfl, HBn.out⟩
  clear BK1 BK2 BK4 BK5 HB
  intro x6 x7 x8 x9 x19 x20 x21 x22 x23 x24 x25 x26 x27 x28 x29 x30 x31 x32 x33 x34 x35 x36 x37 x38 x39 x40 x41 x42 x43 x44 x45 x46 x47 x48 v2
  rintro ⟨hi1, BK1, BK2, BK4, BK5, HB⟩
  have HI1 := Aside0.mk hi1
  clear hi1
  rw [rounds_succ]
  refine allow_Net.round2 ha hb0 hc hlt2 hlt4 hlt5 BK1 BK2 BK4 BK5 HB (fun c_ a_ b_ w_ hd h => by cases a_; cases b_; cases hd; exact h) ?er ?_
  case er =>
    clear BK1 BK2 BK4 BK5 HB
    intro x6 x7 x8 x9 x18 x19 x20 x21 x22 x23 x24 x25 x26 x27 x28 x29 x30 x31 x32 x33 x34 x35 x36 x37 x38 x39 x40 x41 x42 x43 x44 x45 x46 x47 x48 w1
    rintro ⟨hi, BKn, HBn⟩
    have hr : r = (Row6.z, 3) := by rw [← HRES.out]; unfold allow_Net.g; rw [if_neg (fun z => hi z.2.2.1)]
    subst hr
    clear hi HRES
    go_wp2_with fail
    exact bodyPost_ret (v := .tuple #[.agg (row6 Row6.z), .int .i64 3]) (results_ct Try.results21 _ _ g2 38 _ (0, 0) _ rfl BKn.out Try.underlying38 rfl (by kernel_rfl)) rfl ⟨rfl, HBn.out⟩
  clear BK1 BK2 BK4 BK5 HB
  intro x6 x7 x8 x9 x19 x20 x21 x22 x23 x24 x25 x26 x27 x28 x29 x30 x31 x32 x33 x34 x35 x36 x37 x38 x39 x40 x41 x42 x43 x44 x45 x46 x47 x48 v3
  rintro ⟨hi2, BK1, BK2, BK4, BK5, HB⟩
  have HI2 := Aside0.mk hi2
  clear hi2
  rw [rounds_succ]
  refine allow_Net.round3 ha hb0 hc hlt2 hlt4 hlt5 BK1 BK2 BK4 BK5 HB (fun c_ a_ b_ w_ hd h => by cases a_; cases b_; cases hd; exact h) ?er ?_
  case er =>
    clear BK1 BK2 BK4 BK5 HB
    intro x6 x7 x8 x9 x18 x19 x20 x21 x22 x23 x24 x25 x26 x27 x28 x29 x30 x31 x32 x33 x34 x35 x36 x37 x38 x39 x40 x41 x42 x43 x44 x45 x46 x47 x48 w1
    rintro ⟨hi, BKn, HBn⟩
    have hr : r = (Row6.z, 3) := by rw [← HRES.out]; unfold allow_Net.g; rw [if_neg (fun z => hi z.2.2.2.1)]
    subst hr
    clear hi HRES
    go_wp2_with fail
    exact bodyPost_ret (v := .tuple #[.agg (row6 Row6.z), .int .i64 3]) (results_ct Try.results21 _ _ g2 38 _ (0, 0) _ rfl BKn.out Try.underlying38 rfl (by kernel_rfl)) rfl ⟨rfl, HBn.out⟩
  clear BK1 BK2 BK4 BK5 HB
  intro x6 x7 x8 x9 x19 x20 x21 x22 x23 x24 x25 x26 x27 x28 x29 x30 x31 x32 x33 x34 x35 x36 x37 x38 x39 x40 x41 x42 x43 x44 x45 x46 x47 x48 v4
  rintro ⟨hi3, BK1, BK2, BK4, BK5, HB⟩
  have HI3 := Aside0.mk hi3
  clear hi3
  rw [rounds_succ]
  refine allow_Net.round4 ha hb0 hc hlt2 hlt4 hlt5 BK1 BK2 BK4 BK5 HB (fun c_ a_ b_ w_ hd h => by cases a_; cases b_; cases hd; exact h) ?er ?_
  case er =>
    clear BK1 BK2 BK4 BK5 HB
    intro x6 x7 x8 x9 x18 x19 x20 x21 x22 x23 x24 x25 x26 x27 x28 x29 x30 x31 x32 x33 x34 x35 x36 x37 x38 x39 x40 x41 x42 x43 x44 x45 x46 x47 x48 w1
    rintro ⟨hi, BKn, HBn⟩
    have hr : r = (Row6.z, 3) := by rw [← HRES.out]; unfold allow_Net.g; rw [if_neg (fun z => hi z.2.2.2.2.1)]
    subst hr
    clear hi HRES
    go_wp2_with fail
    exact bodyPost_ret (v := .tuple #[.agg (row6 Row6.z), .int .i64 3]) (results_ct Try.results21 _ _ g2 38 _ (0, 0) _ rfl BKn.out Try.underlying38 rfl (by kernel_rfl)) rfl ⟨rfl, HBn.out⟩
  clear BK1 BK2 BK4 BK5 HB
  intro x6 x7 x8 x9 x19 x20 x21 x22 x23 x24 x25 x26 x27 x28 x29 x30 x31 x32 x33 x34 x35 x36 x37 x38 x39 x40 x41 x42 x43 x44 x45 x46 x47 x48 v5
  rintro ⟨hi4, BK1, BK2, BK4, BK5, HB⟩
  have HI4 := Aside0.mk hi4
  clear hi4
  rw [rounds_succ]
  refine allow_Net.round5 ha hb0 hc hlt2 hlt4 hlt5 BK1 BK2 BK4 BK5 HB (fun c_ a_ b_ w_ hd h => by cases a_; cases b_; cases hd; exact h) ?er ?_
  case er =>
    clear BK1 BK2 BK4 BK5 HB
    intro x6 x7 x8 x9 x18 x19 x20 x21 x22 x23 x24 x25 x26 x27 x28 x29 x30 x31 x32 x33 x34 x35 x36 x37 x38 x39 x40 x41 x42 x43 x44 x45 x46 x47 x48 w1
    rintro ⟨hi, BKn, HBn⟩
    have hr : r = (Row6.z, 3) := by rw [← HRES.out]; unfold allow_Net.g; rw [if_neg (fun z => hi z.2.2.2.2.2)]
    subst hr
    clear hi HRES
    go_wp2_with fail
    exact bodyPost_ret (v := .tuple #[.agg (row6 Row6.z), .int .i64 3]) (results_ct Try.results21 _ _ g2 38 _ (0, 0) _ rfl BKn.out Try.underlying38 rfl (by kernel_rfl)) rfl ⟨rfl, HBn.out⟩
  clear BK1 BK2 BK4 BK5 HB
  intro x6 x7 x8 x9 x19 x20 x21 x22 x23 x24 x25 x26 x27 x28 x29 x30 x31 x32 x33 x34 x35 x36 x37 x38 x39 x40 x41 x42 x43 x44 x45 x46 x47 x48 v6
  rintro ⟨hi5, BK1, BK2, BK4, BK5, HB⟩
  have HI5 := Aside0.mk hi5
  clear hi5
  rw [rounds_succ]
  have hr : r = (⟨a.o + b.o + c.o, a.i + b.i + c.i, a.u + b.u + c.u, a.n + b.n + c.n, a.w + b.w + c.w, a.c + b.c + c.c⟩, 0) := by
    rw [← HRES.out]; unfold allow_Net.g
    rw [if_pos ⟨HI0.out, HI1.out, HI2.out, HI3.out, HI4.out, HI5.out⟩]
  subst hr
  clear HRES
  replace BK4 : Aside0 (v6.heap[g4]? = some (.cells (row6 ⟨a.o + b.o + c.o, a.i + b.i + c.i, a.u + b.u + c.u, a.n + b.n + c.n, a.w + b.w + c.w, a.c + b.c + c.c⟩) 38 (0, 0))) := ⟨BK4.out⟩
  go_wp2_with (first | ((with_reducible refine gate_dst (N := 49) rfl ?_); refine wpList_load_row rfl 38 (.tmp 4) rfl g4 rfl 38 _ (0, 0) _ BK4.out Try.underlying38 rfl (by kernel_rfl) ?_) | ((with_reducible refine gate_store (t := 38) (p := 2) (v := .tmp 49) rfl ?_); refine Shut.out ?_))
  unfold Shut
  refine store_rowTo rfl 38 (.tmp 2) (.tmp 49) rfl rfl g2 (row6 ⟨a.o + b.o + c.o, a.i + b.i + c.i, a.u + b.u + c.u, a.n + b.n + c.n, a.w + b.w + c.w, a.c + b.c + c.c⟩) rfl rfl 38 _ BK2.out (by kernel_rfl) rfl (all6n _ _ _ _ _ _) ?_
  have HBn := Aside0.mk (row_below (g := g2) HB.out (by omega) (row6 ⟨a.o + b.o + c.o, a.i + b.i + c.i, a.u + b.u + c.u, a.n + b.n + c.n, a.w + b.w + c.w, a.c + b.c + c.c⟩))
  have BKn := Aside0.mk (setRow_heap _ _ _ (row6 ⟨a.o + b.o + c.o, a.i + b.i + c.i, a.u + b.u + c.u, a.n + b.n + c.n, a.w + b.w + c.w, a.c + b.c + c.c⟩) _ _ BK2.out)
  clear HB BK2
  go_wp2_with fail
  exact bodyPost_ret (v := .tuple #[.agg (row6 ⟨a.o + b.o + c.o, a.i + b.i + c.i, a.u + b.u + c.u, a.n + b.n + c.n, a.w + b.w + c.w, a.c + b.c + c.c⟩), .int .i64 0]) (results_ct Try.results21 _ _ g2 38 _ (0, 0) _ rfl BKn.out Try.underlying38 rfl (by kernel_rfl)) rfl ⟨rfl, HBn.out⟩


end Go.Proofs.Ytpcllhhbaockfaa.Print
